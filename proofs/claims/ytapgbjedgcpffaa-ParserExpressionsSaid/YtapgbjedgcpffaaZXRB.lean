/-
The evaluator is sound: regions, code, calls, laws.
-/
import Derived.Test.YtapgbjedgcpffaaZXRA
import Derived.Below
import Derived.ChangeSame
import Derived.ChangeArms
namespace Go.R
structure Ext(H H':Heap):Prop where
 next:H.next<=H'.next
 log: ∃d,H'.log=d++H.log/\∀b,b<H.next->b∉d->H'.get b=H.get b
 far: ∀b,H'.next<=b->H'.get b=H.get b
theorem Ext.refl(H:Heap):Ext H H:=⟨a05 _,⟨[],rfl,fun _ _ _=>rfl⟩,fun _ _=>rfl⟩
theorem Ext.trans{H H1 E:Heap}(h:Ext H H1)(k:Ext H1 E):Ext H E:=by
 obtain⟨O,U,Y⟩:=h.log;obtain⟨T,V,Z⟩:=k.log;refine⟨a0j h.next k.next,⟨T++O,by rw[V,U,a0s],fun b z A=>?_⟩,fun b z=>?_⟩
 ·rw[a0b,not_or]at A;rw[Z b (a0H z h.next) A.1,Y b z A.2]
 rw[k.far b z,h.far b (a0j k.next z)]
theorem Ext.push(H:Heap)(o:AObj):Ext H (H.push o):=by refine⟨by simp,⟨[],rfl,fun b h _=>Heap.get_push_ne H o (by omega)⟩,fun b h=>Heap.get_push_ne H o ?_⟩;simp at h;omega
theorem Ext.put{H:Heap}{b:Nat}(o:AObj)(z:b<H.next):Ext H (H.put b o):=by refine⟨a05 _,⟨[b],rfl,fun k _ h=>Heap.get_put_ne H o (fun e=>h (by simp[e]))⟩,fun k h=>Heap.get_put_ne H o ?_⟩;simp at h;omega
def WF(H:Heap):Prop:= ∀b,H.next<=b->H.get b=none
theorem WF.ext{H H':Heap}(h:WF H)(e:Ext H H'):WF H':=fun b z=>by rw[e.far b z];exact h b (a0j e.next z)
theorem WF.lt{H:Heap}(h:WF H){b:Nat}{o:AObj}(z:H.get b=some o):b<H.next:=by
 rcases a0c b H.next with hl|hl
 ·exact hl
 rw[h b hl]at z;cases z
section ext
variable {P:Program} {H H':Heap}
def ER(H:Heap){α:Type}(r:Option (α×Heap)):Prop:= ∀a H',r=some (a,H')->Ext H H'
theorem ER.none_{α:Type}:ER H (none:Option (α×Heap)):=fun _ _ h=>by cases h
theorem ER.some_{α:Type}{a:α}{H1:Heap}(h:Ext H H1):ER H (some (a,H1)):=fun _ _ e=>by injection e with e;injection e with _ e;subst e;exact h
theorem ER.same{α:Type}{a:α}:ER H (some (a,H)):=ER.some_ (Ext.refl H)
theorem ER.bif_{α:Type}{c:Bool}{x y:Option (α×Heap)}(h:ER H x)(k:ER H y):ER H (bif c then x else y):=by cases c<;>assumption
def EO(H:Heap)(r:Option Heap):Prop:= ∀H',r=some H'->Ext H H'
theorem EO.none_:EO H none:=fun _ h=>by cases h
theorem EO.some_{H1:Heap}(h:Ext H H1):EO H (some H1):=fun _ e=>by injection e with e;subst e;exact h
theorem EO.bif_{c:Bool}{x y:Option Heap}(h:EO H x)(k:EO H y):EO H (bif c then x else y):=by cases c<;>assumption
theorem ER.ovl_(r:Option Value):ER H (ovl r H):=by unfold ovl;split;exact ER.same;exact ER.none_
theorem ER.ovh_{r:Option (Value×Heap)}(h:ER H r):ER H (ovh r):=by
 unfold ovh;split
 ·rename_i v z;exact ER.some_ (h v z rfl)
 exact ER.none_
theorem ER.osk_{r:Option Heap}(h:EO H r):ER H (osk r):=by
 unfold osk;split
 ·rename_i z;exact ER.some_ (h z rfl)
 exact ER.none_
theorem ER.lift_(s:Sem Value):ER H (lift P s H):=by unfold lift;split;exact ER.same;exact ER.none_
theorem ER.plain_(ρ:Operand->Value)(o:Oper):ER H (bg P ρ o H):=by
 unfold bg;refine ER.bif_ ?_ ER.none_;split
 ·exact ER.bif_ ER.same ER.none_
 exact ER.none_
theorem gF(z:WF H)(a:Addr)(A:List Value):EO H (H.storeL a A):=by
 unfold Heap.storeL;split
 ·split
  ·rename_i h;exact EO.bif_ (EO.some_ (Ext.put _ (z.lt h))) EO.none_
  exact EO.none_
 exact EO.none_
theorem append_ext(z:WF H)(types:Array TypeId)(s x:Value):ER H (eN P types s x H):=by
 unfold eN;split
 case h_2=>exact ER.none_
 split
 case h_2=>exact ER.none_
 split
 ·exact ER.none_
 split
 case h_2=>exact ER.none_
 split
 ·exact ER.none_
 split
 ·exact ER.bif_ ER.same (ER.bif_ (ER.some_ (Ext.push _ _)) ER.none_)
 ·split
  ·rename_i E;refine ER.bif_ (ER.bif_ ER.same ?_) (ER.bif_ ?_ ER.none_)
   ·split
    ·rename_i A h;exact ER.some_ (gF z _ _ A h)
    exact ER.none_
   split
   ·exact ER.none_
   split
   ·exact ER.some_ (Ext.push _ _)
   exact ER.bif_ (ER.some_ ((Ext.put .dead (z.lt E)).trans (Ext.push _ _))) ER.none_
  exact ER.none_
 exact ER.none_
theorem copy_ext(A:WF H)(types:Array TypeId)(d s:Value):ER H (aCopy P types d s H):=by
 unfold aCopy;split
 case h_2=>exact ER.none_
 split
 case h_2=>exact ER.none_
 split
 case h_2=>exact ER.none_
 refine ER.bif_ ER.same ?_;split
 ·split
  ·rename_i z h;exact ER.some_ (gF A _ _ z h)
  exact ER.none_
 exact ER.none_
theorem aop_er(z:WF H)(ρ:Operand->Value)(o:Oper):ER H (aop P ρ o H):=by
 unfold aop;split
 ·exact ER.same
 ·exact ER.same
 ·unfold eW;split;exact ER.same;exact ER.none_
 ·unfold d7;split;exact ER.some_ (Ext.push _ _);exact ER.none_
 ·exact ER.some_ (Ext.push _ _)
 ·unfold fS;split;exact ER.lift_ _;exact ER.none_
 ·unfold bp;split
  ·refine ER.bif_ ?_ ER.none_;split
   ·exact ER.some_ (Ext.push _ _)
   exact ER.none_
  exact ER.none_
 ·unfold dM;split;exact ER.ovl_ _;exact ER.none_
 ·unfold fQ;split
  ·split
   ·exact ER.bif_ (ER.osk_ (gF z _ _)) ER.none_
   exact ER.none_
  exact ER.none_
 ·unfold opNil;split;exact ER.same;exact ER.same;exact ER.none_
 ·unfold aBin;split
  ·unfold binInt;split;exact ER.ovl_ _;exact ER.none_
  ·unfold binStr;split;exact ER.ovl_ _;exact ER.none_
  unfold kE;split
  ·exact ER.plain_ _ _
  ·exact ER.plain_ _ _
  intro a H' h;rw[(gL h).1];exact Ext.refl _
 ·unfold fw;split;exact ER.ovl_ _;exact ER.plain_ _ _
 ·exact ER.same
 ·refine ER.ovh_ ?_;unfold aMake;split
  ·split
   ·exact ER.bif_ (ER.some_ (Ext.push _ _)) ER.none_
   exact ER.none_
  exact ER.none_
 ·exact ER.ovl_ _
 ·exact ER.ovl_ _
 ·exact ER.ovl_ _
 ·exact ER.ovl_ _
 ·unfold jk;split;exact ER.ovl_ _;exact ER.lift_ _
 ·exact ER.ovl_ _
 ·unfold opCall;split
  ·unfold kO;split
   ·unfold bLen;split;exact ER.ovl_ _;exact ER.none_
   ·unfold bAppend;split;exact ER.ovh_ (append_ext z _ _ _);exact ER.none_
   ·unfold bCopy;split;exact ER.ovh_ (copy_ext z _ _ _);exact ER.none_
   ·exact ER.plain_ _ _
   ·exact ER.plain_ _ _
   exact ER.none_
  ·unfold fk;split;exact ER.same;exact ER.none_
  exact ER.none_
 ·unfold aUn;split
  ·split;exact ER.same;exact ER.none_
  exact ER.plain_ _ _
 exact ER.none_
theorem kJ(z:WF H){ρ:Operand->Value}{o:Oper}{r:AN}(h:aop P ρ o H=some (r,H')):Ext H H':=aop_er z ρ o r H' h
end ext
section
variable {P:Program} {μ:Emb} {H H':Heap} {w:World}
theorem two_of{l:List Value}{a b:Value}{z:Array Value}(h:LRel μ l z.toList)(Z:l=[a,b]): ∃A E,z= #[A,E]/\VRel μ a A/\VRel μ b E:=by subst Z;obtain⟨A,t,T,V,ht⟩:=h.cons_left;obtain⟨E,t2,U,Y,O⟩:=ht.cons_left;have:=O.nil_left;subst this U;exact⟨A,E,a0Q.1 (by rw[T]),V,Y⟩
theorem one_of{l:List Value}{a:Value}{z:Array Value}(h:LRel μ l z.toList)(T:l=[a]): ∃A,z= #[A]/\VRel μ a A:=by subst T;obtain⟨A,t,E,O,U⟩:=h.cons_left;have:=U.nil_left;subst this;exact⟨A,a0Q.1 (by rw[E]),O⟩
theorem OpOK.of_value{s:Sem Next}{v v':Value}(h: ∀w,s.run P w= .ok (.value v') w)(A:WRel μ H w)(z:VRel μ v v'):OpOK P μ H w s (.val v) H:=
 ⟨.value v',w,μ,h w,Post.refl A,z⟩
theorem eJ{ρ ρ':Operand->Value}{x:Option Operand}(h: ∀y,x=some y->VRel μ (ρ y) (ρ' y)):
  (∀v,x.map ρ=some v->∃v',x.map ρ'=some v'/\VRel μ v v')/\(x.map ρ=none->x.map ρ'=none):=by
 cases x with
 |none=>exact⟨fun v z=>by simp at z,fun _=>rfl⟩
 |some y=>exact⟨fun v z=>by simp at z;subst z;exact⟨_,rfl,h y rfl⟩,fun A=>by simp at A⟩
set_option maxHeartbeats 4000000 in
theorem gA{ρ ρ':Operand->Value}{o:Oper}{r:AN}(U: ∀x∈o.op.operands,VRel μ (ρ x) (ρ' x))(V:WRel μ H w)
  (hf: ∀b,H.next<=b->b<H'.next->μ b=none) (h:aop P ρ o H=some (r,H')):OpOK P μ H w (execOp ρ' o) r H':=by
 cases hk:aV o.op with
 |true=>
  obtain⟨rfl,v,v',rfl,E,hr⟩:=iF hk U h
  exact OpOK.of_value E V hr
 |false=>
  obtain⟨ax,op,T,pos,after,Y⟩:=o
  cases op<;>simp only[aV,reduceCtorEq]at hk
  case alloc e=>
   have O:d7 P e H=some (r,H'):=h
   have:=alloc_sound V hf O
   exact this
  case box e x=>
   have O:some (AN.val (ptrTo H.next),aO H (ρ x).cells.toList none)=some (r,H'):=h
   simp only[a00,a02]at O
   obtain⟨rfl,rfl⟩:=O
   have:=box_sound (P:=P) (e:=e) V (hf H.next (a05 _) (by simp[aO])) (U x (by simp[Op.operands]))
   exact this
  case buildSlice t n parts=>
   have O:bp P t n (eP (fun p=>(p.1,ρ p.2)) parts.toList) H=some (r,H'):=h
   rw[iY]at O
   have:=ia (ps':=parts.map fun(i,x)=>(i,ρ' x)) V hf (by simp) (fun i x x' h1 h2=>?_) O
   ·exact this
   simp only[Array.toList_map,a1o,a1n]at h1 h2
   obtain⟨y,hy,rfl⟩:=h1
   obtain⟨z,hz,rfl⟩:=h2
   rw[hy]at hz;injection hz with hz;subst hz
   refine⟨rfl,U _ ?_⟩
   have:=a0h hy
   simp only[Op.operands,List.mem_toArray,a0l]
   exact⟨y,this,rfl⟩
  case load t a=>
   have O:dM P t (ρ a) H=some (r,H'):=h
   have:=load_sound V (U a (by simp[Op.operands])) O
   exact this
  case store t a x=>
   have O:fQ P t (ρ a) (ρ x) H=some (r,H'):=h
   have:=store_sound V (U a (by simp[Op.operands])) (U x (by simp[Op.operands])) O
   exact this
  case convert s d x=>
   have O:fw P ρ ⟨ax,.convert s d x,T,pos,after,Y⟩ s d (ρ x) H=some (r,H'):=h
   exact kv (o:=⟨ax,.convert s d x,T,pos,after,Y⟩) V rfl U O
  case makeMap=>cases h
  case makeSlice t l c=>
   have O:ovh (aMake P t (ρ l) (ρ c) H)=some (r,H'):=h
   have:=make_sound V hf (U l (by simp[Op.operands])) (U c (by simp[Op.operands])) O
   exact this
  case slice t x lo hi mx=>
   obtain⟨a1,a2⟩:=eJ (μ:=μ) (ρ:=ρ) (ρ':=ρ') (x:=lo) fun y hy=>U y (by subst hy;simp[Op.operands])
   obtain⟨b1,b2⟩:=eJ (μ:=μ) (ρ:=ρ) (ρ':=ρ') (x:=hi) fun y hy=>U y (by subst hy;simp[Op.operands])
   obtain⟨_,c2⟩:=eJ (μ:=μ) (ρ:=ρ) (ρ':=ρ') (x:=mx) fun y hy=>U y (by subst hy;simp[Op.operands])
   have O:ovl (bS P t (ρ x) (lo.map ρ) (hi.map ρ) (mx.map ρ) H) H=some (r,H'):=h
   have:=slice_sound V (U x (by simp[Op.operands])) a1 a2 b1 b2 c2 O
   exact this
  case lookup=>cases h
  case mapUpdate=>cases h
  case insert=>cases h
  case range=>cases h
  case next=>cases h
  case call c=>
   obtain⟨al,args,A⟩:=c
   have Z:LRel μ (eP ρ args.toList) (args.map ρ').toList:=by
    rw[iY];have:=iA (μ:=μ) (ops:=args) (ρ:=ρ) (ρ':=ρ') fun x hx=>U x (by simp[Op.operands,Call.operands];exact .inr hx)
    simpa using this
   have h:opCall P ρ ⟨ax,.call ⟨al,args,A⟩,T,pos,after,Y⟩ ⟨al,args,A⟩ H=some (r,H'):=h
   unfold opCall at h
   cases al with
   |invoke rv nm=>simp at h
   |value f=>
    simp only at h
    unfold fk at h
    split at h
    ·rename_i n hn;simp only[a00,a02]at h;obtain⟨rfl,rfl⟩:=h;obtain⟨i,ch,rfl,b4,E,hr⟩:=callee_sound (P:=P) (U f (by simp[Op.operands,Call.operands])) Z hn;refine⟨.enter i b4,w,μ,?_,Post.refl V,rfl,hr⟩;have:=E w;simpa only[execOp,resolve] using this
    cases h
   |builtin b=>
    simp only at h
    unfold kO at h
    have a0:bg P ρ ⟨ax,.call ⟨.builtin b,args,A⟩,T,pos,after,Y⟩ H=some (r,H')->OpOK P μ H w (execOp ρ' ⟨ax,.call ⟨.builtin b,args,A⟩,T,pos,after,Y⟩) r H':=by intro hp;obtain⟨rfl,v,v',rfl,E,hr⟩:=da hp (fun _ _=>by simp) U;exact OpOK.of_value E V hr
    split at h
    ·--len
     unfold bLen at h;split at h
     ·rename_i t x ht hx;obtain⟨x',a3,b3⟩:=one_of Z hx;obtain⟨rfl,v,hv,rfl⟩:=cv h;obtain⟨E,hn⟩:=len_sound (P:=P) (ty:=T) V b3 hv;have a9:A= #[t]:=a0Q.1 (by rw[ht]);refine⟨.value v,w,μ,?_,Post.refl V,.atom v hn⟩;simp only[execOp,resolve,Sem.run_bind,Sem.run_pure,Result.andThen_ok,invoke,builtin,a3,a9,E]
     cases h
    ·unfold bAppend at h;split at h
     ·rename_i t1 t2 s x ht hx;obtain⟨s',x',a3,bl,b3⟩:=two_of Z hx;obtain⟨v,hv,rfl⟩:=ovh_inv h;have a9:A= #[t1,t2]:=a0Q.1 (by rw[ht]);obtain⟨v',w',μ',E,hp,hr⟩:=append_sound (P:=P) (ty:=T) V hf bl b3 (by rw[a9];rfl) hv;refine⟨.value v',w',μ',?_,hp,hr⟩;simp only[execOp,resolve,Sem.run_bind,Sem.run_pure,Result.andThen_ok,invoke,builtin,a3,E]
     cases h
    ·unfold bCopy at h;split at h
     ·rename_i d s hx;obtain⟨d',s',a3,cb,bl⟩:=two_of Z hx;obtain⟨v,hv,rfl⟩:=ovh_inv h;obtain⟨v',w',E,hp,hr⟩:=copy_sound (P:=P) (ty:=T) V cb bl hv;refine⟨.value v',w',μ,?_,hp,hr⟩;simp only[execOp,resolve,Sem.run_bind,Sem.run_pure,Result.andThen_ok,invoke,builtin,a3,E]
     cases h
    ·exact a0 h
    ·exact a0 h
    cases h
  all_goals simp[aop]at h
end
end Go.R
namespace Go.R
@[simp] theorem lget_nil(i:Nat):cE .nil i=undef:=rfl
@[simp] theorem lget_lset_same(t:Tr Value)(d:Nat)(v:Value):cE (lset t d v) d=v:=by simp[cE,lset]
theorem lget_lset_ne(t:Tr Value){d k:Nat}(v:Value)(h:d≠k):cE (lset t d v) k=cE t k:=by simp[cE,lset,Tr.get_set_ne _ _ h]
theorem eZ(t:Tr Value)(d k:Nat)(v:Value):cE (lset t d v) k=if d=k then v else cE t k:=by
 by_cases h:d=k
 ·subst h;simp
 rw[if_neg h,lget_lset_ne t v h]
def TRel(μ:Emb)(t:Tr Value)(n:Nat)(a:Array Value):Prop:=a.size=n/\∀i,VRel μ (cE t i) (a.getD i undef)
def GRel(μ:Emb)(G:Nat):Prop:= ∀g,g<G->∃l,μ g=some l/\l.c=g/\l.sh=0
section
variable {P:Program} {G:Nat} {μ μ':Emb}
theorem TRel.mono(h: ∀b l,μ b=some l->μ' b=some l){t:Tr Value}{n:Nat}{a:Array Value}(z:TRel μ t n a):TRel μ' t n a:=⟨z.1,fun i=>(z.2 i).mono h⟩
theorem GRel.mono(h: ∀b l,μ b=some l->μ' b=some l)(T:GRel μ G):GRel μ' G:=fun g z=>by obtain⟨l,A,E,O⟩:=T g z;exact⟨l,h _ _ A,E,O⟩
theorem getD_set(a:Array Value)(d i:Nat)(v:Value):(a.setIfInBounds d v).getD i undef=if d=i/\d<a.size then v else a.getD i undef:=by
 simp only[a0u,a0M];by_cases h:d=i
 ·subst h;by_cases z:d<a.size
  ·simp[z]
  simp[z]
 simp[h]
theorem TRel.put{t:Tr Value}{n:Nat}{a:Array Value}(h:TRel μ t n a){d:Nat}(z:d<n){v v':Value}(A:VRel μ v v'):TRel μ (lset t d v) n (a.setIfInBounds d v'):=by
 refine⟨by simp[h.1],fun i=>?_⟩;rw[eZ,getD_set];by_cases hi:d=i
 ·rw[if_pos hi,if_pos ⟨hi,by rw[h.1];exact z⟩];exact A
 rw[if_neg hi,if_neg (fun e=>hi e.1)];exact h.2 i
theorem eval_of(T:GRel μ G){tm:Tr Value}{a:Act}{x:Operand}(z:bh G x=true)(h: ∀t,x= .tmp t->VRel μ (cE tm t) (a.tmps.getD t undef)):
  VRel μ (cT tm x) (a.eval x):=by
 cases x with
 |tmp t=>exact h t rfl
 |const v=>exact VRel.refl2 z
 |global g=>
  obtain⟨l,A,E,O⟩:=T g (a0a z)
  have:=VRel.ptr (μ:=μ) g 0 l A
  rw[E,O]at this;exact this
 |func f=>exact .atom _ rfl
theorem yield_eq{ops:Array Oper}{tm:Tr Value}{a:Array Value}{j:Nat}(h: ∀d,(ops[j]?).bind (·.dst)=some d->VRel μ (cE tm d) (a.getD d undef)):
  jt ops tm j=yielded ops a j:=by
 unfold jt yielded
 cases O:(ops[j]?).bind (·.dst) with
 |none=>rfl
 |some d=>
  have z:=h d O
  simp only[a0e]
  simp only[a0u]at z
  cases E:a[d]? with
  |none=>
   rw[E]at z
   simp only[Option.getD_none]at z
   have: ∀b,cE tm d≠ .bool b:=by intro b e;rw[e]at z;have:=z.bool_inv;cases this
   cases A:cE tm d<;>first|rfl|exact absurd A (this _)
  |some x=>
   rw[E]at z
   simp only[a1e]at z
   cases x with
   |bool b=>
    have:cE tm d= .bool b:=by generalize cE tm d=y at z;cases z;rfl
    rw[this]
   |_=>
    have: ∀b,cE tm d≠ .bool b:=by intro b e;rw[e]at z;have:=z.bool_inv;cases this
    cases A:cE tm d<;>first|rfl|exact absurd A (this _)
theorem wanted_eq{ops:Array Oper}{o:Oper}{tm:Tr Value}{a:Array Value}(h: ∀j w,o.guard=some (j,w)->∀d,(ops[j]?).bind (·.dst)=some d->VRel μ (cE tm d) (a.getD d undef)):
  aY ops o tm=Region.wanted o (yielded ops a):=by
 unfold aY Region.wanted
 cases z:o.guard with
 |none=>rfl
 |some p=>
  obtain⟨j,w⟩:=p
  simp only
  rw[yield_eq (h j w z)]
def dG(P:Program)(G:Nat)(cf:bY):Prop:= ∀f args H v H',cf f args H=some (v,H')->WF H->Ext H H'/\
 ∀μ w (cargs:Array Value),LRel μ args cargs.toList->GRel μ G->WRel μ H w->(∀b,H.next<=b->b<H'.next->μ b=none)->
  Calls P f cargs w fun e w'=> ∃μ' v',e= .returned v'/\VRel μ' v v'/\Post μ H w μ' H' w'
noncomputable def dN (P : Program) (cf : bY) (ρ : Operand -> Value) (o : Oper) (H : Heap) : Option (Value × Heap) :=
 match aop P ρ o H with
 |some (.val v,h)=>some (v,h)
 |some (.skip,h)=>some (undef,h)
 |some (.enter f args,h)=>cf f args h
 |none=>none
theorem step_eq(cf:bY)(ops:Array Oper)(o:Oper)(s:St):step P G cf ops o s=
  bif aY ops o s.tmps then
   bif o.op.operands.toList.all (bh G) then
    match dN P cf (cT s.tmps) o s.heap with
    |some (v,h)=>{s with heap:=h}.put o.dst v
    |none=>none
   else none
  else s.put o.dst undef:=by
 unfold step dN
 cases aY ops o s.tmps with
 |false=>rfl
 |true=>
  cases o.op.operands.toList.all (bh G) with
  |false=>rfl
  |true=>
   simp only[cond_true]
   cases aop P (cT s.tmps) o s.heap with
   |none=>rfl
   |some p=>
    obtain⟨r,h⟩:=p
    cases r with
    |val v=>rfl
    |skip=>rfl
    |enter f args=>
     simp only
     cases cf f args h with
     |none=>rfl
     |some q=>rfl
theorem fN{s A:St}{z:Option Tmp}{v:Value}(h:s.put z v=some A):
  A.size=s.size/\A.heap=s.heap/\((z=none/\A.tmps=s.tmps)\/∃d,z=some d/\d<s.size/\A.tmps=lset s.tmps d v):=by
 unfold St.put at h
 split at h
 ·rename_i d;cases E:Nat.ble (d+1) s.size with
  |false=>rw[E]at h;cases h
  |true=>
   rw[E]at h;simp only[cond_true,a00]at h;subst h
   exact⟨rfl,rfl,.inr ⟨d,rfl,a0a E,rfl⟩⟩
 injection h with h;subst h;exact⟨rfl,rfl,.inl ⟨rfl,rfl⟩⟩
theorem jO{cf:bY}(T:dG P G cf){ρ:Operand->Value}{o:Oper}{H H':Heap}{v:Value}(A:WF H)(h:dN P cf ρ o H=some (v,H')):Ext H H':=by
 unfold dN at h;split at h
 ·rename_i u E z;simp only[a00,a02]at h;rw[←h.2];exact kJ A z
 ·rename_i E z;simp only[a00,a02]at h;rw[←h.2];exact kJ A z
 ·rename_i f args E z;have O:=kJ A z;exact O.trans (T f args E v H' h (A.ext O)).1
 cases h
theorem hJ{cf:bY}(a8:dG P G cf){ρ:Operand->Value}{o:Oper}{a:Act}{H H':Heap}{v:Value}{w:World}(an:WF H)(hρ: ∀x∈o.op.operands,VRel μ (ρ x) (a.eval x))
  (hG:GRel μ G) (hw:WRel μ H w) (hf: ∀b,H.next<=b->b<H'.next->μ b=none) (h:dN P cf ρ o H=some (v,H')) {K:Act->World->Prop} {Q:Exit->Act->World->Prop}
  (hK: ∀μ' w' v',Post μ H w μ' H' w'->VRel μ' v v'->K (a.put o.dst v') w'):o.wp P a w K Q:=by
 unfold dN at h
 unfold Oper.wp
 split at h
 ·rename_i u h1 O;simp only[a00,a02]at h;obtain⟨rfl,rfl⟩:=h;obtain⟨n,w1,T,z,A,E⟩:=gA hρ hw hf O;rw[z];cases n<;>first|exact hK T w1 _ A E|exact E.elim
 ·rename_i h1 O;simp only[a00,a02]at h;obtain⟨rfl,rfl⟩:=h;obtain⟨n,w1,T,z,A,E⟩:=gA hρ hw hf O;rw[z];cases n<;>first|exact hK T w1 _ A VRel.undef|exact E.elim
 ·rename_i f args h1 O;have e1:=kJ an O;obtain⟨e2,Z⟩:=a8 f args h1 v H' h (an.ext e1);obtain⟨n,w1,T,z,A,E⟩:=gA hρ hw (fun b U V=>hf b U (a0H V e2.next)) O;rw[z];cases n with
  |enter f' cargs=>
   obtain⟨rfl,Y⟩:=E
   rw[Oper.upon_enter]
   refine(Z T w1 cargs Y (hG.mono A.ext) A.wrel (fun b U V=>?_)).mono ?_
   ·cases hb:T b with
    |none=>rfl
    |some l=>
     rcases A.dom b l hb with hb0|⟨_,hb3⟩
     ·rw[hf b (a0j e1.next U) V]at hb0;cases hb0
     omega
   rintro e w2 ⟨μ2,v',rfl,hv,hp2⟩
   exact hK μ2 w2 v' (A.trans hp2 e1.next e2.next) hv
  |_=>exact E.elim
 cases h
theorem ij{cf:bY}(A:dG P G cf){ops:Array Oper}{o:Oper}{s O:St}(U:WF s.heap)(h:step P G cf ops o s=some O):Ext s.heap O.heap:=by
 rw[step_eq]at h;cases E:aY ops o s.tmps with
 |false=>rw[E]at h;rw[(fN h).2.1];exact Ext.refl _
 |true=>
  rw[E]at h
  cases z:o.op.operands.toList.all (bh G) with
  |false=>rw[z]at h;cases h
  |true=>
   rw[z]at h
   simp only[cond_true]at h
   split at h
   ·rename_i v V T;rw[(fN h).2.1];exact jO A U T
   cases h
theorem er(a:Act)(h:Option Tmp)(v:Value):(a.put h v).defers=a.defers:=by cases h<;>rfl
theorem put_rel{s E:St}{z:Option Tmp}{v v':Value}{a:Act}(h:s.put z v=some E)(T:TRel μ s.tmps s.size a.tmps)(V:VRel μ v v'):
  TRel μ E.tmps E.size (a.put z v').tmps:=by
 obtain⟨O,_,⟨rfl,A⟩|⟨d,rfl,U,A⟩⟩:=fN h
 ·rw[O,A];exact T
 rw[O,A];exact T.put U V
theorem step_sound{cf:bY}(Z:dG P G cf){ops:Array Oper}{i:Nat}{o:Oper}(ho:ops[i]?=some o){s E:St}{a:Act}{w:World}(a1:WF s.heap)(O:TRel μ s.tmps s.size a.tmps)
  (V:GRel μ G) (hw:WRel μ s.heap w) (hf: ∀b,s.heap.next<=b->b<E.heap.next->μ b=none) (h:step P G cf ops o s=some E) {K:Act->World->Prop} {Q:Exit->Act->World->Prop}
  (Y: ∀μ' w' U,Post μ s.heap w μ' E.heap w'->TRel μ' E.tmps E.size U.tmps->U.defers=a.defers->K U w'):wpOp P ops Q i K a w:=by
 unfold wpOp
 rw[ho]
 simp only
 have T:aY ops o s.tmps=Region.wanted o (yielded ops a.tmps):=wanted_eq (μ:=μ) fun _ _ _ d _=>O.2 d
 rw[step_eq,T]at h
 cases hq:Region.wanted o (yielded ops a.tmps) with
 |false=>
  rw[hq]at h
  simp only[cond_false]at h
  simp only[a0d,if_false]
  have z:=(fN h).2.1
  exact Y μ w _ (by rw[z];exact Post.refl hw) (put_rel h O VRel.undef) (er _ _ _)
 |true=>
  rw[hq]at h
  simp only[if_true]
  left
  cases A:o.op.operands.toList.all (bh G) with
  |false=>rw[A]at h;cases h
  |true=>
   rw[A]at h
   simp only[cond_true]at h
   split at h
   ·rename_i v h1 he;have z:=(fN h).2.1;simp only at z;refine hJ Z a1 (fun x hx=>eval_of V (a0o.1 A x (by simpa using hx)) fun t _=>O.2 t) V hw (by rw[←z];exact hf) he ?_;intro μ' w' v' hp hv;have ax:TRel μ' s.tmps s.size a.tmps:=O.mono hp.ext;exact Y μ' w' _ (by rw[z];exact hp) (put_rel (s:={s with heap:=h1}) h ax hv) (er _ _ _)
   cases h
theorem gI{cf:bY}(A:dG P G cf){ops:Array Oper}: ∀(l:List Oper) (s z:St),WF s.heap->eO P G cf ops l s=some z->Ext s.heap z.heap
 | [],s,z,_,h=>by rw[gH]at h;injection h with h;subst h;exact Ext.refl _
 |o::os,s,z,hw,h=>by
  rw[bK]at h;split at h
  ·rename_i T O;have E:=ij A hw O;exact E.trans (gI A os T z (hw.ext E) h)
  cases h
theorem gV{cf:bY}(A:dG P G cf){ops:Array Oper}{Q:Exit->Act->World->Prop}: ∀(l:List Oper) (k:Nat) (s z:St),ops.toList.drop k=l->eO P G cf ops l s=some z->
  ∀(μ:Emb) (a:Act) (w:World),WF s.heap->TRel μ s.tmps s.size a.tmps->GRel μ G->WRel μ s.heap w->(∀b,s.heap.next<=b->b<z.heap.next->μ b=none)->
  (∀μ' w' Y,Post μ s.heap w μ' z.heap w'->TRel μ' z.tmps z.size Y.tmps->Y.defers=a.defers->Q .normal Y w')->wpOps P ops Q (List.range' k l.length) a w
 | [],k,s,z,_,h,μ,a,w,hwf,ht,hG,hw,hf,hQ=>by rw[gH]at h;injection h with h;subst h;simp only[List.length_nil,List.range'_zero,wpOps];exact hQ μ w a (Post.refl hw) ht rfl
 |o::os,k,s,z,hd,h,μ,a,w,hwf,ht,hG,hw,hf,hQ=>by
  rw[bK]at h;split at h
  ·rename_i s1 h1;have T:=ij A hwf h1;have Z:=gI A os s1 z (hwf.ext T) h;have hk:k<ops.toList.length:=by
    rcases a0c k ops.toList.length with hl|hl
    ·exact hl
    rw[a1m hl]at hd;cases hd
   have V:=a0T hk;rw[hd]at V;injection V with h2 h3;have ho:ops[k]?=some o:=by
    have:ops.toList[k]?=some o:=by rw[a09 hk,←h2]
    simpa using this
   simp only[a07,List.range'_succ];rw[wpOps_cons];refine step_sound A ho hwf ht hG hw (fun b E O=>hf b E (a0H O Z.next)) h1 ?_;intro μ1 w1 a1 U a4 an;refine gV A os (k+1) s1 z h3.symm h μ1 a1 w1 (hwf.ext T) a4 (hG.mono U.ext) U.wrel (fun b E O=>?_) ?_
   ·cases hb:μ1 b with
    |none=>rfl
    |some l=>
     rcases U.dom b l hb with hb0|⟨_,hb3⟩
     ·rw[hf b (a0j T.next E) O]at hb0;cases hb0
     omega
   intro μ2 w2 a2 a3 a8 ax;exact hQ μ2 w2 a2 (U.trans a3 T.next Z.next) a8 (ax.trans an)
  cases h
end
end Go.R
set_option linter.unusedVariables false
set_option linter.unusedSimpArgs false
namespace Go.R
def js(l:List Nat)(o:Oper):Nat:=o.after.toList.foldl (fun s e=>bif Region.binds .any e then s|||2^e.on|||l.getD e.on 0 else s) 0
theorem f7: ∀(os:List Oper) (z:List Nat),∃t,ancs os z=z++t/\t.length=os.length
 | [],z=>⟨[],by simp[ancs],rfl⟩
 |o::os,z=>by obtain⟨t,h,A⟩:=f7 os (z++[js z o]);refine⟨js z o::t,?_,by simp[A]⟩;show ancs os (z++[js z o])=_;rw[h];simp
theorem ancs_at: ∀(os:List Oper) (z:List Nat) (k:Nat) (o:Oper),os[k]?=some o->
  (ancs os z).getD (z.length+k) 0=js ((ancs os z).take (z.length+k)) o
 | [],z,k,o,h=>by simp at h
 |x::os,z,0,o,h=>by
  simp at h;subst h;obtain⟨t,h,_⟩:=f7 os (z++[js z x]);have e:ancs (x::os) z=z++([js z x]++t):=by show ancs os (z++[js z x])=_;rw[h];simp
  rw[e];simp
 |x::os,z,k+1,o,h=>by have ih:=ancs_at os (z++[js z x]) k o (by simpa using h);have e:ancs (x::os) z=ancs os (z++[js z x]):=rfl;rw[e];simp only[a01,List.length_singleton]at ih;rw[show z.length+(k+1)=z.length+1+k by omega];exact ih
theorem fold_bit(l:List Nat)(j:Nat): ∀(es:List Edge) (s:Nat),(es.foldl (fun s e=>bif Region.binds .any e then s|||2^e.on|||l.getD e.on 0 else s) s).testBit j=true->
  s.testBit j=true\/∃e∈es,Region.binds .any e=true/\(e.on=j\/(l.getD e.on 0).testBit j=true)
 | [],s,h=> .inl h
 |e::es,s,h=>by
  simp only[List.foldl_cons]at h;rcases fold_bit l j es _ h with h1|⟨e',he,h2⟩
  ·cases z:Region.binds .any e with
   |false=>rw[z]at h1;exact .inl h1
   |true=>
    rw[z]at h1
    simp only[cond_true,Nat.testBit_or,a0D]at h1
    rcases h1 with(h1|h1)|h1
    ·exact .inl h1
    ·rw[Nat.testBit_two_pow]at h1;exact .inr ⟨e,by simp,z,.inl (by simpa using h1)⟩
    exact .inr ⟨e,by simp,z,.inr h1⟩
  exact .inr ⟨e',by simp[he],h2⟩
theorem ordered_edge{ops:Array Oper}{j k:Nat}(h:bd (bV ops) j k=true):
  ∃o,ops[k]?=some o/\∃e∈o.after.toList,Region.binds .any e=true/\(e.on=j\/(e.on<k/\bd (bV ops) j e.on=true)):=by
 unfold bd at h
 have E:k<ops.toList.length:=by
  obtain⟨t,O,T⟩:=f7 ops.toList [];rcases a0c k ops.toList.length with hlt|hge
  ·exact hlt
  have:(bV ops).getD k 0=0:=by unfold bV;rw[O,a0U,a08,a18 (by omega)];rfl
  rw[this]at h;simp at h
 have A:ops.toList[k]?=some ops.toList[k]:=a09 E
 have z:=ancs_at ops.toList [] k _ A
 simp only[List.length_nil,a0Y]at z
 change (bV ops).getD k 0=js ((bV ops).take k) _ at z
 rw[z]at h
 rcases fold_bit _ j _ 0 h with h1|⟨e,he,hb,h2⟩
 ·simp at h1
 refine⟨ops.toList[k],by rw[←Array.getElem?_toList];exact A,e,he,hb,?_⟩
 rcases h2 with h2|h2
 ·exact .inl h2
 right
 rcases a0c e.on k with hlt|hge
 ·refine⟨hlt,?_⟩;unfold bd;rw[a08,a0G,if_pos hlt,←a08]at h2;exact h2
 rw[a08,a0G,if_neg (by omega)]at h2
 simp at h2
def DC(ops:Array Oper)(S:Nat->Bool):Prop:= ∀(k:Nat) o,ops[k]?=some o->S k=true->∀e∈o.after.toList,Region.binds .any e=true->S e.on=true
theorem DC.anc{ops:Array Oper}{S:Nat->Bool}(h:DC ops S){j:Nat}: ∀(k:Nat),S k=true->bd (bV ops) j k=true->S j=true:=by
 intro k;induction k using Nat.strongRecOn with
 |_ k ih=>
  intro T U
  obtain⟨o,z,e,O,E,A⟩:=ordered_edge U
  have hs:=h k o z T e O E
  rcases A with rfl|⟨hlt,h2⟩
  ·exact hs
  exact ih e.on hlt hs h2
structure RegFacts(ops:Array Oper):Prop where
 back: ∀(j:Nat) o,ops[j]?=some o->∀e∈o.after.toList,Region.binds .any e=true->e.on<j
 pair: ∀(i j:Nat) x o,i<j->ops[i]?=some x->ops[j]?=some o->bd (bV ops) i j=true\/x.apart ops o=true
theorem regOK_facts{ops:Array Oper}(h:iO ops=true):RegFacts ops:=by
 unfold iO at h;simp only[a0o,List.mem_range]at h;refine⟨fun j o A e U T=>?_,fun i j x o O V A=>?_⟩
 ·have E:j<ops.size:=(a0v.1 A).1;have:=h j E;rw[A]at this;simp only[a03,a0o]at this;have z:=this.1.1 e U;rw[T]at z;simp only[a1i,a1u]at z;exact a0a z
 have E:j<ops.size:=(a0v.1 A).1;have:=h j E;rw[A]at this;simp only[a03,a0o,List.mem_range]at this;have z:=this.2 i O;rw[V]at z;simpa using z
section
variable (st:Nat->St) (vl:Nat->Value) (ops:Array Oper)
def chg(k b:Nat):Prop:=(st (k+1)).heap.get b≠(st k).heap.get b
open Classical in
noncomputable def iw (S : Nat -> Bool) : Nat -> Nat -> Option AObj
 |0,b=>(st 0).heap.get b
 |k+1,b=>if S k=true/\chg st k b then(st (k+1)).heap.get b else iw S k b
def hZ(k:Nat):Option Tmp:=(ops[k]?).bind (·.dst)
open Classical in
noncomputable def tv (S : Nat -> Bool) : Nat -> Nat -> Value
 |0,t=>cE (st 0).tmps t
 |k+1,t=>if S k=true/\hZ ops k=some t then vl k else tv S k t
theorem jf{S:Nat->Bool}{b i:Nat}: ∀m,(∀k,k<m->chg st k b->(S k=true↔k<i))->iw st S m b=(st (min m i)).heap.get b
 |0,_=>by simp[iw]
 |m+1,h=>by
  have ih:=jf m fun k A=>h k (by omega)
  unfold iw;by_cases z:m<i
  ·rw[show min (m+1) i=m+1 by omega];rw[show min m i=m by omega]at ih;by_cases hc:chg st m b
   ·rw[if_pos ⟨(h m (by omega) hc).2 z,hc⟩]
   rw[if_neg (fun e=>hc e.2),ih];unfold chg at hc;exact(Classical.not_not.1 hc).symm
  rw[show min (m+1) i=i by omega];rw[show min m i=i by omega]at ih;rw[if_neg (fun e=>z ((h m (by omega) e.2).1 e.1)),ih]
theorem jR{S S':Nat->Bool}{b:Nat}: ∀m,(∀k,k<m->chg st k b->S k=S' k)->iw st S m b=iw st S' m b
 |0,_=>rfl
 |m+1,h=>by
  have ih:=jR m fun k z=>h k (by omega)
  unfold iw;by_cases hc:chg st m b
  ·rw[h m (by omega) hc,ih]
  rw[if_neg (fun e=>hc e.2),if_neg (fun e=>hc e.2),ih]
theorem tv_eq{S:Nat->Bool}{t i:Nat}(z: ∀k,cE (st (k+1)).tmps t=if hZ ops k=some t then vl k else cE (st k).tmps t):
  ∀m,(∀k,k<m->hZ ops k=some t->(S k=true↔k<i))->tv st vl ops S m t=cE (st (min m i)).tmps t
 |0,_=>by simp[tv]
 |m+1,h=>by
  have ih:=tv_eq z m fun k E=>h k (by omega)
  unfold tv;by_cases A:m<i
  ·rw[show min (m+1) i=m+1 by omega];rw[show min m i=m by omega]at ih;by_cases hc:hZ ops m=some t
   ·rw[if_pos ⟨(h m (by omega) hc).2 A,hc⟩,z,if_pos hc]
   rw[if_neg (fun e=>hc e.2),ih,z,if_neg hc]
  rw[show min (m+1) i=i by omega];rw[show min m i=i by omega]at ih;rw[if_neg (fun e=>A ((h m (by omega) e.2).1 e.1)),ih]
theorem tv_congr{S S':Nat->Bool}{t:Nat}: ∀m,(∀k,k<m->hZ ops k=some t->S k=S' k)->tv st vl ops S m t=tv st vl ops S' m t
 |0,_=>rfl
 |m+1,h=>by
  have ih:=tv_congr m fun k z=>h k (by omega)
  unfold tv;by_cases hc:hZ ops m=some t
  ·rw[h m (by omega) hc,ih]
  rw[if_neg (fun e=>hc e.2),if_neg (fun e=>hc e.2),ih]
end
structure Inv(ops:Array Oper)(st:Nat->St)(vl:Nat->Value)(μ0:Emb)(w0:World)(d0:List Deferred)(S:Nat->Bool)(μ:Emb)(a:Act)(w:World):Prop where
 dc:DC ops S
 dom: ∀b l,μ b=some l->b<(st 0).heap.next\/(∃k,k<ops.size/\S k=true/\(st k).heap.next<=b/\b<(st (k+1)).heap.next)\/(st ops.size).heap.next<=b
 obj: ∀b l o,μ b=some l->iw st S ops.size b=some o->ObjRel μ w l o
 inj: ∀b1 b2 l1 l2 o1 o2,b1≠b2->μ b1=some l1->μ b2=some l2->iw st S ops.size b1=some o1->iw st S ops.size b2=some o2->o1.rw=true->o2.live=true->l1.c≠l2.c
 size:a.tmps.size=(st 0).size
 tm: ∀t,VRel μ (tv st vl ops S ops.size t) (a.tmps.getD t undef)
 defers:a.defers=d0
 ext0: ∀b l,μ0 b=some l->μ b=some l
 dom0: ∀b l,μ b=some l->μ0 b=some l\/((st 0).heap.next<=b/\b<(st ops.size).heap.next)
 grow0:w0.heap.size<=w.heap.size
 os0:w.os=w0.os
 tape0:w.tape=w0.tape
 out0:w.output=w0.output
 keep0: ∀c,c<w0.heap.size->(∀b l o,μ0 b=some l->(st 0).heap.get b=some o->o.rw=true->l.c≠c)->w.heap[c]?=w0.heap[c]?
 img0: ∀b l o,μ b=some l->iw st S ops.size b=some o->o.live=true->
  w0.heap.size<=l.c\/∃b0 l0 o0,μ0 b0=some l0/\(st 0).heap.get b0=some o0/\o0.live=true/\(o.rw=true->o0.rw=true)/\l0.c=l.c
def hR(S:Nat->Bool)(i:Nat):Nat->Bool:=fun k=>Nat.beq k i||S k
theorem fe(S:Nat->Bool)(i:Nat):hR S i i=true:=by simp[hR]
theorem ff(S:Nat->Bool){i k:Nat}(h:k≠i):hR S i k=S k:=by
 have:Nat.beq k i=false:=by
  cases z:Nat.beq k i with
  |false=>rfl
  |true=>exact absurd (a04 z) h
 simp[hR,this]
theorem Inv.next{ops:Array Oper}{st:Nat->St}{vl:Nat->Value}{μ0 μ μ':Emb}{w0 w w':World}{d0:List Deferred}{S:Nat->Bool}{a:Act}{i:Nat}{H Hn:Heap}{o:Oper}{v':Value}
  (I:Inv ops st vl μ0 w0 d0 S μ a w) (hi:i<ops.size) (ho:ops[i]?=some o) (E:Post μ H w μ' Hn w') (hv:VRel μ' (vl i) v') (bb: ∀k,(st k).heap.next<=(st (k+1)).heap.next)
  (c9:(st i).heap.next<=H.next) (dd:Hn.next<=(st (i+1)).heap.next)
  (c1: ∀b l x,μ b=some l->H.get b=some x->iw st S ops.size b=some x)
  (c2: ∀b l x,μ' b=some l->Hn.get b=some x->iw st (hR S i) ops.size b=some x)
  (c3: ∀b l x,μ' b=some l->Hn.get b=none->iw st (hR S i) ops.size b=some x->μ b=some l/\H.get b=none/\iw st S ops.size b=some x)
  (cm:DC ops (hR S i)) (co: ∀d,o.dst=some d->d<(st 0).size)
  (c4: ∀t,o.dst=some t->tv st vl ops (hR S i) ops.size t=vl i) (ch: ∀t,o.dst≠some t->tv st vl ops (hR S i) ops.size t=tv st vl ops S ops.size t):
  Inv ops st vl μ0 w0 d0 (hR S i) μ' (a.put o.dst v') w':=by
 have cb: ∀k,(st 0).heap.next<=(st k).heap.next:=by
  intro k;induction k with
  |zero=>exact a05 _
  |succ k ih=>exact a0j ih (bb k)
 have monoL: ∀j k,j<=k->(st j).heap.next<=(st k).heap.next:=by
  intro j k h;induction h with
  |refl=>exact a05 _
  |step _ ih=>exact a0j ih (bb _)
 have c5:=monoL (i+1) ops.size hi
 have cl: ∀b l x,μ b=some l->H.get b=none->iw st S ops.size b=some x->x.live=true->w'.heap[l.c]?=w.heap[l.c]?:=by
  intro b l x z hh hc an;refine E.keep l.c ((I.obj b l x z hc).lt an) fun T Z o2 U b8 ax=>?_
  exact I.inj T b Z l o2 x (fun e=>by subst e;rw[hh]at b8;cases b8) U z (c1 T Z o2 U b8) hc ax an
 refine⟨cm,fun b l z=>?_,fun b l x z hc=>?_,fun b1 T l1 Z o1 o2 cd a9 U a2 O a0 ax=>?_,?_,fun t=>?_,?_,fun b l z=>E.ext b l (I.ext0 b l z),fun b l z=>?_,a0j I.grow0 E.grow,
  E.os.trans I.os0,E.tape.trans I.tape0,E.out.trans I.out0,fun c hc b7=>?_,fun b l x z hc an=>?_⟩
 ·rcases E.dom b l z with A|⟨A,Y⟩
  ·rcases I.dom b l A with Y|⟨k,hk,hs,V,h4⟩|Y
   ·exact .inl Y
   ·refine .inr (.inl ⟨k,hk,?_,V,h4⟩);unfold hR;rw[hs];simp
   exact .inr (.inr Y)
  exact .inr (.inl ⟨i,hi,fe S i,by omega,by omega⟩)
 ·cases hg:Hn.get b with
  |some y=>
   have:=c2 b l y z hg
   rw[this]at hc;injection hc with hc;subst hc
   exact E.wrel.obj b l y z hg
  |none=>
   obtain⟨A,Y,V⟩:=c3 b l x z hg hc
   exact(I.obj b l x A V).keep E.ext E.grow (fun an=>cl b l x A Y V an)
 ·--no two blocks at one place
  cases ba:Hn.get b1 with
  |some y1=>
   have e1:=c2 b1 l1 y1 a9 ba
   rw[e1]at a2;injection a2 with a2;subst a2
   cases al:Hn.get T with
   |some y2=>
    have e2:=c2 T Z y2 U al
    rw[e2]at O;injection O with O;subst O
    exact E.wrel.inj b1 T l1 Z y1 y2 cd a9 U ba al a0 ax
   |none=>
    obtain⟨A,Y,V⟩:=c3 T Z o2 U al O
    have cw:=(I.obj T Z o2 A V).lt ax
    rcases E.img b1 l1 y1 a9 ba (fI a0) with hh|⟨b0,l0,o0,g1,g2,g3,g4,g5⟩
    ·omega
    rw[←g5]
    exact I.inj b0 T l0 Z o0 o2 (fun e=>by subst e;rw[Y]at g2;cases g2) g1 A (c1 b0 l0 o0 g1 g2) V (g4 a0) ax
  |none=>
   obtain⟨A,Y,V⟩:=c3 b1 l1 o1 a9 ba a2
   cases al:Hn.get T with
   |some y2=>
    have e2:=c2 T Z y2 U al
    rw[e2]at O;injection O with O;subst O
    have cw:=(I.obj b1 l1 o1 A V).lt (fI a0)
    rcases E.img T Z y2 U al ax with hh|⟨b0,l0,o0,g1,g2,g3,g4,g5⟩
    ·omega
    rw[←g5]
    exact I.inj b1 b0 l1 l0 o1 o0 (fun e=>by subst e;rw[Y]at g2;cases g2) A g1 V (c1 b0 l0 o0 g1 g2) a0 g3
   |none=>
    obtain⟨k1,k2,k3⟩:=c3 T Z o2 U al O
    exact I.inj b1 T l1 Z o1 o2 cd A k1 V k3 a0 ax
 ·cases hd:o.dst with
  |none=>exact I.size
  |some d=>simp only[Act.put,Array.size_setIfInBounds];exact I.size
 ·have b9:=(I.tm t).mono E.ext;cases hd:o.dst with
  |none=>rw[ch t (by rw[hd];simp)];exact b9
  |some d=>
   simp only[Act.put,getD_set]
   by_cases b6:d=t
   ·subst b6;rw[c4 d hd,if_pos ⟨rfl,by rw[I.size];exact co d hd⟩];exact hv
   rw[ch t (by rw[hd];simpa using b6),if_neg (fun e=>b6 e.1)];exact b9
 ·rw[er];exact I.defers
 ·rcases E.dom b l z with A|⟨A,Y⟩
  ·exact I.dom0 b l A
  exact .inr ⟨by have:=cb i;omega,by omega⟩
 ·rw[E.keep c (a0H hc I.grow0) ?_,I.keep0 c hc b7];intro b l x z hx hr he;rcases I.img0 b l x z (c1 b l x z hx) (fI hr) with hh|⟨b0,l0,o0,g1,g2,g3,g4,g5⟩
  ·omega
  exact b7 b0 l0 o0 g1 g2 (g4 hr) (g5.trans he)
 cases hg:Hn.get b with
 |some y=>
  have:=c2 b l y z hg
  rw[this]at hc;injection hc with hc;subst hc
  rcases E.img b l y z hg an with hh|⟨b0,l0,o0,g1,g2,g3,g4,g5⟩
  ·exact .inl (a0j I.grow0 hh)
  rcases I.img0 b0 l0 o0 g1 (c1 b0 l0 o0 g1 g2) g3 with hh|⟨b3,l3,o3,e1,e2,e3,e4,e5⟩
  ·exact .inl (g5▸hh)
  exact .inr ⟨b3,l3,o3,e1,e2,e3,fun hx=>e4 (g4 hx),e5.trans g5⟩
 |none=>
  obtain⟨A,Y,V⟩:=c3 b l x z hg hc
  exact I.img0 b l x A V an
end Go.R
namespace Go.R
section
variable {P:Program} {G:Nat}
def kP(ρ:Operand->Value)(o:Oper)(b:Nat):Prop:=
 (∃t a h,o.op= .load t a/\ρ a= .pointer (some ⟨b,h,none⟩))\/
 (∃t x lo hi z h n k,o.op= .slice t x lo hi z/\ρ x= .slice (some ⟨b,h,none⟩) n k)
def NilCut(ρ:Operand->Value)(o:Oper):Prop:=(∃t x lo hi h n k,o.op= .slice t x lo hi h/\ρ x= .slice none n k)\/
 (∃xs ts x,o.op= .call ⟨.builtin .len,xs,ts⟩/\eP ρ xs.toList=[x]/\((∃a n k,x= .slice a n k)\/∃s,x= .string s))
structure OpFact(P:Program)(G:Nat)(cf:bY)(ops:Array Oper)(o:Oper)(s s':St)(v:Value)(f:Inf):Prop where
 size:s'.size=s.size
 tm: ∀t,cE s'.tmps t=if o.dst=some t then v else cE s.tmps t
 dlt: ∀d,o.dst=some d->d<s.size
 next:s.heap.next<=s'.heap.next
 far: ∀b,s'.heap.next<=b->s'.heap.get b=s.heap.get b
 how:(aY ops o s.tmps=false/\v=undef/\f= .v/\s'.heap.next=s.heap.next/\∀b,s'.heap.get b=s.heap.get b)\/
  (aY ops o s.tmps=true/\o.op.operands.toList.all (bh G)=true/\∃H1 H2,(∀b,H1.get b=s.heap.get b)/\H1.next=s.heap.next/\
   dN P cf (cT s.tmps) o H1=some (v,H2)/\(∀b,s'.heap.get b=H2.get b)/\s'.heap.next=H2.next/\
   ((f= .v/\(aV o.op=true\/NilCut (cT s.tmps) o))\/(f= .a s.heap.next/\ea o.op=true)\/
    (∃b,f= .l b/\kP (cT s.tmps) o b)\/
    (∃w,f= .x w/\(∀b,b∈w->b<s.heap.next)/\∀b,b<s.heap.next->b∉w->s'.heap.get b=s.heap.get b)))
theorem eX{n b:Nat}: ∀{l:List Nat},b∈dg n l↔b∈l/\b<n
 | []=>by simp[dg]
 |c::l=>by
  unfold dg;cases A:Nat.ble n c with
  |true=>
   have:=a0a A
   simp only[cond_true,a0g]
   rw[eX (l:=l)]
   constructor
   ·rintro⟨h,z⟩;exact⟨.inr h,z⟩
   rintro⟨rfl|h,z⟩
   ·omega
   exact⟨h,z⟩
  |false=>
   have O: ¬n<=c:=fun E=>by rw[a0k E]at A;cases A
   simp only[cond_false,a0g]
   rw[eX (l:=l)]
   constructor
   ·rintro(rfl|⟨h,z⟩)
    ·exact⟨.inl rfl,by omega⟩
    exact⟨.inr h,z⟩
   rintro⟨rfl|h,z⟩
   ·exact .inl rfl
   exact .inr ⟨h,z⟩
theorem loadV_spot{P:Program}{H:Heap}{t:TypeId}{p:Addr}{v:Value}(h:H.loadV P t p=some v):p.spot=none:=by
 obtain⟨b,o,z⟩:=p;cases z with
 |none=>rfl
 |some _=>
  unfold Heap.loadV at h
  split at h
  ·split at h
   ·simp[Heap.loadN]at h
   cases h
  ·simp[Heap.cellAt]at h
  cases h
theorem loadV_congr{H H':Heap}{t:TypeId}{b z:Nat}(h:H.get b=H'.get b):H.loadV P t ⟨b,z,none⟩=H'.loadV P t ⟨b,z,none⟩:=by unfold Heap.loadV Heap.loadN Heap.cellAt;simp only[h]
theorem loadV_some{H:Heap}{t:TypeId}{b z:Nat}{v:Value}(h:H.loadV P t ⟨b,z,none⟩=some v): ∃x,H.get b=some x:=by
 cases A:H.get b with
 |some x=>exact⟨x,rfl⟩
 |none=>
  unfold Heap.loadV Heap.loadN Heap.cellAt at h
  simp only[A]at h
  split at h
  ·split at h<;>cases h
  ·cases h
  cases h
theorem aSlice_spot{P:Program}{H:Heap}{t:TypeId}{p:Addr}{n k:Nat}{lo hi z:Option Value}{v:Value}(h:bS P t (.slice (some p) n k) lo hi z H=some v):p.spot=none:=by
 obtain⟨b,o,A⟩:=p;cases A with
 |none=>rfl
 |some _=>
  unfold bS at h
  split at h
  ·cases h
  split at h<;>simp_all
theorem aSlice_get{P:Program}{H:Heap}{t:TypeId}{b A n k:Nat}{lo hi O:Option Value}{v:Value}(h:bS P t (.slice (some ⟨b,A,none⟩) n k) lo hi O H=some v):
  ∃z,H.get b=some z/\∀E:Heap,E.get b=some z->bS P t (.slice (some ⟨b,A,none⟩) n k) lo hi O E=some v:=by
 cases U:H.get b with
 |some z=>
  refine⟨z,rfl,fun E T=>?_⟩
  rw[←h]
  unfold bS
  cases O with
  |some _=>rfl
  |none=>
   cases P.underlying t with
   |none=>rfl
   |some d=>cases d<;>first|rfl|simp only[T,U]
 |none=>
  exfalso
  unfold bS at h
  split at h
  ·cases h
  split at h<;>simp_all
theorem d3{P:Program}{ρ:Operand->Value}{o:Oper}{b:Nat}{H H':Heap}{r:AN}(hr:kP ρ o b)(h:aop P ρ o H=some (r,H')):
  ∃v A,r= .val v/\H'=H/\H.get b=some A/\∀O:Heap,O.get b=some A->aop P ρ o O=some (.val v,O):=by
 rcases hr with⟨t,a,an,T,Z⟩|⟨t,x,lo,hi,mx,an,n,k,T,hx⟩
 ·have z: ∀H,aop P ρ o H=dM P t (ρ a) H:=fun H=>by unfold aop;rw[T]
  rw[z,Z]at h;unfold dM at h;simp only at h;obtain⟨rfl,v,U,rfl⟩:=cv h;obtain⟨A,E⟩:=loadV_some U;refine⟨v,A,rfl,rfl,E,fun O V=>?_⟩;rw[z,Z];unfold dM;simp only;rw[loadV_congr (H':=H') (by rw[V,E]),U];rfl
 have z: ∀H,aop P ρ o H=ovl (bS P t (ρ x) (lo.map ρ) (hi.map ρ) (mx.map ρ) H) H:=fun H=>by unfold aop;rw[T]
 rw[z,hx]at h
 obtain⟨rfl,v,U,rfl⟩:=cv h
 obtain⟨A,E,Y⟩:=aSlice_get U
 refine⟨v,A,rfl,rfl,E,fun O V=>?_⟩
 rw[z,hx,Y O V]
 rfl
theorem reads_sound{P:Program}{μ:Emb}{ρ ρ':Operand->Value}{o:Oper}{b:Nat}{H:Heap}{w:World}{v:Value}(hr:kP ρ o b)(V: ∀x∈o.op.operands,VRel μ (ρ x) (ρ' x))(hw:WRel μ H w)
  (h:aop P ρ o H=some (.val v,H)): ∃v',(execOp ρ' o).run P w= .ok (.value v') w/\VRel μ v v':=by
 rcases hr with⟨t,a,a8,z,ha⟩|⟨t,x,lo,hi,mx,a8,n,k,z,hx⟩
 ·have E: ∀H,aop P ρ o H=dM P t (ρ a) H:=fun H=>by unfold aop;rw[z]
  rw[E,ha]at h;unfold dM at h;simp only at h;obtain⟨_,v1,hv,A⟩:=cv h;injection A with A;subst A;have Z:VRel μ (ρ a) (ρ' a):=V a (by rw[z];simp[Op.operands]);rw[ha]at Z;obtain⟨l,hμ,a0⟩:=Z.ptr_inv;obtain⟨v',O,T⟩:=fV (P:=P) hw hμ hv;refine⟨v',?_,T⟩;obtain⟨an,op,al,pos,after,Y⟩:=o;simp only at z;subst z;simp only[execOp,a0,Instr.loadAt,Instr.sureAddr,Sem.run_bind,Sem.run_pure,Result.andThen_ok,O]
 have E: ∀H,aop P ρ o H=ovl (bS P t (ρ x) (lo.map ρ) (hi.map ρ) (mx.map ρ) H) H:=fun H=>by unfold aop;rw[z]
 rw[E]at h
 obtain⟨an,op,al,pos,after,Y⟩:=o
 simp only at z
 subst z
 obtain⟨a1,a2⟩:=eJ (μ:=μ) (ρ:=ρ) (ρ':=ρ') (x:=lo) fun y U=>V y (by subst U;simp[Op.operands])
 obtain⟨b1,b2⟩:=eJ (μ:=μ) (ρ:=ρ) (ρ':=ρ') (x:=hi) fun y U=>V y (by subst U;simp[Op.operands])
 obtain⟨_,c2⟩:=eJ (μ:=μ) (ρ:=ρ) (ρ':=ρ') (x:=mx) fun y U=>V y (by subst U;simp[Op.operands])
 obtain⟨v1,v',A,_,O,T⟩:=iK (P:=P) hw (V x (by simp[Op.operands])) a1 a2 b1 b2 c2 h
 injection A with A;subst A
 refine⟨v',?_,T⟩
 simp only[execOp,Sem.run_bind,O,Result.andThen_ok,Sem.run_pure]
theorem reads_loc{μ:Emb}{ρ ρ':Operand->Value}{o:Oper}{b:Nat}(U:kP ρ o b)(E: ∀x∈o.op.operands,VRel μ (ρ x) (ρ' x)): ∃l,μ b=some l:=by
 rcases U with⟨t,a,O,z,T⟩|⟨t,x,lo,hi,Y,O,n,k,z,V⟩
 ·have h:VRel μ (ρ a) (ρ' a):=E a (by rw[z];simp[Op.operands]);rw[T]at h;obtain⟨l,A,_⟩:=h.ptr_inv;exact⟨l,A⟩
 have h:VRel μ (ρ x) (ρ' x):=E x (by rw[z];simp[Op.operands]);rw[V]at h;obtain⟨l,A,_⟩:=h.slice_inv;exact⟨l,A⟩
theorem stepD_fact{cf:bY}(bl:dG P G cf){ops:Array Oper}{o:Oper}{s s':St}{f:Inf}(hw:WF s.heap)(h:fG P G cf ops o s=some (s',f)):
  ∃v,OpFact P G cf ops o s s' v f:=by
 unfold fG at h
 split at h
 case h_2=>cases h
 rename_i t z
 simp only[a00,a02]at h
 obtain⟨rfl,rfl⟩:=h
 have b0:WF {s.heap with log:=[]}:=hw
 have ext:=ij bl (s:={s with heap:={s.heap with log:=[]}}) b0 z
 rw[step_eq]at z
 cases hq:aY ops o s.tmps with
 |false=>
  rw[hq]at z
  simp only[cond_false]at z
  obtain⟨h1,T,h3⟩:=fN z
  refine⟨undef,h1,?_,?_,by rw[T];exact a05 _,fun b _=>by rw[T];rfl,.inl ⟨hq,rfl,by unfold dU;rw[hq];rfl,by rw[T],fun b=>by rw[T];rfl⟩⟩
  ·intro k;rcases h3 with⟨E,Z⟩|⟨d,E,A,Z⟩
   ·simp[E,Z]
   rw[E];simp only[Z,eZ,a00]
  intro d A
  rcases h3 with⟨E,_⟩|⟨d',E,a2,_⟩
  ·rw[E]at A;cases A
  rw[E]at A;injection A with A;subst A;exact a2
 |true=>
  rw[hq]at z
  cases a4:o.op.operands.toList.all (bh G) with
  |false=>rw[a4]at z;cases z
  |true=>
   rw[a4]at z
   simp only[cond_true]at z
   split at z
   case h_2=>cases z
   rename_i v H2 U
   obtain⟨h1,T,h3⟩:=fN z
   simp only at T
   have ax:Ext {s.heap with log:=[]} H2:=jO bl b0 U
   refine⟨v,h1,?_,?_,by simp only[T];exact ax.next,fun b hb=>by simp only[T]at hb⊢;exact ax.far b hb,.inr ⟨hq,a4,{s.heap with log:=[]},H2,fun _=>rfl,rfl,U,fun b=>by simp only[T];rfl,by simp only[T],?_⟩⟩
   ·intro k;rcases h3 with⟨E,Z⟩|⟨d,E,A,Z⟩
    ·simp[E,Z]
    rw[E];simp only[Z,eZ,a00]
   ·intro d A;rcases h3 with⟨E,_⟩|⟨d',E,a2,_⟩
    ·rw[E]at A;cases A
    rw[E]at A;injection A with A;subst A;exact a2
   ·--which kind
    have hx:(∃w,Inf.x (dg s.heap.next t.heap.log)= .x w/\(∀b,b∈w->b<s.heap.next)/\∀b,b<s.heap.next->b∉w->t.heap.get b=s.heap.get b):=by
     refine⟨_,rfl,fun b hb=>(eX.1 hb).2,fun b hb hn=>?_⟩;obtain⟨d,A,a9⟩:=ax.log;rw[T];refine a9 b hb fun hm=>hn (eX.2 ⟨?_,hb⟩)
     rw[T,A,a0N];exact hm
    unfold dU;rw[hq];cases hv:aV o.op with
    |true=>exact .inl ⟨rfl,.inl rfl⟩
    |false=>
     simp only[a1i,Bool.or_false,cond_false]
     cases cb:ea o.op with
     |true=>exact .inr (.inl ⟨rfl,rfl⟩)
     |false=>
      simp only[cond_false]
      split
      ·rename_i ty a O;split
       ·rename_i p V;have Y:p.spot=none:=by
         unfold dN at U;have al:aop P (cT s.tmps) o {s.heap with log:=[]}=dM P ty (cT s.tmps a) {s.heap with log:=[]}:=by unfold aop;rw[O]
         rw[al,V]at U;unfold dM at U;simp only at U;cases hl:Heap.loadV P {s.heap with log:=[]} ty p with
         |none=>rw[hl]at U;simp[ovl]at U
         |some u=>exact loadV_spot hl
        obtain⟨b,a8,sp⟩:=p;simp only at Y;subst Y;exact .inr (.inr (.inl ⟨b,rfl,.inl ⟨ty,a,a8,O,V⟩⟩))
       exact .inr (.inr (.inr hx))
      ·rename_i ty x lo hi mx O;split
       ·rename_i p n k V;have Y:p.spot=none:=by
         unfold dN at U;have al:aop P (cT s.tmps) o {s.heap with log:=[]}=ovl (bS P ty (cT s.tmps x) (lo.map (cT s.tmps)) (hi.map (cT s.tmps)) (mx.map (cT s.tmps)) {s.heap with log:=[]}) {s.heap with log:=[]}:=by unfold aop;rw[O]
         rw[al,V]at U;cases hl:bS P ty (.slice (some p) n k) (lo.map (cT s.tmps)) (hi.map (cT s.tmps)) (mx.map (cT s.tmps)) {s.heap with log:=[]} with
         |none=>rw[hl]at U;simp[ovl]at U
         |some u=>exact aSlice_spot hl
        obtain⟨b,a8,sp⟩:=p;simp only at Y;subst Y;exact .inr (.inr (.inl ⟨b,rfl,.inr ⟨ty,x,lo,hi,mx,a8,n,k,O,V⟩⟩))
       ·rename_i n k V;exact .inl ⟨rfl,.inr (.inl ⟨ty,x,lo,hi,mx,n,k,O,V⟩)⟩
       exact .inr (.inr (.inr hx))
      ·rename_i xs ts O;split
       ·rename_i a n k V;exact .inl ⟨rfl,.inr (.inr ⟨xs,ts,_,O,V,.inl ⟨a,n,k,rfl⟩⟩)⟩
       ·rename_i b4 V;exact .inl ⟨rfl,.inr (.inr ⟨xs,ts,_,O,V,.inr ⟨b4,rfl⟩⟩)⟩
       exact .inr (.inr (.inr hx))
      exact .inr (.inr (.inr hx))
theorem iR{ρ:Operand->Value}{o:Oper}{H H':Heap}{r:AN}(h:bg P ρ o H=some (r,H')):H'=H/\∃v,r= .val v:=by
 unfold bg at h;cases A:o.op.operands.toList.all fun x=>gY (ρ x) with
 |false=>rw[A]at h;cases h
 |true=>
  rw[A]at h
  simp only[cond_true]at h
  split at h
  ·rename_i v E;cases z:noA2 v with
   |false=>rw[z]at h;cases h
   |true=>
    rw[z]at h;simp only[cond_true,a00,a02]at h
    exact⟨h.2.symm,v,h.1.symm⟩
  cases h
theorem lift_val{s:Sem Value}{H H':Heap}{r:AN}(h:lift P s H=some (r,H')):H'=H/\∃v,r= .val v:=by obtain⟨z,v,A,_⟩:=i0 h;exact⟨z,v,A⟩
theorem eI{x:Option Value}{H H':Heap}{r:AN}(h:ovl x H=some (r,H')):H'=H/\∃v,r= .val v:=by obtain⟨z,v,_,A⟩:=cv h;exact⟨z,v,A⟩
theorem eE{v:Value}{H H':Heap}{r:AN}(h:some (AN.val v,H)=some (r,H')):H'=H/\∃v,r= .val v:=by simp only[a00,a02]at h;exact⟨h.2.symm,v,h.1.symm⟩
theorem aop_value{ρ:Operand->Value}{o:Oper}{H H':Heap}{r:AN}(V:aV o.op=true)(h:aop P ρ o H=some (r,H')):H'=H/\∃v,r= .val v:=by
 obtain⟨O,op,E,pos,after,A⟩:=o;cases op<;>simp only[aV,a0d]at V
 case move x=>exact eE (v:=ρ x) h
 case assign x=>exact eE (v:=ρ x) h
 case pick c a b=>
  have z:eW ρ c a b H=some (r,H'):=h
  unfold eW at z
  split at z
  ·exact eE z
  cases z
 case build t parts=>
  have z:fS P t (parts.map fun p=>(p.1,ρ p.2)) H=some (r,H'):=h
  unfold fS at z
  split at z
  ·exact lift_val z
  cases z
 case nilCheck x=>
  have z:opNil (ρ x) H=some (r,H'):=h
  unfold opNil at z
  split at z
  ·exact eE z
  ·exact eE z
  cases z
 case binOp op t x y yt=>
  have z:aBin P ρ ⟨O,.binOp op t x y yt,E,pos,after,A⟩ op t (ρ x) y H=some (r,H'):=h
  unfold aBin at z
  split at z
  ·unfold binInt at z;split at z
   ·exact eI z
   cases z
  ·unfold binStr at z;split at z
   ·exact eI z
   cases z
  unfold kE at z;split at z
  ·exact iR z
  ·exact iR z
  obtain⟨U,b,_,hc⟩:=gL z
  rcases hc with⟨_,T⟩|⟨_,T⟩
  ·exact⟨U,_,T⟩
  exact⟨U,_,T⟩
 case unOp op t x=>
  have z:aUn P ρ ⟨O,.unOp op t x,E,pos,after,A⟩ op (ρ x) H=some (r,H'):=h
  unfold aUn at z
  split at z
  ·split at z
   ·exact eE z
   cases z
  exact iR z
 case makeFunc fn first captured=>exact eE (v:= .func fn (first.map ρ) (captured.map ρ)) h
 case fieldAddr s x f=>
  have z:ovl (gB P s (ρ x) f) H=some (r,H'):=h
  exact eI z
 case field t x f=>
  have z:ovl (f8 P t (ρ x) f) H=some (r,H'):=h
  exact eI z
 case indexAddr t x i=>
  have z:ovl (cS P t (ρ x) (ρ i)) H=some (r,H'):=h
  exact eI z
 case index t x i=>
  have z:jk P t (ρ x) (ρ i) H=some (r,H'):=h
  unfold jk at z
  split at z
  ·exact eI z
  exact lift_val z
 case extract x i=>
  have z:ovl (fv (ρ x) i) H=some (r,H'):=h
  exact eI z
theorem jv{ρ:Operand->Value}{o:Oper}{H H':Heap}{r:AN}(z:aV o.op=true)(h:aop P ρ o H=some (r,H')):H'=H:=by have:=aop_value z h;exact this.1
theorem iE{ρ:Operand->Value}{o:Oper}{H H':Heap}{r:AN}(z:aV o.op=true)(h:aop P ρ o H=some (r,H')): ∃v,r= .val v:=(aop_value z h).2
theorem ew{ρ:Operand->Value}{o:Oper}{H H':Heap}{r:AN}(Z:ea o.op=true)(h:aop P ρ o H=some (r,H')):
  ∃v T,r= .val v/\H'=H.push T/\∀E:Heap,E.next=H.next->aop P ρ o E=some (.val v,E.push T):=by
 obtain⟨an,op,al,pos,after,Y⟩:=o
 cases op<;>simp only[ea,a0d]at Z
 case alloc e=>
  have A:d7 P e H=some (r,H'):=h
  unfold d7 at A
  split at A
  ·rename_i z V;simp only[a00,a02]at A;obtain⟨rfl,rfl⟩:=A;refine⟨_,_,rfl,rfl,fun E O=>?_⟩;show d7 P e E=_;unfold d7;rw[V,O];rfl
  cases A
 case box e x=>
  have A:some (AN.val (ptrTo H.next),aO H (ρ x).cells.toList none)=some (r,H'):=h
  simp only[a00,a02]at A
  obtain⟨rfl,rfl⟩:=A
  refine⟨_,_,rfl,rfl,fun E O=>?_⟩
  show some (AN.val (ptrTo E.next),aO E (ρ x).cells.toList none)=_
  rw[O];rfl
 case buildSlice t n parts=>
  have A:bp P t n (eP (fun p=>(p.1,ρ p.2)) parts.toList) H=some (r,H'):=h
  unfold bp at A
  split at A
  ·rename_i sz z V;cases U:Nat.ble (n *sz) 16777216 with
   |false=>rw[U]at A;cases A
   |true=>
    rw[U]at A
    simp only[cond_true]at A
    split at A
    ·rename_i cells hc;simp only[a00,a02]at A;obtain⟨rfl,rfl⟩:=A;refine⟨_,_,rfl,rfl,fun E O=>?_⟩;show bp P t n (eP (fun p=>(p.1,ρ p.2)) parts.toList) E=_;unfold bp;rw[V];simp only[U,cond_true,hc,O];rfl
    cases A
  cases A
def bare(n:Nat):Heap:={tr:= .nil,next:=n,log:=[]}
theorem dZ(n b:Nat):(bare n).get b=none:=rfl
theorem iz(μ:Emb)(n:Nat)(w:World):WRel μ (bare n) w:=
 ⟨(fun b l o _ h=>by rw[dZ]at h;cases h),(fun z A l1 E O T _ _ _ h=>by rw[dZ]at h;cases h)⟩
theorem aSlice_nil{t:TypeId}{n k:Nat}{lo hi h:Option Value}(H z:Heap):bS P t (.slice none n k) lo hi h H=bS P t (.slice none n k) lo hi h z:=by
 unfold bS;cases h with
 |some _=>rfl
 |none=>
  cases P.underlying t with
  |none=>rfl
  |some d=>cases d<;>first|rfl|(cases n<;>cases k<;>rfl)
theorem d8{ρ:Operand->Value}{o:Oper}{H H':Heap}{r:AN}(E:NilCut ρ o)(h:aop P ρ o H=some (r,H')):H'=H/\∃v,r= .val v:=by
 rcases E with⟨t,x,lo,hi,T,n,k,A,O⟩|⟨xs,ts,x,A,O,_⟩
 ·have z: ∀H,aop P ρ o H=ovl (bS P t (ρ x) (lo.map ρ) (hi.map ρ) (T.map ρ) H) H:=fun H=>by unfold aop;rw[A]
  rw[z]at h;exact eI h
 have z:aop P ρ o H=bLen P ts (eP ρ xs.toList) H:=by unfold aop;rw[A];rfl
 rw[z]at h;unfold bLen at h;split at h
 ·exact eI h
 cases h
theorem aLen_any{t:TypeId}{x:Value}(z:(∃a n k,x= .slice a n k)\/∃s,x= .string s)(H h:Heap):aLen P t x H=aLen P t x h:=by
 rcases z with⟨a,n,k,rfl⟩|⟨s,rfl⟩<;>(unfold aLen;cases P.underlying t with
  |none=>rfl
  |some d=>cases d<;>rfl)
theorem nilcut_sound{μ:Emb}{ρ ρ':Operand->Value}{o:Oper}{H:Heap}{v:Value}(hr:NilCut ρ o)(Y: ∀x∈o.op.operands,VRel μ (ρ x) (ρ' x))(h:aop P ρ o H=some (.val v,H))(w:World):
  ∃v',(execOp ρ' o).run P w= .ok (.value v') w/\VRel μ v v':=by
 rcases hr with hr|⟨xs,ts,x,z,hxs,T⟩
 rotate_left
 ·have E:aop P ρ o H=bLen P ts (eP ρ xs.toList) H:=by unfold aop;rw[z];rfl
  rw[E,hxs]at h;obtain⟨a4,op,Z,pos,after,al⟩:=o;simp only at z;subst z;unfold bLen at h;split at h
  ·rename_i t x1 ht ax;simp only[List.cons.injEq,and_true]at ax;subst ax;obtain⟨_,v1,U,A⟩:=cv h;injection A with A;subst A;rw[aLen_any T H (bare 0)]at U;have an:LRel μ (eP ρ xs.toList) (xs.map ρ').toList:=by
    rw[iY];have:=iA (μ:=μ) (ops:=xs) (ρ:=ρ) (ρ':=ρ') fun x T=>Y x (by simp[Op.operands,Call.operands];exact T)
    simpa using this
   obtain⟨x',ba,bb⟩:=one_of an hxs;obtain⟨O,hn⟩:=len_sound (P:=P) (ty:=Z) (iz μ 0 w) bb U;have a8:ts= #[t]:=a0Q.1 (by rw[ht]);refine⟨v,?_,.atom v hn⟩;simp only[execOp,resolve,Sem.run_bind,Sem.run_pure,Result.andThen_ok,invoke,builtin,ba,a8,O]
  cases h
 obtain⟨t,x,lo,hi,mx,n,k,z,T⟩:=hr
 have E: ∀H,aop P ρ o H=ovl (bS P t (ρ x) (lo.map ρ) (hi.map ρ) (mx.map ρ) H) H:=fun H=>by unfold aop;rw[z]
 rw[E,T]at h
 obtain⟨_,v1,U,A⟩:=cv h
 rw[aSlice_nil H (bare 0)]at U
 have h2:ovl (bS P t (ρ x) (lo.map ρ) (hi.map ρ) (mx.map ρ) (bare 0)) (bare 0)=some (.val v,bare 0):=by rw[T,U,A];rfl
 obtain⟨a4,op,Z,pos,after,al⟩:=o
 simp only at z
 subst z
 obtain⟨a1,a2⟩:=eJ (μ:=μ) (ρ:=ρ) (ρ':=ρ') (x:=lo) fun y V=>Y y (by subst V;simp[Op.operands])
 obtain⟨b1,b2⟩:=eJ (μ:=μ) (ρ:=ρ) (ρ':=ρ') (x:=hi) fun y V=>Y y (by subst V;simp[Op.operands])
 obtain⟨_,c2⟩:=eJ (μ:=μ) (ρ:=ρ) (ρ':=ρ') (x:=mx) fun y V=>Y y (by subst V;simp[Op.operands])
 obtain⟨v1,v',A,_,O,a9⟩:=iK (P:=P) (iz μ 0 w) (Y x (by simp[Op.operands])) a1 a2 b1 b2 c2 h2
 injection A with A;subst A
 refine⟨v',?_,a9⟩
 simp only[execOp,Sem.run_bind,O,Result.andThen_ok,Sem.run_pure]
theorem either_heap{ρ:Operand->Value}{o:Oper}{H H':Heap}{r:AN}(z:aV o.op=true\/NilCut ρ o)(h:aop P ρ o H=some (r,H')):H'=H:=by
 rcases z with z|z
 ·exact jv z h
 exact(d8 z h).1
theorem jP{ρ:Operand->Value}{o:Oper}{H H':Heap}{r:AN}(z:aV o.op=true\/NilCut ρ o)(h:aop P ρ o H=some (r,H')): ∃v,r= .val v:=by
 rcases z with z|z
 ·exact iE z h
 exact(d8 z h).2
structure Trace(P:Program)(G:Nat)(cf:bY)(ops:Array Oper)(st:Nat->St)(vl:Nat->Value)(nf:Nat->Inf):Prop where
 fact: ∀k o,ops[k]?=some o->OpFact P G cf ops o (st k) (st (k+1)) (vl k) (nf k)
 past: ∀k,ops.size<=k->st (k+1)=st k
 comp: ∀j k,j<k->k<ops.size->bd (bV ops) j k=true\/dO (nf j) (nf k)=true
 reg:RegFacts ops
 wf: ∀k,WF (st k).heap
section
variable {cf:bY} {ops:Array Oper} {st:Nat->St} {vl:Nat->Value} {nf:Nat->Inf}
theorem Trace.mono(T:Trace P G cf ops st vl nf)(k:Nat):(st k).heap.next<=(st (k+1)).heap.next:=by
 rcases a0c k ops.size with h|h
 ·exact(T.fact k ops[k] (a0p h)).next
 rw[T.past k h];exact a05 _
theorem Trace.monoL(T:Trace P G cf ops st vl nf){j k:Nat}(h:j<=k):(st j).heap.next<=(st k).heap.next:=by
 induction h with
 |refl=>exact a05 _
 |step _ ih=>exact a0j ih (T.mono _)
theorem Trace.sizeL(T:Trace P G cf ops st vl nf)(k:Nat):(st k).size=(st 0).size:=by
 induction k with
 |zero=>rfl
 |succ k ih=>
  rcases a0c k ops.size with h|h
  ·rw[(T.fact k ops[k] (a0p h)).size,ih]
  rw[T.past k h,ih]
theorem Trace.tm(T:Trace P G cf ops st vl nf)(k t:Nat):cE (st (k+1)).tmps t=if hZ ops k=some t then vl k else cE (st k).tmps t:=by
 unfold hZ;rcases a0c k ops.size with h|h
 ·have z:=a0p h;rw[(T.fact k ops[k] z).tm t,z];rfl
 rw[T.past k h,Array.getElem?_eq_none h];simp
theorem Trace.chg(T:Trace P G cf ops st vl nf){k b:Nat}(h:chg st k b):
  k<ops.size/\((st k).heap.next<=b/\b<(st (k+1)).heap.next\/∃w,nf k= .x w/\b∈w/\b<(st k).heap.next):=by
 have Y:k<ops.size:=by
  rcases a0c k ops.size with Y|Y
  ·exact Y
  exfalso;unfold R.chg at h;rw[T.past k Y]at h;exact h rfl
 refine⟨Y,?_⟩
 have F:=T.fact k ops[k] (a0p Y)
 have a2:b<(st (k+1)).heap.next:=by
  rcases a0c b (st (k+1)).heap.next with E|E
  ·exact E
  exact absurd (F.far b E) h
 rcases a0c b (st k).heap.next with hb|hb
 ·right;rcases F.how with⟨_,_,_,_,hs⟩|⟨_,_,H1,H2,Z,a4,A,U,a8,ax⟩
  ·exact absurd (hs b) h
  rcases ax with⟨hf,V⟩|⟨hf,V⟩|⟨b',hf,al⟩|⟨w,hf,a9,a1⟩
  ·--a value operation changes nothing
   exfalso;unfold dN at A;split at A
   ·rename_i u E z;simp only[a00,a02]at A;have:=(either_heap V z)
    rw[←A.2,this]at U;exact h (by rw[U b,Z b])
   ·rename_i E z;have:=(jP V z)
    obtain⟨_,O⟩:=this;cases O
   ·rename_i f args E z;obtain⟨_,O⟩:=jP V z;cases O
   cases A
  ·exfalso;unfold dN at A;split at A
   ·rename_i u E z;simp only[a00,a02]at A;obtain⟨_,ba,_,a0,_⟩:=ew V z;rw[←A.2,a0]at U;exact h (by rw[U b,Heap.get_push_ne _ _ (by omega),Z b])
   ·rename_i E z;obtain⟨_,_,O,_⟩:=ew V z;cases O
   ·rename_i f args E z;obtain⟨_,_,O,_⟩:=ew V z;cases O
   cases A
  ·exfalso;unfold dN at A;split at A
   ·rename_i u E z;simp only[a00,a02]at A;obtain⟨_,_,_,hH,_,_⟩:=d3 al z;rw[←A.2,hH]at U;exact h (by rw[U b,Z b])
   ·rename_i E z;obtain⟨_,_,O,_⟩:=d3 al z;cases O
   ·rename_i f args E z;obtain⟨_,_,O,_⟩:=d3 al z;cases O
   cases A
  rcases Classical.em (b∈w) with hm|hm
  ·exact⟨w,hf,hm,hb⟩
  exact absurd (a1 b hb hm) h
 exact .inl ⟨hb,a2⟩
end
end
end Go.R
set_option linter.unusedVariables false
namespace Go.R
section
variable {P:Program} {G:Nat} {cf:bY} {ops:Array Oper} {st:Nat->St} {vl:Nat->Value} {nf:Nat->Inf}
variable {μ0 μ:Emb} {w0 w:World} {d0:List Deferred} {S:Nat->Bool} {a:Act} {i:Nat} {o:Oper}
structure Ready(ops:Array Oper)(S:Nat->Bool)(i:Nat)(o:Oper):Prop where
 at_:ops[i]?=some o
 new:S i=false
 edges: ∀e∈o.after.toList,Region.binds .any e=true->S e.on=true
theorem Ready.lt(R:Ready ops S i o):i<ops.size:=(a0v.1 R.at_).1
theorem Ready.dc(R:Ready ops S i o)(h:DC ops S):DC ops (hR S i):=by
 intro k x z hs e O E;by_cases A:k=i
 ·subst A;rw[R.at_]at z;injection z with z;subst z;have:=R.edges e O E;unfold hR;rw[this];simp
 rw[ff S A]at hs;have:=h k x z hs e O E;unfold hR;rw[this];simp
theorem Ready.ahead(R:Ready ops S i o)(h:DC ops S){k:Nat}(z:k≠i)(A:bd (bV ops) k i=true):S k=true:=by have:=(R.dc h).anc i (fe S i) A;rwa [ff S z]at this
theorem Ready.behind(R:Ready ops S i o)(h:DC ops S){k:Nat}(z:bd (bV ops) i k=true):S k=false:=by
 cases hs:S k with
 |false=>rfl
 |true=>have:=h.anc k hs z;rw[R.new]at this;cases this
theorem Ready.iff_(R:Ready ops S i o)(h:DC ops S){k:Nat}(z:k<i->bd (bV ops) k i=true)(A:i<k->bd (bV ops) i k=true):S k=true↔k<i:=by
 rcases Nat.lt_trichotomy k i with hlt|rfl|hgt
 ·exact⟨fun _=>hlt,fun _=>R.ahead h (by omega) (z hlt)⟩
 ·rw[R.new];simp
 rw[R.behind h (A hgt)];simp;omega
theorem Ready.iffAdd(R:Ready ops S i o)(h:DC ops S){k:Nat}(A:k<i->bd (bV ops) k i=true)(E:i<k->bd (bV ops) i k=true):hR S i k=true↔k<i+1:=by
 by_cases z:k=i
 ·subst z;rw[fe];simp
 rw[ff S z,R.iff_ h A E];omega
theorem share(T:Trace P G cf ops st vl nf)(V:ops[i]?=some o){t:Tmp}(z:t∈o.looksAt ops\/o.dst=some t){k:Nat}(A:hZ ops k=some t):
  (k<i->bd (bV ops) k i=true)/\(i<k->bd (bV ops) i k=true):=by
 unfold hZ at A
 cases O:ops[k]? with
 |none=>rw[O]at A;simp at A
 |some x=>
  rw[O]at A
  simp only[a0e]at A
  constructor
  ·intro E;rcases T.reg.pair k i x o E O V with h|h
   ·exact h
   exfalso;obtain⟨Y,U,Z⟩:=Oper.apart_spec h;rcases z with z|z
   ·exact Y t A z
   exact U t A z
  intro E
  rcases T.reg.pair i k o x E V O with h|h
  ·exact h
  exfalso
  obtain⟨Y,U,Z⟩:=Oper.apart_spec h
  rcases z with z|z
  ·exact Z t A z
  exact U t z A
theorem slot_here(T:Trace P G cf ops st vl nf)(I:Inv ops st vl μ0 w0 d0 S μ a w)(R:Ready ops S i o){t:Tmp}(z:t∈o.looksAt ops):
  VRel μ (cE (st i).tmps t) (a.tmps.getD t undef):=by
 have:=I.tm t
 rw[tv_eq st vl ops (i:=i) (fun k=>T.tm k t) ops.size (fun k _ h=>R.iff_ I.dc (share T R.at_ (.inl z) h).1 (share T R.at_ (.inl z) h).2)]at this
 rwa [a1s (a1A R.lt)]at this
theorem operand_here(T:Trace P G cf ops st vl nf)(I:Inv ops st vl μ0 w0 d0 S μ a w)(R:Ready ops S i o)(A:GRel μ G)(h:o.op.operands.toList.all (bh G)=true):
  ∀x∈o.op.operands,VRel μ (cT (st i).tmps x) (a.eval x):=by
 intro x z
 refine eval_of A (a0o.1 h x (by simpa using z)) fun t E=>?_
 subst E
 refine slot_here T I R ?_
 unfold Oper.looksAt
 rw[a0b]
 left
 rw[List.mem_filterMap]
 exact⟨.tmp t,by simpa using z,rfl⟩
theorem wanted_here(T:Trace P G cf ops st vl nf)(I:Inv ops st vl μ0 w0 d0 S μ a w)(R:Ready ops S i o):aY ops o (st i).tmps=Region.wanted o (yielded ops a.tmps):=by
 refine wanted_eq (μ:=μ) fun j w z d h=>slot_here T I R ?_
 unfold Oper.looksAt;rw[a0b];right;rw[z];simp only;rw[h];simp
theorem between(T:Trace P G cf ops st vl nf){j k b:Nat}(z:(st j).heap.next<=b)(A:b<(st (j+1)).heap.next)(E:(st k).heap.next<=b)(O:b<(st (k+1)).heap.next):j=k:=by
 rcases Nat.lt_trichotomy j k with h|h|h
 ·have:=T.monoL (show j+1<=k from h);omega
 ·exact h
 have:=T.monoL (show k+1<=j from h);omega
theorem jI(T:Trace P G cf ops st vl nf)(I:Inv ops st vl μ0 w0 d0 S μ a w)(R:Ready ops S i o)(b:Nat)(z:(st i).heap.next<=b)(A:b<(st (i+1)).heap.next):μ b=none:=by
 cases E:μ b with
 |none=>rfl
 |some l=>
  exfalso
  rcases I.dom b l E with h|⟨k,_,hs,h3,h4⟩|h
  ·have:=T.monoL (a0t i);omega
  ·have:=between T z A h3 h4;subst this;rw[R.new]at hs;cases hs
  have:=T.monoL (show i+1<=ops.size from R.lt);omega
theorem cont_here(T:Trace P G cf ops st vl nf)(I:Inv ops st vl μ0 w0 d0 S μ a w)(R:Ready ops S i o){b:Nat}{l:Loc}(V:μ b=some l)(Y:b<(st i).heap.next)
  (U: ∀k w',nf k= .x w'->b∈w'->k<ops.size->(k<i->bd (bV ops) k i=true)/\(i<k->bd (bV ops) i k=true)):iw st S ops.size b=(st i).heap.get b:=by
 rw[jf st (i:=i) ops.size,a1s (a1A R.lt)]
 intro k E hc
 obtain⟨_,⟨z,A⟩|⟨w',z,A,Z⟩⟩:=T.chg hc
 ·--made there
  have O:k<i:=by
   rcases a0c k i with h|h
   ·exact h
   have:=T.monoL h;omega
  refine⟨fun _=>O,fun _=>?_⟩;rcases I.dom b l V with h|⟨k',_,hs,h4,h5⟩|h
  ·have:=T.monoL (a0t k);omega
  ·have:=between T z A h4 h5;subst this;exact hs
  have:=T.monoL (a1A R.lt);omega
 exact R.iff_ I.dc (U k w' z A E).1 (U k w' z A E).2
theorem gQ(T:Trace P G cf ops st vl nf)(I:Inv ops st vl μ0 w0 d0 S μ a w)(R:Ready ops S i o){b:Nat}(Z:b<(st i).heap.next->∃l,μ b=some l)(an:b<(st (i+1)).heap.next)
  (Y: ∀k w',nf k= .x w'->b∈w'->k<ops.size->(k<i->bd (bV ops) k i=true)/\(i<k->bd (bV ops) i k=true)):iw st (hR S i) ops.size b=(st (i+1)).heap.get b:=by
 rw[jf st (i:=i+1) ops.size,a1s R.lt]
 intro k U hc
 by_cases E:k=i
 ·subst E;rw[fe];simp
 obtain⟨_,⟨z,A⟩|⟨w',z,A,h3⟩⟩:=T.chg hc
 ·have V:k<i:=by
   rcases a0c k i with h|h
   ·exact h
   have:=T.monoL (show i+1<=k by omega);omega
  rw[ff S E];refine⟨fun _=>by omega,fun _=>?_⟩;have O:b<(st i).heap.next:=by have:=T.monoL (show k+1<=i from V);omega
  obtain⟨l,hl⟩:=Z O;rcases I.dom b l hl with h|⟨k',_,hs,h4,h5⟩|h
  ·have:=T.monoL (a0t k);omega
  ·have:=between T z A h4 h5;subst this;exact hs
  have:=T.monoL (a1A R.lt);omega
 exact R.iffAdd I.dc (Y k w' z A U).1 (Y k w' z A U).2
theorem je(T:Trace P G cf ops st vl nf){b:Nat}(h: ¬chg st i b):iw st (hR S i) ops.size b=iw st S ops.size b:=by refine(jR st ops.size fun k _ hc=>?_);exact ff S (fun e=>by subst e;exact h hc)
theorem iu{b:Nat}: ∀{l:List Nat},memB b l=true↔b∈l
 | []=>by simp[memB]
 |c::l=>by
  unfold memB;rw[a0D,iu (l:=l),a0g];constructor
  ·rintro(h|h)
   ·exact .inl (a04 h)
   exact .inr h
  rintro(rfl|h)
  ·exact .inl (a0I b)
  exact .inr h
theorem gG(T:Trace P G cf ops st vl nf)(I:Inv ops st vl μ0 w0 d0 S μ a w)(R:Ready ops S i o):
  (∀t,o.dst=some t->tv st vl ops (hR S i) ops.size t=vl i)/\(∀t,o.dst≠some t->tv st vl ops (hR S i) ops.size t=tv st vl ops S ops.size t):=by
 constructor
 ·intro t z;rw[tv_eq st vl ops (i:=i+1) (fun k=>T.tm k t) ops.size (fun k _ h=>R.iffAdd I.dc (share T R.at_ (.inr z) h).1 (share T R.at_ (.inr z) h).2),a1s R.lt,T.tm];rw[if_pos (by unfold hZ;rw[R.at_];exact z)]
 intro t z
 refine tv_congr st vl ops ops.size fun k _ h=>ff S ?_
 intro e
 subst e
 unfold hZ at h
 rw[R.at_]at h
 exact z h
theorem fo(T:Trace P G cf ops st vl nf)(I:Inv ops st vl μ0 w0 d0 S μ a w)(R:Ready ops S i o)(z: ∀b,(st (i+1)).heap.get b=(st i).heap.get b){v':Value}(O:VRel μ (vl i) v'):
  Inv ops st vl μ0 w0 d0 (hR S i) μ (a.put o.dst v') w:=by
 obtain⟨U,V⟩:=gG T I R
 refine Inv.next (H:=bare (st i).heap.next) (Hn:=bare (st i).heap.next) I R.lt R.at_ (Post.refl (iz μ _ w)) O (fun k=>T.mono k) (a05 _) (T.mono i)
  (fun b l x _ h=>by rw[dZ]at h;cases h) (fun b l x _ h=>by rw[dZ]at h;cases h) (fun b l x A _ hc=>⟨A,rfl,?_⟩) (R.dc I.dc) (fun d E=>?_) U V
 ·rw[je T (fun e=>e (z b))]at hc;exact hc
 have:=(T.fact i o R.at_).dlt d E
 rwa [T.sizeL i]at this
theorem inv_step(f6:dG P G cf)(T:Trace P G cf ops st vl nf)(I:Inv ops st vl μ0 w0 d0 S μ a w)(hG:GRel μ0 G)(R:Ready ops S i o){K:Act->World->Prop}{Q:Exit->Act->World->Prop}
  (hK: ∀μ' a' w',Inv ops st vl μ0 w0 d0 (hR S i) μ' a' w'->K a' w'):wpOp P ops Q i K a w:=by
 have em:GRel μ G:=hG.mono I.ext0
 have F:=T.fact i o R.at_
 have ch:=wanted_here T I R
 unfold wpOp
 rw[R.at_]
 simp only
 rcases F.how with⟨hq,hv,hf,hn,hs⟩|⟨hq,e0,H1,H2,an,Z,O,ax,cb,ds⟩
 ·rw[ch]at hq;rw[hq];simp only[a0d,if_false];exact hK μ _ w (fo T I R hs (by rw[hv];exact VRel.undef))
 rw[ch]at hq
 rw[hq]
 simp only[if_true]
 left
 have hρ:=operand_here T I R em e0
 have b6:WF (st i).heap:=T.wf i
 rcases ds with⟨hf,hk|hk⟩|⟨hf,hk⟩|⟨b,hf,b0⟩|⟨wr,hf,ha,g1⟩
 rotate_left
 ·--a part of the nil slice
  unfold dN at O;split at O
  case h_2=>rename_i U z;obtain⟨_,_,A⟩:=d8 hk z;cases A
  case h_3=>rename_i f args U z;obtain⟨_,_,A⟩:=d8 hk z;cases A
  case h_4=>cases O
  rename_i u U z;simp only[a00,a02]at O;obtain⟨e1,_⟩:=d8 hk z;subst e1;obtain⟨rfl,rfl⟩:=O;obtain⟨v',a0,hr⟩:=nilcut_sound hk hρ z w;unfold Oper.wp;rw[a0,Oper.upon_value];exact hK μ _ w (fo T I R (fun b=>by rw[ax b,an b]) hr)
 rotate_right
 ·--a value
  have z: ∃u,aop P (cT (st i).tmps) o H1=some (.val u,H1)/\u=vl i/\H2=H1:=by
   unfold dN at O;split at O
   ·rename_i u U z;simp only[a00,a02]at O;have:=jv hk z;subst this;exact⟨u,z,O.1,O.2.symm⟩
   ·rename_i U z;obtain⟨_,A⟩:=iE hk z;cases A
   ·rename_i f args U z;obtain⟨_,A⟩:=iE hk z;cases A
   cases O
  obtain⟨u,z,rfl,rfl⟩:=z;obtain⟨_,v,v',c4,a0,hr⟩:=iF hk hρ z;injection c4 with c4;subst c4;unfold Oper.wp;rw[a0 w,Oper.upon_value];exact hK μ _ w (fo T I R (fun b=>by rw[ax b,an b]) hr)
 ·--a new block
  unfold dN at O;split at O
  case h_2=>rename_i U z;obtain⟨_,_,A,_⟩:=ew hk z;cases A
  case h_3=>rename_i f args U z;obtain⟨_,_,A,_⟩:=ew hk z;cases A
  case h_4=>cases O
  rename_i u U z;simp only[a00,a02]at O;obtain⟨rfl,rfl⟩:=O;obtain⟨u,V,hu,dt,e4⟩:=ew hk z;injection hu with hu;subst hu dt;have cw:(st (i+1)).heap.next=(st i).heap.next+1:=by rw[cb,Heap.next_push,Z]
  have f5:=e4 (bare (st i).heap.next) (by rw[Z];rfl);obtain⟨n,w',μ',a0,hp,hr⟩:=gA hρ (iz μ _ w) (fun b a1 a2=>jI T I R b a1 (by rw[cw];exact a2)) f5;unfold Oper.wp;rw[a0];cases n with
  |value v'=>
   rw[Oper.upon_value]
   obtain⟨t1,t2⟩:=gG T I R
   have hw: ∀k w',nf k= .x w'->(st i).heap.next∈w'->k<ops.size->(k<i->bd (bV ops) k i=true)/\(i<k->bd (bV ops) i k=true):=by
    intro k w' A hm a3;have gs:(st i).heap.next<(st k).heap.next:=by
     have Fk:=T.fact k ops[k] (a0p a3);rcases Fk.how with⟨_,_,E,_⟩|⟨_,_,_,_,_,_,_,_,_,gm⟩
     ·rw[A]at E;cases E
     rcases gm with⟨E,_⟩|⟨E,_⟩|⟨_,E,_⟩|⟨w2,E,go,_⟩
     ·rw[A]at E;cases E
     ·rw[A]at E;cases E
     ·rw[A]at E;cases E
     rw[A]at E;injection E with E;subst E;exact go _ hm
    constructor
    ·intro bb;have:=T.monoL (a1A bb);omega
    intro ba;rcases T.comp i k ba a3 with h|h
    ·exact h
    rw[hf,A]at h;simp only[dO]at h;rw[iu.2 hm]at h;cases h
   have e5:iw st (hR S i) ops.size (st i).heap.next=some V:=by rw[gQ T I R (fun h=>absurd h (Nat.lt_irrefl _)) (by rw[cw];omega) hw,ax,←Z,Heap.get_push_same]
   have dk: ∀b x,((bare (st i).heap.next).push V).get b=some x->b=(st i).heap.next/\x=V:=by
    intro b x A;by_cases b7:(bare (st i).heap.next).next=b
    ·subst b7;rw[Heap.get_push_same]at A;injection A with A;exact⟨rfl,A.symm⟩
    rw[Heap.get_push_ne _ _ b7,dZ]at A;cases A
   refine hK μ' _ w' (Inv.next (H:=bare (st i).heap.next) (Hn:=(bare (st i).heap.next).push V) I R.lt R.at_ hp hr (fun k=>T.mono k) (a05 _) (by rw[cw];exact a05 _)
    (fun b l x _ h=>by rw[dZ]at h;cases h) (fun b l x _ h=>?_) (fun b l x Y hg hc=>?_) (R.dc I.dc) (fun d hd=>?_) t1 t2)
   ·obtain⟨rfl,rfl⟩:=dk b x h;exact e5
   ·have b7:b≠(st i).heap.next:=by rintro rfl;have:((bare (st i).heap.next).push V).get (st i).heap.next=some V:=Heap.get_push_same (bare (st i).heap.next) V;rw[this]at hg;cases hg
    have co: ¬chg st i b:=by intro cm;apply cm;rw[ax,Heap.get_push_ne _ _ (by rw[Z];exact Ne.symm b7),an]
    rw[je T co]at hc;rcases hp.dom b l Y with U|⟨U,h2⟩
    ·exact⟨U,rfl,hc⟩
    exfalso;have g8:(st i).heap.next<=b:=U;have g9:b<(st i).heap.next+1:=h2;omega
   have:=F.dlt d hd
   rwa [T.sizeL i]at this
  |_=>exact hr.elim
 ·--a load,or a part of a slice
  unfold dN at O;split at O
  case h_2=>rename_i U z;obtain⟨_,_,A,_⟩:=d3 b0 z;cases A
  case h_3=>rename_i f args U z;obtain⟨_,_,A,_⟩:=d3 b0 z;cases A
  case h_4=>cases O
  rename_i u U z;simp only[a00,a02]at O;obtain⟨rfl,rfl⟩:=O;obtain⟨u,V,hu,rfl,c0,dd⟩:=d3 b0 z;injection hu with hu;subst hu;obtain⟨l,hμ⟩:=reads_loc b0 hρ;have e2:b<(st i).heap.next:=b6.lt (by rw[←an];exact c0);have dn:=cont_here T I R hμ e2 (fun k w' b3 hm a3=>by
   constructor
   ·intro bb;rcases T.comp k i bb R.lt with h|h
    ·exact h
    rw[hf,b3]at h;simp only[dO]at h;rw[iu.2 hm]at h;cases h
   intro ba;rcases T.comp i k ba a3 with h|h
   ·exact h
   rw[hf,b3]at h;simp only[dO]at h;rw[iu.2 hm]at h;cases h)
  have e6:WRel μ ((bare (st i).heap.next).put b V) w:=by
   refine⟨fun b' l' o' f4 a8=>?_,fun b1 b2 l1 l2 o1 o2 a4 _ _ cc cd=>?_⟩
   ·by_cases et:b=b'
    ·subst et;rw[Heap.get_put_same]at a8;injection a8 with a8;subst a8;exact I.obj b l' V f4 (by rw[dn,←an];exact c0)
    rw[Heap.get_put_ne _ _ et,dZ]at a8;cases a8
   exfalso;by_cases U:b=b1
   ·by_cases h2:b=b2
    ·exact a4 (U.symm.trans h2)
    rw[Heap.get_put_ne _ _ h2,dZ]at cd;cases cd
   rw[Heap.get_put_ne _ _ U,dZ]at cc;cases cc
  obtain⟨v',d2,hr⟩:=reads_sound b0 hρ e6 (dd _ (Heap.get_put_same _ _ _));unfold Oper.wp;rw[d2,Oper.upon_value];exact hK μ _ w (fo T I R (fun b=>by rw[ax b,an b]) hr)
 ·--any other
  have c6: ∀b k w',nf k= .x w'->b∈w'->k<ops.size->(k<i->bd (bV ops) k i=true)/\(i<k->bd (bV ops) i k=true):=by
   intro b k w' b3 hm a3;have a4:isNilL w'=false:=by cases w' with
    |nil=>simp at hm
    |cons _ _=>rfl
   constructor
   ·intro bb;rcases T.comp k i bb R.lt with h|h
    ·exact h
    rw[hf,b3]at h;simp only[dO,a4,Bool.false_and]at h;cases h
   intro ba;rcases T.comp i k ba a3 with h|h
   ·exact h
   rw[hf,b3]at h;simp only[dO,a4,Bool.and_false]at h;cases h
  have b8: ∀b l x,μ b=some l->H1.get b=some x->iw st S ops.size b=some x:=by intro b l x Y A;rw[an]at A;rw[cont_here T I R Y (b6.lt A) (c6 b)];exact A
  have c5:WF H1:=fun b Y=>by rw[an];exact b6 b (by rw[←Z];exact Y)
  have d1:WRel μ H1 w:=⟨fun b l x Y A=>I.obj b l x Y (b8 b l x Y A),fun b1 b2 l1 l2 o1 o2 a4 a1 a2 cc cd=>I.inj b1 b2 l1 l2 o1 o2 a4 a1 a2 (b8 b1 l1 o1 a1 cc) (b8 b2 l2 o2 a2 cd)⟩
  refine hJ f6 c5 hρ em d1 (fun b a1 a2=>jI T I R b (by rw[←Z];exact a1) (by rw[cb];exact a2)) O ?_;intro μ' w' v' hp hv;obtain⟨t1,t2⟩:=gG T I R;have b9: ∀b l,μ' b=some l->b<(st i).heap.next->∃l,μ b=some l:=by
   intro b l Y gs;rcases hp.dom b l Y with h|⟨h,_⟩
   ·exact⟨l,h⟩
   rw[Z]at h;omega
  refine hK μ' _ w' (Inv.next (H:=H1) (Hn:=H2) I R.lt R.at_ hp hv (fun k=>T.mono k) (by rw[Z];exact a05 _) (by rw[cb];exact a05 _) b8 (fun b l x Y A=>?_) (fun b l x Y A hc=>?_) (R.dc I.dc) (fun d hd=>?_) t1 t2)
  ·rw[←ax]at A;rw[gQ T I R (b9 b l Y) ((T.wf (i+1)).lt A) (c6 b)];exact A
  ·rw[←ax]at A;have ez:(st (i+1)).heap.next<=b:=by
    rcases a0c b (st (i+1)).heap.next with h|h
    ·rw[gQ T I R (b9 b l Y) h (c6 b),A]at hc;cases hc
    exact h
   have co: ¬chg st i b:=fun cm=>cm (F.far b ez)
   rw[je T co]at hc;refine⟨?_,?_,hc⟩
   ·rcases hp.dom b l Y with h|⟨_,h⟩
    ·exact h
    rw[←cb]at h;omega
   exact c5 b (by rw[Z];exact a0j F.next ez)
  have:=F.dlt d hd;rwa [T.sizeL i]at this
end
end Go.R
namespace Go.R
section
variable {P:Program} {G:Nat} {cf:bY} {ops:Array Oper} {st:Nat->St} {vl:Nat->Value} {nf:Nat->Inf}
variable {μ0 μ:Emb} {w0 w:World} {d0:List Deferred} {a:Act}
def cnt(S:Nat->Bool):Nat->Nat
 |0=>0
 |n+1=>cnt S n+if S n=true then 0 else 1
theorem cnt_far{S:Nat->Bool}{i:Nat}: ∀n,n<=i->cnt (hR S i) n=cnt S n
 |0,_=>rfl
 |n+1,h=>by have:=cnt_far (S:=S) (i:=i) n (by omega);simp only[cnt,this,ff S (show n≠i by omega)]
theorem cnt_add{S:Nat->Bool}{i:Nat}(hs:S i=false): ∀n,i<n->cnt (hR S i) n+1=cnt S n
 |0,h=>by omega
 |n+1,h=>by
  by_cases hi:i=n
  ·subst hi;simp only[cnt,cnt_far i (a05 i),fe,hs,if_true,a0d,if_false]
  have:=cnt_add hs n (by omega);simp only[cnt,ff S (show n≠i by omega)];omega
theorem cnt_zero{S:Nat->Bool}: ∀n,cnt S n=0->∀k,k<n->S k=true
 |0,_,k,h=>by omega
 |n+1,h,k,hk=>by
  simp only[cnt]at h;by_cases hs:S n=true
  ·by_cases z:k=n
   ·subst z;exact hs
   exact cnt_zero n (by omega) k (by omega)
  rw[if_neg hs]at h;omega
theorem cnt_le{S:Nat->Bool}: ∀n,cnt S n<=n
 |0=>a05 _
 |n+1=>by have:=cnt_le (S:=S) n;simp only[cnt];split<;>omega
def fH(listed:Array Bool):Nat->Bool:=fun k=>listed.getD k false
theorem setOf_set{listed:Array Bool}{i:Nat}(hi:i<listed.size):fH (listed.setIfInBounds i true)=hR (fH listed) i:=by
 funext k;unfold fH hR;simp only[a0u,a0M];by_cases h:i=k
 ·subst h;simp[hi]
 have:Nat.beq k i=false:=by
  cases z:Nat.beq k i with
  |false=>rfl
  |true=>exact absurd (a04 z).symm h
 simp[h,this]
theorem iP{listed:Array Bool}(Y:listed.size=ops.size){i:Nat}:i∈Region.ready .any ops listed↔
  ∃o,Ready ops (fH listed) i o:=by
 unfold Region.ready
 rw[List.mem_filter,List.mem_range]
 constructor
 ·rintro⟨hi,h⟩;have z:ops[i]?=some ops[i]:=a0p hi;rw[z]at h;simp only[a03,a0n,a1x,a1e]at h;refine⟨ops[i],z,?_,fun e E A=>?_⟩
  ·unfold fH;have T:=h.1;simp only[a0u,a0p (show i<listed.size by omega),a1e]at T⊢;exact T
  have U:=h.2;rw[Array.all_eq_true']at U;have:=U e (by simpa using E);rw[A]at this;simpa[fH] using this
 rintro⟨o,z,O,E⟩
 have hi:i<ops.size:=(a0v.1 z).1
 refine⟨hi,?_⟩
 rw[z]
 simp only[a03,a0n,a1x,a1e]
 constructor
 ·unfold fH at O;simp only[a0u,a0p (show i<listed.size by omega),a1e]at O⊢;exact O
 rw[Array.all_eq_true']
 intro e V
 cases A:Region.binds .any e with
 |false=>rfl
 |true=>
  have:=E e (by simpa using V) A
  simpa[fH] using this
theorem all_of_none(T:Trace P G cf ops st vl nf){listed:Array Bool}(V:listed.size=ops.size)(h:Region.ready .any ops listed=[]): ∀k,k<ops.size->fH listed k=true:=by
 intro k;induction k using Nat.strongRecOn with
 |_ k ih=>
  intro U
  cases hs:fH listed k with
  |true=>rfl
  |false=>
   exfalso
   have A:=a0p U
   have:k∈Region.ready .any ops listed:=(iP V).2 ⟨ops[k],A,hs,fun e O E=>by
    have z:=T.reg.back k ops[k] A e O E;exact ih e.on z (by omega)⟩
   rw[h]at this;simp at this
theorem any_sound(E:dG P G cf)(T:Trace P G cf ops st vl nf)(U:GRel μ0 G){Q:Exit->Act->World->Prop}
  (O: ∀S μ a w,(∀k,k<ops.size->S k=true)->Inv ops st vl μ0 w0 d0 S μ a w->Q .normal a w):
  ∀(fuel:Nat) (listed:Array Bool) (μ:Emb) (a:Act) (w:World),listed.size=ops.size->cnt (fH listed) ops.size<=fuel->Inv ops st vl μ0 w0 d0 (fH listed) μ a w->
   wpAny P .any ops Q fuel listed a w
 |0,listed,μ,a,w,hl,hc,I=>by
  have z:=cnt_zero ops.size (by omega:cnt (fH listed) ops.size=0);refine⟨?_,O _ μ a w z I⟩;cases hr:Region.ready .any ops listed with
  |nil=>rfl
  |cons i t=>
   exfalso
   have Z:i∈Region.ready .any ops listed:=by rw[hr];simp
   obtain⟨o,R⟩:=(iP hl).1 Z
   have:=z i R.lt
   rw[R.new]at this;cases this
 |fuel+1,listed,μ,a,w,hl,hc,I=>by
  refine⟨fun h=>O _ μ a w (all_of_none T hl h) I,fun i hi=>?_⟩;obtain⟨o,R⟩:=(iP hl).1 hi;refine inv_step E T I U R fun μ' Y w' V=>?_
  have A:=setOf_set (listed:=listed) (i:=i) (by rw[hl];exact R.lt);refine any_sound E T U O fuel (listed.setIfInBounds i true) μ' Y w' (by simp[hl]) ?_ (by rw[A];exact V);rw[A];have:=cnt_add R.new ops.size R.lt;omega
theorem inv_start(T:Trace P G cf ops st vl nf)(ht:TRel μ0 (st 0).tmps (st 0).size a.tmps)(hw:WRel μ0 (st 0).heap w)(E: ∀b l,μ0 b=some l->b<(st 0).heap.next\/(st ops.size).heap.next<=b)(S:Nat->Bool)(A: ∀k,S k=false):
  Inv ops st vl μ0 w a.defers S μ0 a w:=by
 have hc: ∀b,iw st S ops.size b=(st 0).heap.get b:=by intro b;have:=jf st (S:=S) (b:=b) (i:=0) ops.size (fun k _ _=>by rw[A k];simp);rwa [Nat.min_zero]at this
 have a1: ∀t,tv st vl ops S ops.size t=cE (st 0).tmps t:=by intro t;have:=tv_eq st vl ops (S:=S) (t:=t) (i:=0) (fun k=>T.tm k t) ops.size (fun k _ _=>by rw[A k];simp);rwa [Nat.min_zero]at this
 refine⟨(fun k o _ Y=>by rw[A k]at Y;cases Y),fun b l z=>?_,fun b l o z O=>hw.obj b l o z (by rw[←hc];exact O),fun b1 b2 l1 l2 o1 o2 al U V an ax=>hw.inj b1 b2 l1 l2 o1 o2 al U V (by rw[←hc];exact an) (by rw[←hc];exact ax),
  ht.1,fun t=>by rw[a1];exact ht.2 t,rfl,fun _ _ h=>h,fun _ _ h=> .inl h,a05 _,rfl,rfl,rfl,fun _ _ _=>rfl,fun b l o z O Z=> .inr ⟨b,l,o,z,by rw[←hc];exact O,Z,id,rfl⟩⟩
 rcases E b l z with h|h
 ·exact .inl h
 exact .inr (.inr h)
theorem inv_end(T:Trace P G cf ops st vl nf){S:Nat->Bool}(h: ∀k,k<ops.size->S k=true)(I:Inv ops st vl μ0 w0 d0 S μ a w):
  Post μ0 (st 0).heap w0 μ (st ops.size).heap w/\TRel μ (st ops.size).tmps (st ops.size).size a.tmps/\a.defers=d0:=by
 have hc: ∀b,iw st S ops.size b=(st ops.size).heap.get b:=by intro b;have:=jf st (S:=S) (b:=b) (i:=ops.size) ops.size (fun k z _=>by rw[h k z];simp[z]);rwa [Nat.min_self]at this
 have an: ∀t,tv st vl ops S ops.size t=cE (st ops.size).tmps t:=by intro t;have:=tv_eq st vl ops (S:=S) (t:=t) (i:=ops.size) (fun k=>T.tm k t) ops.size (fun k z _=>by rw[h k z];simp[z]);rwa [Nat.min_self]at this
 refine⟨⟨I.ext0,I.dom0,I.grow0,I.os0,I.tape0,I.out0,I.keep0,fun b l o A E V=>I.img0 b l o A (by rw[hc];exact E) V,
  ⟨fun b l o A E=>I.obj b l o A (by rw[hc];exact E),fun b1 b2 l1 l2 o1 o2 Y O U Z al=>I.inj b1 b2 l1 l2 o1 o2 Y O U (by rw[hc];exact Z) (by rw[hc];exact al)⟩⟩,⟨?_,fun t=>?_⟩,I.defers⟩
 ·rw[I.size,T.sizeL ops.size]
 have:=I.tm t
 rwa [an]at this
end
section
variable {P:Program} {G:Nat} {cf:bY} {ops:Array Oper}
theorem gi(V:dG P G cf): ∀(l:List Oper) (k:Nat) (fs:List (Nat×Inf)) (s s':St),ops.toList.drop k=l->k+l.length=ops.size->bf P G cf ops k fs l s=some s'->WF s.heap->
  ∃(st:Nat->St) (vl:Nat->Value) (nf:Nat->Inf),st k=s/\st ops.size=s'/\(∀j,ops.size<=j->st (j+1)=st j)/\(∀j,k<=j->WF (st j).heap)/\
   (∀j o,k<=j->ops[j]?=some o->OpFact P G cf ops o (st j) (st (j+1)) (vl j) (nf j))/\
   (∀j,k<=j->j<ops.size->∀q∈fs,bd (bV ops) q.1 j=true\/dO q.2 (nf j)=true)/\
   (∀i j,k<=i->i<j->j<ops.size->bd (bV ops) i j=true\/dO (nf i) (nf j)=true)
 | [],k,fs,s,s',hd,hlen,h,hw=>by simp only[bf,a00]at h;subst h;simp only[List.length_nil,a1q]at hlen;refine⟨fun _=>s,fun _=>undef,fun _=> .v,rfl,rfl,fun _ _=>rfl,fun _ _=>hw,fun j o E O=>?_,fun j E b3=>by omega,fun i j hi Z E=>by omega⟩;have:=(a0v.1 O).1;omega
 |x::os,k,fs,s,s',hd,hlen,h,hw=>by
  simp only[a07]at hlen;unfold bf at h;split at h
  case h_2=>cases h
  rename_i s1 f h1;cases A:bR (bV ops) k f fs with
  |false=>rw[A]at h;cases h
  |true=>
   rw[A]at h
   simp only[cond_true]at h
   obtain⟨v,F⟩:=stepD_fact V hw h1
   have a4:WF s1.heap:=fun b hb=>by rw[F.far b hb];exact hw b (a0j F.next hb)
   have hk:k<ops.toList.length:=by simp;omega
   have Y:=a0T hk
   rw[hd]at Y
   injection Y with e1 e2
   have a3:ops[k]?=some x:=by rw[←Array.getElem?_toList,a09 hk,←e1]
   obtain⟨st,vl,nf,g1,g2,g3,g4,g5,g6,g7⟩:=gi V os (k+1) ((k,f)::fs) s1 s' e2.symm (by omega) h a4
   have U: ∀(l:List (Nat×Inf)),bR (bV ops) k f l=true->∀q∈l,bd (bV ops) q.1 k=true\/dO q.2 f=true:=by
    intro l;induction l with
    |nil=>intro _ q A;simp at A
    |cons p l ih=>
     intro hl q A
     obtain⟨pj,pg⟩:=p
     simp only[bR,a03,a0D]at hl
     rcases a0g.1 A with rfl|A
     ·exact hl.1
     exact ih hl.2 q A
   refine⟨fun j=>if j<=k then s else st j,fun j=>if j<=k then v else vl j,fun j=>if j<=k then f else nf j,by simp,?_,fun j E=>?_,fun j E=>?_,fun j o E O=>?_,fun j E T q al=>?_,fun i j hi Z T=>?_⟩
   ·simp only[show ¬(ops.size<=k) by omega,if_false];exact g2
   ·simp only[show ¬(j<=k) by omega,show ¬(j+1<=k) by omega,if_false];exact g3 j E
   ·by_cases z:j<=k
    ·simp only[z,if_true];exact hw
    simp only[z,if_false];exact g4 j (by omega)
   ·by_cases z:j=k
    ·subst z;rw[a3]at O;injection O with O;subst O;simp only[a05,if_true,show ¬(j+1<=j) by omega,if_false,g1];exact F
    simp only[show ¬(j<=k) by omega,show ¬(j+1<=k) by omega,if_false];exact g5 j o (by omega) O
   ·by_cases z:j=k
    ·subst z;simp only[a05,if_true];exact U fs A q al
    simp only[show ¬(j<=k) by omega,if_false];exact g6 j (by omega) T q (a0r _ al)
   by_cases a1:i=k
   ·subst a1;simp only[a05,if_true,show ¬(j<=i) by omega,if_false];exact g6 j (by omega) T (i,f) (by simp)
   simp only[show ¬(i<=k) by omega,show ¬(j<=k) by omega,if_false]
   exact g7 i j (by omega) Z T
def Dom(μ:Emb)(H:Heap):Prop:= ∀b l,μ b=some l->b<H.next
theorem region_sound(U:dG P G cf){id:Nat}{A:Bool}{s z:St}(h:bB P G cf ops A s=some z){μ:Emb}{a:Act}{w:World}{Q:Exit->Act->World->Prop}
  (ax:WF s.heap) (ht:TRel μ s.tmps s.size a.tmps) (hG:GRel μ G) (hw:WRel μ s.heap w) (V: ∀b l,μ b=some l->b<s.heap.next\/z.heap.next<=b)
  (hQ: ∀μ' w' E,Post μ s.heap w μ' z.heap w'->TRel μ' z.tmps z.size E.tmps->E.defers=a.defers->Q .normal E w'):(Code.region id ops A).wp P Q a w:=by
 have Y: ∀b,s.heap.next<=b->b<z.heap.next->μ b=none:=by
  intro b h1 h2;cases hb:μ b with
  |none=>rfl
  |some l=>rcases V b l hb with h3|h3<;>omega
 unfold bB at h
 cases A with
 |false=>
  simp only[cond_false]at h
  refine wp_region ?_
  rw[List.range_eq_range']
  have:=gV U ops.toList 0 s z rfl h μ a w ax ht hG hw Y (Q:=Q) hQ
  simpa using this
 |true=>
  simp only[cond_true]at h
  cases Z:(iO ops&&P.follows .mixedOrders) with
  |false=>rw[Z]at h;cases h
  |true=>
   rw[Z]at h
   simp only[cond_true]at h
   simp only[a03]at Z
   obtain⟨st,vl,nf,O,g2,g3,g4,g5,_,g7⟩:=gi U ops.toList 0 [] s z rfl (by simp) h ax
   have T:Trace P G cf ops st vl nf:=⟨fun k o ho=>g5 k o (a0t _) ho,g3,fun j k a4 hk=>g7 j k (a0t _) a4 hk,regOK_facts Z.1,fun k=>g4 k (a0t _)⟩
   refine wp_region_any Z.2 ?_
   rw[World.drew_eq]
   have I:=inv_start (a:=a) (w:=w.drew) (μ0:=μ) T (by rw[O];exact ht) (by rw[O];exact hw.drew) (by rw[O,g2];exact V) (fH (Array.replicate ops.size false)) (fun k=>by
    unfold fH;simp[a0u,Array.getElem?_replicate];split<;>rfl)
   refine any_sound U T hG (fun S μ' E w' hS I'=>?_) ops.size _ μ a w.drew (by simp) (cnt_le _) I
   obtain⟨hp,an,a3⟩:=inv_end T hS I'
   rw[O,g2]at hp
   rw[g2]at an
   refine hQ μ' w' E ((Post.drew hw).trans hp (a05 _) ?_) an a3
   have:=T.monoL (a0t ops.size)
   rwa [O,g2]at this
end
end Go.R
namespace Go.R
open Go.RowKit
def Ex.toExit:Ex->Exit
 | .normal=> .normal
 | .exit id=> .exit id
 | .ret=> .ret
def LoopWp(P:Program)(c:Code)(Q:Exit->Act->World->Prop)(a:Act)(w:World):Prop:=
 ∀(b:Frame) (k:List Item) (cs:List Frame),∃e h w',Q e h w'/\Arrives P (lone (b.at a (.code c:: .inLoop c::k)) cs w) b k cs e h w'
theorem LoopWp.wp{P:Program}{c:Code}{Q:Exit->Act->World->Prop}{a:Act}{w:World}(h:LoopWp P c Q a w):(Code.loop c).wp P Q a w:=
 fun b k cs=>let⟨e,a',w',q,r⟩:=h b k cs;⟨e,a',w',q,.of_steps (.one step_loop) r⟩
theorem LoopWp.round{P:Program}{c:Code}{Q:Exit->Act->World->Prop}{a:Act}{w:World}(h:c.wp P (Exit.then (LoopWp P c Q) Q) a w):LoopWp P c Q a w:=by
 intro b k cs;obtain⟨e,E,O,A,z⟩:=h b (.inLoop c::k) cs;cases e with
 |normal=>
  obtain⟨Y,V,Z,U,T⟩:=A b k cs
  exact⟨Y,V,Z,U,.of_steps (Steps.trans z (.one step_inLoop)) T⟩
 |exit id=>exact⟨_,E,O,A,.pass (x:= .inLoop c) rfl (fun _ _=> .inl (by simp)) z⟩
 |goto l=>exact⟨_,E,O,A,.pass (x:= .inLoop c) rfl (fun _ _=> .inl (by simp)) z⟩
 |ret=>exact⟨_,E,O,A,.pass (x:= .inLoop c) rfl (fun _ _=> .inl (by simp)) z⟩
 |panic ch=>exact⟨_,E,O,A,.pass (x:= .inLoop c) rfl (fun _ _=> .inl (by simp)) z⟩
 |outgrown=>exact⟨_,E,O,A,.pass (x:= .inLoop c) rfl (fun _ _=> .inl (by simp)) z⟩
def Wp(P:Program)(c:Code)(Q:Exit->Act->World->Prop)(a:Act)(w:World):Prop:=
 match c with
 | .loop b=>LoopWp P b Q a w
 |c=>c.wp P Q a w
theorem Wp.wp{P:Program}{c:Code}{Q:Exit->Act->World->Prop}{a:Act}{w:World}(h:Wp P c Q a w):c.wp P Q a w:=by cases c<;>first|exact LoopWp.wp h|exact h
def After(μ:Emb)(s:St)(w:World)(e:Ex)(h:St):Exit->Act->World->Prop:=fun A z E=>
 A=e.toExit/\z.defers=[]/\∃μ',Post μ s.heap w μ' h.heap E/\TRel μ' h.tmps h.size z.tmps
def ExOK(P:Program)(G:Nat)(ex:Code->St->Option (Ex×St)):Prop:= ∀c s e h,ex c s=some (e,h)->WF s.heap->Ext s.heap h.heap/\
 ∀μ a w,a.defers=[]->TRel μ s.tmps s.size a.tmps->GRel μ G->WRel μ s.heap w->(∀b,s.heap.next<=b->b<h.heap.next->μ b=none)->Wp P c (After μ s w e h) a w
section
variable {P:Program} {G:Nat}
theorem jH{μ z:Emb}{H H1 A:Heap}{w w1:World}(Y:Post μ H w z H1 w1)(E:H.next<=H1.next)(V: ∀b,H.next<=b->b<A.next->μ b=none): ∀b,H1.next<=b->b<A.next->z b=none:=by
 intro b O T;cases U:z b with
 |none=>rfl
 |some l=>
  rcases Y.dom b l U with h|⟨_,h⟩
  ·rw[V b (a0j E O) T]at h;cases h
  omega
theorem After.trans{μ T:Emb}{s h E:St}{w w1:World}{e:Ex}(Y:Post μ s.heap w T h.heap w1)(U:s.heap.next<=h.heap.next)(V:h.heap.next<=E.heap.next):
  ∀A z O,After T h w1 e E A z O->After μ s w e E A z O:=by
 rintro A z O ⟨he,hd,μ2,hp2,ht⟩
 exact⟨he,hd,μ2,Y.trans hp2 U V,ht⟩
theorem region_ext{cf:bY}(U:dG P G cf){ops:Array Oper}{A:Bool}{s z:St}(T:WF s.heap)(h:bB P G cf ops A s=some z):Ext s.heap z.heap:=by
 unfold bB at h;cases A with
 |false=>exact gI U _ _ _ T h
 |true=>
  simp only[cond_true]at h
  cases O:(iO ops&&P.follows .mixedOrders) with
  |false=>rw[O]at h;cases h
  |true=>
   rw[O]at h
   simp only[cond_true]at h
   have an: ∀(l:List Oper) (k:Nat) (fs:List (Nat×Inf)) (s z:St),WF s.heap->bf P G cf ops k fs l s=some z->Ext s.heap z.heap:=by
    intro l;induction l with
    |nil=>intro k fs s z _ h;simp only[bf,a00]at h;subst h;exact Ext.refl _
    |cons o os ih=>
     intro k fs s z T h
     unfold bf at h
     split at h
     case h_2=>cases h
     rename_i s1 f E
     cases O:bR (bV ops) k f fs with
     |false=>rw[O]at h;cases h
     |true=>
      rw[O]at h
      simp only[cond_true]at h
      have Y:Ext s.heap s1.heap:=by
       unfold fG at E;split at E
       case h_2=>cases E
       rename_i t al;simp only[a00,a02]at E;obtain⟨rfl,_⟩:=E;have V:=ij U (s:={s with heap:={s.heap with log:=[]}}) T al;obtain⟨d,hd,hs⟩:=V.log;refine⟨V.next,⟨dg s.heap.next t.heap.log,rfl,fun b Z hn=>?_⟩,V.far⟩;refine hs b Z fun hm=>hn (eX.2 ⟨?_,Z⟩)
       rw[hd,a0N];exact hm
      exact Y.trans (ih _ _ _ _ (T.ext Y) h)
   exact an _ _ _ _ _ T h
theorem execC_ok{rec_:Code->St->Option (Ex×St)}{cf:bY}(b0:ExOK P G rec_)(bb:dG P G cf):ExOK P G (ec P G rec_ cf):=by
 intro c;induction c with
 |skip=>
  intro s e Y h Z
  rw[jK]at h
  simp only[a00,a02]at h
  obtain⟨rfl,rfl⟩:=h
  exact⟨Ext.refl _,fun μ a w T A E U _=>wp_skip ⟨rfl,T,μ,Post.refl U,A⟩⟩
 |region id ops draw=>
  intro s e Y h Z
  rw[e8]at h
  unfold dx at h
  split at h
  ·rename_i s1 h1;simp only[a00,a02]at h;obtain⟨rfl,rfl⟩:=h;refine⟨region_ext bb Z h1,fun μ a w T A E U V=>?_⟩;refine region_sound bb h1 Z A E U (fun b l hb=>?_) fun μ' w' a' hp b2 b1=>⟨rfl,b1.trans T,μ',hp,b2⟩
   rcases a0c b s.heap.next with h2|h2
   ·exact .inl h2
   right;rcases a0c b s1.heap.next with h3|h3
   ·rw[V b h2 h3]at hb;cases hb
   exact h3
  cases h
 |seq x y ihx ihy=>
  intro s e Y h Z
  rw[jc]at h
  cases hx:ec P G rec_ cf x s with
  |none=>rw[hx]at h;cases h
  |some p=>
   obtain⟨e1,s1⟩:=p
   obtain⟨z,O⟩:=ihx s e1 s1 hx Z
   rw[hx]at h
   cases e1 with
   |normal=>
    simp only[e9]at h
    obtain⟨al,a8⟩:=ihy s1 e Y h (Z.ext z)
    refine⟨z.trans al,fun μ a w T A E U V=>wp_seq ?_⟩
    refine wp_mono (O μ a w T A E U (fun b h1 h2=>V b h1 (a0H h2 al.next))).wp ?_
    rintro e2 a2 w2 ⟨rfl,hd2,μ2,hp2,ht2⟩
    exact wp_mono (a8 μ2 a2 w2 hd2 ht2 (E.mono hp2.ext) hp2.wrel (jH hp2 z.next V)).wp (After.trans hp2 z.next al.next)
   |exit i=>
    simp only[e9,a00,a02]at h
    obtain⟨rfl,rfl⟩:=h
    refine⟨z,fun μ a w T A E U V=>wp_seq ?_⟩
    refine wp_mono (O μ a w T A E U V).wp ?_
    rintro e2 a2 w2 ⟨rfl,hrest⟩
    exact⟨rfl,hrest⟩
   |ret=>
    simp only[e9,a00,a02]at h
    obtain⟨rfl,rfl⟩:=h
    refine⟨z,fun μ a w T A E U V=>wp_seq ?_⟩
    refine wp_mono (O μ a w T A E U V).wp ?_
    rintro e2 a2 w2 ⟨rfl,hrest⟩
    exact⟨rfl,hrest⟩
 |cond c x y ihx ihy=>
  intro s e Y h Z
  rw[gP]at h
  cases hq:bh G c with
  |false=>rw[hq]at h;cases h
  |true=>
   rw[hq]at h
   simp only[cond_true]at h
   unfold jN at h
   split at h
   ·rename_i t hv;have a9: ∀(μ:Emb) (a:Act),TRel μ s.tmps s.size a.tmps->GRel μ G->a.eval c= .bool t:=by
     intro μ a A E;have:=eval_of E hq (tm:=s.tmps) (a:=a) fun k _=>A.2 k
     rw[hv]at this;exact this.bool_inv
    cases t with
    |true=>
     obtain⟨z,O⟩:=ihx s e Y h Z
     exact⟨z,fun μ a w T A E U V=>wp_cond_true (a9 μ a A E) (O μ a w T A E U V).wp⟩
    |false=>
     obtain⟨z,O⟩:=ihy s e Y h Z
     exact⟨z,fun μ a w T A E U V=>wp_cond_false (a9 μ a A E) (O μ a w T A E U V).wp⟩
   cases h
 |block id x ih=>
  intro s e Y h Z
  rw[fX]at h
  cases hx:ec P G rec_ cf x s with
  |none=>rw[hx]at h;cases h
  |some p=>
   obtain⟨e1,s1⟩:=p
   obtain⟨z,O⟩:=ih s e1 s1 hx Z
   rw[hx]at h
   cases e1 with
   |normal=>
    simp only[cL,a00,a02]at h
    obtain⟨rfl,rfl⟩:=h
    refine⟨z,fun μ a w T A E U V=>wp_block ?_⟩
    refine wp_mono (O μ a w T A E U V).wp ?_
    rintro e2 a2 w2 ⟨rfl,hrest⟩
    exact⟨rfl,hrest⟩
   |exit i=>
    simp only[cL]at h
    cases hb:Nat.beq i id with
    |true=>
     rw[hb]at h
     simp only[cond_true,a00,a02]at h
     obtain⟨rfl,rfl⟩:=h
     have hi:i=id:=a04 hb
     subst hi
     refine⟨z,fun μ a w T A E U V=>wp_block ?_⟩
     refine wp_mono (O μ a w T A E U V).wp ?_
     rintro e2 a2 w2 ⟨rfl,hrest⟩
     simp only[Ex.toExit,Exit.inBlock,if_true]
     exact⟨rfl,hrest⟩
    |false=>
     rw[hb]at h
     simp only[cond_false,a00,a02]at h
     obtain⟨rfl,rfl⟩:=h
     have hi: ¬i=id:=fun e=>by subst e;rw[a0I]at hb;cases hb
     refine⟨z,fun μ a w T A E U V=>wp_block ?_⟩
     refine wp_mono (O μ a w T A E U V).wp ?_
     rintro e2 a2 w2 ⟨rfl,hrest⟩
     simp only[Ex.toExit,Exit.inBlock,hi,if_false]
     exact⟨rfl,hrest⟩
   |ret=>
    simp only[cL,a00,a02]at h
    obtain⟨rfl,rfl⟩:=h
    refine⟨z,fun μ a w T A E U V=>wp_block ?_⟩
    refine wp_mono (O μ a w T A E U V).wp ?_
    rintro e2 a2 w2 ⟨rfl,hrest⟩
    exact⟨rfl,hrest⟩
 |loop x ih=>
  intro s e Y h Z
  rw[gO]at h
  cases hx:ec P G rec_ cf x s with
  |none=>rw[hx]at h;cases h
  |some p=>
   obtain⟨e1,s1⟩:=p
   obtain⟨z,O⟩:=ih s e1 s1 hx Z
   rw[hx]at h
   cases e1 with
   |normal=>
    simp only[e9]at h
    obtain⟨al,a8⟩:=b0 (.loop x) s1 e Y h (Z.ext z)
    refine⟨z.trans al,fun μ a w T A E U V=>LoopWp.round ?_⟩
    refine wp_mono (O μ a w T A E U (fun b h1 h2=>V b h1 (a0H h2 al.next))).wp ?_
    rintro e2 a2 w2 ⟨rfl,hd2,μ2,hp2,ht2⟩
    have hl:LoopWp P x (After μ2 s1 w2 e Y) a2 w2:=a8 μ2 a2 w2 hd2 ht2 (E.mono hp2.ext) hp2.wrel (jH hp2 z.next V)
    intro b k cs
    obtain⟨e3,a3,w3,q,r⟩:=hl b k cs
    exact⟨e3,a3,w3,After.trans hp2 z.next al.next _ _ _ q,r⟩
   |exit i=>
    simp only[e9,a00,a02]at h
    obtain⟨rfl,rfl⟩:=h
    refine⟨z,fun μ a w T A E U V=>LoopWp.round ?_⟩
    refine wp_mono (O μ a w T A E U V).wp ?_
    rintro e2 a2 w2 ⟨rfl,hrest⟩
    exact⟨rfl,hrest⟩
   |ret=>
    simp only[e9,a00,a02]at h
    obtain⟨rfl,rfl⟩:=h
    refine⟨z,fun μ a w T A E U V=>LoopWp.round ?_⟩
    refine wp_mono (O μ a w T A E U V).wp ?_
    rintro e2 a2 w2 ⟨rfl,hrest⟩
    exact⟨rfl,hrest⟩
 |exit id=>
  intro s e Y h Z
  rw[jL]at h
  simp only[a00,a02]at h
  obtain⟨rfl,rfl⟩:=h
  exact⟨Ext.refl _,fun μ a w T A E U _=>wp_exit ⟨rfl,T,μ,Post.refl U,A⟩⟩
 |ret=>
  intro s e Y h Z
  rw[execC_ret]at h
  simp only[a00,a02]at h
  obtain⟨rfl,rfl⟩:=h
  exact⟨Ext.refl _,fun μ a w T A E U _=>wp_ret ⟨rfl,T,μ,Post.refl U,A⟩⟩
 |rangeFunc f ps x y _ _=>intro s e Y h;cases h
 |scope x _=>intro s e Y h;cases h
 |label l=>intro s e Y h;cases h
 |goto l=>intro s e Y h;cases h
 |refuse m=>intro s e Y h;cases h
theorem f0: ∀(args:List Value) (i:Nat) (t:Tr Value) (k:Nat),cE (ep i args t) k=if i<=k/\k<i+args.length then args.getD (k-i) undef else cE t k
 | [],i,t,k=>by rw[if_neg (by simp only[List.length_nil];omega)];rfl
 |v::l,i,t,k=>by
  simp only[ep];rw[f0 l (i+1) _ k];by_cases h:i+1<=k/\k<i+1+l.length
  ·rw[if_pos h,if_pos (by simp only[a07];omega),show k-i=(k-(i+1))+1 by omega];rfl
  rw[if_neg h,eZ];by_cases z:i=k
  ·subst z;rw[if_pos rfl,if_pos (by simp only[a07];omega)];simp
  rw[if_neg z,if_neg (by simp only[a07];omega)]
theorem args_rel{μ:Emb}{args:List Value}{z:Array Value}(h:LRel μ args z.toList)(n:Nat):
  TRel μ (ep 0 args .nil) (Nat.max args.length n) (z++Array.replicate (n-z.size) undef):=by
 have O:args.length=z.size:=by rw[h.1];simp
 refine⟨by simp only[Array.size_append,Array.size_replicate];rw[O];show _=max _ _;omega,fun i=>?_⟩
 rw[f0]
 simp only[a0t,true_and,a0Y,Nat.sub_zero,lget_nil,a0u,Array.getElem?_append]
 by_cases hi:i<args.length
 ·rw[if_pos hi,if_pos (by omega)];have A:args[i]?=some args[i]:=a09 hi;obtain⟨v',E,T⟩:=h.get A;have:z[i]?=some v':=by simpa using E
  rw[this,a08,A];exact T
 rw[if_neg hi,if_neg (by omega)]
 rw[Array.getElem?_replicate]
 split
 ·exact VRel.undef
 exact VRel.undef
theorem fL{μ:Emb}{s:St}{a:Array Value}{w:World}(A:TRel μ s.tmps s.size a)(U:WRel μ s.heap w): ∀(rs:List ResultVar) (l:List Value),cz P s rs=some l->
  ∃l',(rs.mapM (m:=Sem) fun| .tmp t=>Pure.pure (a.getD t undef)| .cell x t=>do loadVar t (←asAddr (a.getD x undef))).run P w= .ok l' w/\LRel μ l l'
 | [],l,h=>by simp only[cz,a00]at h;subst h;exact⟨[],by simp,.nil⟩
 | .tmp t::rs,l,h=>by
  unfold cz at h;split at h
  ·rename_i l1 O;injection h with h;subst h;obtain⟨l',z,T⟩:=fL A U rs l1 O;exact⟨a.getD t undef::l',by simp only[List.mapM_cons,Sem.run_bind,Sem.run_pure,Result.andThen_ok,z],.cons (A.2 t) T⟩
  cases h
 | .cell x t::rs,l,h=>by
  unfold cz at h;split at h
  ·rename_i p hp;split at h
   ·rename_i v l1 hv O;injection h with h;subst h;obtain⟨l',z,T⟩:=fL A U rs l1 O;have V:=A.2 x;rw[hp]at V;obtain⟨b,o,sp⟩:=p;have Z:sp=none:=V.ptr_some.1;subst Z;obtain⟨E,hμ,an⟩:=V.ptr_inv;obtain⟨v',Y,al⟩:=fV (P:=P) U hμ hv;exact⟨v'::l',by simp only[List.mapM_cons,Sem.run_bind,an,show(asAddr (Value.pointer (some ⟨E.c,E.sh+o,none⟩))).run P w= .ok ⟨E.c,E.sh+o,none⟩ w from rfl,Sem.run_pure,Result.andThen_ok,Y,z],.cons al T⟩
   cases h
  cases h
theorem result_rel{μ:Emb}{l l':List Value}(h:LRel μ l l'):VRel μ (dT l) (if h:l'.toArray.size=1 then l'.toArray[0] else .tuple l'.toArray):=by
 match l,l',h with
 | [],l',h=>
  have:=h.nil_left
  subst this
  exact .tuple _ _ rfl (fun i v v' h=>by simp at h)
 | [v],l',h=>
  obtain⟨v',t,rfl,A,z⟩:=h.cons_left
  have:=z.nil_left
  subst this
  exact A
 |v::u::r,l',h=>
  obtain⟨v',t,rfl,A,z⟩:=h.cons_left
  obtain⟨U,T,rfl,O,E⟩:=z.cons_left
  simp only[List.size_toArray,a07,show ¬(T.length+1+1=1) by omega,dite_false]
  have:=LRel.cons A (LRel.cons O E)
  exact .tuple _ _ (by simpa[dT] using this.1) (by simpa[dT] using this.2)
theorem j7{μ:Emb}{s:St}{fn:Func}{a:Array Value}{w:World}(O:TRel μ s.tmps s.size a)(T:WRel μ s.heap w){l:List Value}(h:cz P s fn.results.toList=some l):
  ∃v',(results fn a).run P w= .ok v' w/\VRel μ (dT l) v':=by
 obtain⟨l',A,z⟩:=fL (P:=P) O T _ l h
 refine⟨_,?_,result_rel z⟩
 unfold results
 rw[Array.mapM_eq_mapM_toList]
 simp only[Sem.run_bind,Sem.run_map]
 have e: ∀(r:Result (List Value)),r= .ok l' w->((r.andThen fun a w'=>(.ok a.toArray w':Result (Array Value))).andThen fun E w'=>((Pure.pure (if h:E.size=1 then E[0] else Value.tuple E):Sem Value).run P w'))=
   .ok (if h:l'.toArray.size=1 then l'.toArray[0] else .tuple l'.toArray) w:=by
  intro r z;subst z;rfl
 exact e _ A
theorem callC_ok{ex:Code->St->Option (Ex×St)}(U:ExOK P G ex):dG P G (kC P ex):=by
 intro f args H v H' h Z;unfold kC at h;split at h
 case h_2=>cases h
 rename_i fn V;split at h
 case h_2=>cases h
 rename_i c hc;have T: ∀e s,(e=Ex.normal\/e=Ex.ret)->ex c {tmps:=ep 0 args .nil,size:=Nat.max args.length fn.ntmps,heap:=H}=some (e,s)->
   (match cz P s fn.results.toList with|some l=>some (dT l,s.heap)|none=>none)=some (v,H')->Ext H H'/\
   ∀μ w (z:Array Value),LRel μ args z.toList->GRel μ G->WRel μ H w->(∀b,H.next<=b->b<H'.next->μ b=none)->
    Calls P f z w fun e w'=> ∃μ' v',e= .returned v'/\VRel μ' v v'/\Post μ H w μ' H' w':=by
  intro e s he O A
  split at A
  ·rename_i l hl;simp only[a00,a02]at A;obtain⟨rfl,rfl⟩:=A;obtain⟨ext,al⟩:=U c _ e s O Z;refine⟨ext,fun μ w z ha hG hw hf=>?_⟩;refine calls_of_wp V hc ?_;refine wp_mono (al μ {tmps:=z++Array.replicate (fn.ntmps-z.size) undef,defers:=[]} w rfl (args_rel ha fn.ntmps) hG hw hf).wp ?_;rintro e2 a2 w2 ⟨rfl,hd,μ',hp,ht⟩;obtain⟨v',E,Y⟩:=j7 (P:=P) (fn:=fn) ht hp.wrel hl;rcases he with rfl|rfl
   ·exact⟨hd,v',E,μ',v',rfl,Y,hp⟩
   exact⟨hd,v',E,μ',v',rfl,Y,hp⟩
  cases A
 split at h
 ·rename_i s O;exact T .normal s (.inl rfl) O h
 ·rename_i s O;exact T .ret s (.inr rfl) O h
 cases h
def fg(P:Program)(G:Nat)(K:bx):Prop:= ∀f args H v,K f args H=some v->args.all noA2=true/\noA2 v=true/\∀(μ:Emb) (h:Array Value) (w:World),h.toList=args->GRel μ G->WRel μ H w->
 Calls P f h w fun e w'=>e= .returned v/\Below w.heap.size w w'
theorem LRel.eq2{μ:Emb}{l l':List Value}(h:LRel μ l l')(z:l.all noA2=true):l'=l:=by
 induction l generalizing l' with
 |nil=>exact h.nil_left
 |cons v l ih=>
  obtain⟨v',O,rfl,E,A⟩:=h.cons_left
  simp only[a0J,a03]at z
  rw[E.eq2 z.1,ih A z.2]
theorem LRel.refl2{μ:Emb}{l:List Value}(h:l.all noA2=true):LRel μ l l:=by refine⟨rfl,fun i v v' A z=>?_⟩;rw[A]at z;injection z with z;subst z;exact VRel.refl2 (a0o.1 h v (a0h A))
theorem callK_ok{K:bx}{cf:bY}(hK:fg P G K)(T:dG P G cf):dG P G (jh K cf):=by
 intro f args H v H' h Y;unfold jh at h;split at h
 ·rename_i u hu;simp only[a00,a02]at h;obtain⟨rfl,rfl⟩:=h;obtain⟨Z,h2,h3⟩:=hK f args H u hu;refine⟨Ext.refl _,fun μ w z ha hG O hf=>?_⟩;refine(h3 μ z w (ha.eq2 Z) hG O).mono ?_;rintro e w' ⟨rfl,hb⟩;refine⟨μ,u,rfl,VRel.refl2 h2,⟨fun _ _ h=>h,fun _ _ h=> .inl h,hb.size,hb.os,hb.tape,hb.output,fun c hc _=>hb.block c hc,fun b l o A E h6=> .inr ⟨b,l,o,A,E,h6,id,rfl⟩,⟨fun b l o A E=>?_,O.inj⟩⟩⟩;have V:=O.obj b l o A E;exact V.keep (fun _ _ h=>h) hb.size (fun U=>hb.block l.c (V.lt U))
 exact T f args H v H' h Y
theorem exec_ok{K:bx}(z:fg P G K): ∀n,ExOK P G (jM P G K n)
 |0=>fun c s e A h=>by cases h
 |n+1=>execC_ok (exec_ok z n) (callK_ok z (callC_ok (exec_ok z n)))
theorem call_ok{K:bx}(h:fg P G K)(n:Nat):dG P G (call P G K n):=callK_ok h (callC_ok (exec_ok h n))
theorem none_ok:fg P G noneKnown:=fun f args H v h=>by cases h
theorem kB{K:bx}(U:fg P 0 K){n:Nat}{f:FuncId}{args:List Value}{v:Value}{H':Heap}(V:args.all noA2=true)(Z:noA2 v=true)
  (h:call P 0 K n f args Heap.empty=some (v,H')) (z:Array Value) (w:World) (hc:z.toList=args):
  Calls P f z w fun e w'=>e= .returned v/\Below w.heap.size w w':=by
 have T:WF Heap.empty:=fun b _=>rfl
 obtain⟨_,E⟩:=call_ok (G:=0) U n f args Heap.empty v H' h T
 have O:WRel (fun _=>none) Heap.empty w:=⟨fun b l o A=>(by cases A),fun b1 b2 l1 l2 o1 o2 _ A=>(by cases A)⟩
 refine(E (fun _=>none) w z (by rw[hc];exact LRel.refl2 V) (fun g hg=>by omega) O (fun _ _ _=>rfl)).mono ?_
 rintro e w' ⟨μ',v',rfl,hr,hp⟩
 rw[hr.eq2 Z]
 refine⟨rfl,hp.os,hp.tape,hp.out,hp.grow,fun k Y=>hp.keep k Y fun b l o A=>by cases A⟩
end
end Go.R
namespace Go.R
open Go.RowKit
theorem walk_of_eval{P:Program}{K:bx}(A:fg P 0 K){n:Nat}{f:FuncId}(h:saysTrue (call P 0 K n f [] Heap.empty)=true)(w:World):
  Calls P f #[] w fun e w'=>e= .returned (.bool true)/\Below w.heap.size w w':=by
 revert h
 cases hc:call P 0 K n f [] Heap.empty with
 |none=>intro h;cases h
 |some r=>
  obtain⟨v,H'⟩:=r
  intro h
  have E:v= .bool true:=by
   unfold saysTrue at h;split at h
   ·rename_i z;simp only[a00,a02]at z;exact z.1
   cases h
  subst E
  exact kB A rfl rfl hc #[] w rfl
open Go.WideShapes Go.ChangeShapes in
theorem j8{H:Type}{enc:TypeId×Value->H}{P:Program}{f:Func}{s:ChangeSpec}{E a2 Y a1:Bool}{W V:World}{args:Array Value}{v:Value}{Z gs:List (DataW H)}{h pa pv:List MemPlace}
  (hW:DataW.Whole enc P f.params.toList s.vars E W args.toList Z gs h)
  (ax: ∀(b:Nat) (A:Nat->Bool) (hd:Bool),DataW.TrodAll enc P V b A hd f.resultTypes.toList (v.resultList f.resultTypes.size) (s.fn H (Z++gs)).results [])
  (O: ∀A:Nat->Bool,(∀p∈h,A p.block=true)->DataW.TrodAll enc P V 0 A true f.params.toList args.toList (s.fn H (Z++gs)).args pa)
  (U: ∀A:Nat->Bool,(∀p∈h,A p.block=true)->DataW.TrodVars enc P V A s.vars (s.fn H (Z++gs)).vars pv)
  (T:h=pa++pv) (hb:Below W.heap.size W V)
  (bl: ∀(j:Nat) (t:TypeId) (r:Value),f.resultTypes[j]?=some t->(v.resultList f.resultTypes.size)[j]?=some r->Value.okWide P V .any 0 t r):
  s.post enc P f E a2 Y a1 W args v V:=by
 have an: ∀p∈h,(fun b=>decide (b<W.heap.size)) p.block=true:=fun p z=>by simpa using hW.lt p z
 have bb: ∀p∈h,p.block<W.heap.size:=fun p z=>by simpa using hW.lt p z
 refine⟨Z,gs,h,[],pa,pv,hW,ax _ _ _,O _ an,U _ an,World.keptBut_mono (fun p z=>⟨z,?_⟩) (hb.frame (· ∈h)),fun _=>?_⟩
 ·rw[T,a0b]at z;exact Or.inr z
 obtain⟨_,_,_,_,_,hz,hn⟩:=hW
 refine⟨bl,_,_,([]++pa)++pv,⟨[]++pa,pv,trodAll_append (O _ (fun _ _=>rfl)) (ax _ _ _),U _ (fun _ _=>rfl),rfl,?_,?_⟩,?_⟩
 ·intro b a0 z;have a4:MemPlace.cell b a0∈h:=by rw[T];simpa using z
  have h1:=hb.frozen (p:=⟨b,a0,none⟩) (bb _ a4);have h2:=hz b a0 a4;first|(rw[h1];exact h2)|(exact h1.trans h2)|(simp_all)
 ·intro ha;have:=hn ha;rw[T]at this;simpa using this
 intro p z _
 rw[T]
 simpa using z
end Go.R
noncomputable section
namespace Go.R
open Go.RowKit
section
variable {P:Program} {w:World} {base:Nat} {held:Bool} {enc:TypeId×Value->Unit}
def lit1(P:Program)(t:TypeId)(d:DataW Unit):Option Value:=
 match P.underlying t,d with
 |some .bool,.lit (.bool b)=>some (.bool b)
 |some (.int k),.lit (.int _ n)=>some (.int k n)
 |some .string,.lit (.string l)=>some (.string ⟨⟨l⟩⟩)
 |_,_=>none
def flatFs(P:Program):Nat->List Field->Bool
 |_,[]=>true
 |i,f::fs=>Nat.beq f.offset i&&Nat.beq (P.cellsOf f.type) 1&&flatFs P (i+1) fs
def litFs(P:Program):List Field->List (DataW Unit)->Option (List Value)
 | [],[]=>some []
 |f::fs,d::ds=>
  match lit1 P f.type d,litFs P fs ds with
  |some v,some l=>some (v::l)
  |_,_=>none
 |_,_=>none
def litRows(P:Program)(fs:List Field):List (DataW Unit)->Option (List (List Value))
 | []=>some []
 | .agg ds::r=>
  match litFs P fs ds,litRows P fs r with
  |some l,some m=>some (l::m)
  |_,_=>none
 |_::_=>none
end
end Go.R
end
namespace Go.R
def CfLe(cf cf':bY):Prop:= ∀f a H r,cf f a H=some r->cf' f a H=some r
def ExLe(ex h:Code->St->Option (Ex×St)):Prop:= ∀c s r,ex c s=some r->h c s=some r
section
variable {P:Program} {G:Nat} {cf cf':bY} {ops:Array Oper}
theorem step_mono(h:CfLe cf cf'){o:Oper}{s E:St}(hs:step P G cf ops o s=some E):step P G cf' ops o s=some E:=by
 unfold step at hs⊢;cases A:aY ops o s.tmps with
 |false=>rw[A]at hs;exact hs
 |true=>
  rw[A]at hs
  cases z:o.op.operands.toList.all (bh G) with
  |false=>rw[z]at hs;cases hs
  |true=>
   rw[z]at hs
   simp only[cond_true]at hs⊢
   split at hs
   ·exact hs
   ·exact hs
   ·split at hs
    ·rename_i v O hc;rw[h _ _ _ _ hc];exact hs
    cases hs
   cases hs
theorem fJ(h:CfLe cf cf'): ∀(l:List Oper) (s z:St),eO P G cf ops l s=some z->eO P G cf' ops l s=some z
 | [],_,_,hs=>hs
 |o::l,s,z,hs=>by
  rw[bK]at hs⊢;split at hs
  ·rename_i t A;rw[step_mono h A];exact fJ h l _ _ hs
  cases hs
theorem stepD_mono(h:CfLe cf cf'){o:Oper}{s:St}{r:St×Inf}(hs:fG P G cf ops o s=some r):fG P G cf' ops o s=some r:=by
 unfold fG at hs⊢;split at hs
 ·rename_i t z;rw[step_mono h z];exact hs
 cases hs
theorem ej(h:CfLe cf cf'): ∀(l:List Oper) (i:Nat) (fs:List (Nat×Inf)) (s s':St),bf P G cf ops i fs l s=some s'->bf P G cf' ops i fs l s=some s'
 | [],_,_,_,_,hs=>by unfold bf at hs⊢;exact hs
 |o::l,i,fs,s,s',hs=>by
  unfold bf at hs⊢;split at hs
  ·rename_i t f A;rw[stepD_mono h A];simp only;cases z:bR (bV ops) i f fs with
   |false=>rw[z]at hs;cases hs
   |true=>rw[z]at hs;simp only[cond_true]at hs⊢;exact ej h l _ _ _ _ hs
  cases hs
theorem jq(h:CfLe cf cf'){z:Bool}{s E:St}(hs:bB P G cf ops z s=some E):bB P G cf' ops z s=some E:=by
 unfold bB at hs⊢;cases z with
 |false=>exact fJ h _ _ _ hs
 |true=>
  simp only[cond_true]at hs⊢
  cases A:iO ops&&P.follows .mixedOrders with
  |false=>rw[A]at hs;cases hs
  |true=>rw[A]at hs;simp only[cond_true]at hs⊢;exact ej h _ _ _ _ _ hs
theorem ft{r E:Option (Ex×St)}{k A:St->Option (Ex×St)}(T: ∀x,r=some x->E=some x)(O: ∀s x,k s=some x->A s=some x){x:Ex×St}(h:e9 r k=some x):e9 E A=some x:=by
 cases z:r with
 |none=>rw[z]at h;cases h
 |some y=>
  rw[T y z]
  rw[z]at h
  obtain⟨e,s⟩:=y
  cases e with
  |normal=>exact O _ _ h
  |exit i=>exact h
  |ret=>exact h
theorem hC{id:Nat}{r A:Option (Ex×St)}(E: ∀x,r=some x->A=some x){x:Ex×St}(h:cL id r=some x):cL id A=some x:=by
 cases z:r with
 |none=>rw[z]at h;cases h
 |some y=>rw[E y z];rw[z]at h;exact h
theorem execC_mono(h:CfLe cf cf'){ex E:Code->St->Option (Ex×St)}(O:ExLe ex E)(c:Code): ∀(s:St) (x:Ex×St),ec P G ex cf c s=some x->ec P G E cf' c s=some x:=by
 induction c with
 |skip=>intro s x z;exact z
 |region id ops draw=>
  intro s x z
  rw[e8]at z⊢
  cases A:bB P G cf ops draw s with
  |none=>rw[A]at z;cases z
  |some t=>rw[jq h A];rw[A]at z;exact z
 |seq a b iha ihb=>
  intro s x z
  rw[jc]at z⊢
  exact ft (iha s) ihb z
 |cond c t e iht ihe=>
  intro s x z
  rw[gP]at z⊢
  cases A:bh G c with
  |false=>rw[A]at z;cases z
  |true=>
   rw[A]at z
   simp only[cond_true]at z⊢
   unfold jN at z⊢
   split at z
   ·rename_i b T;cases b with
    |true=>exact iht s x z
    |false=>exact ihe s x z
   cases z
 |block id b ih=>
  intro s x z
  rw[fX]at z⊢
  exact hC (ih s) z
 |loop b ih=>
  intro s x z
  rw[gO]at z⊢
  exact ft (ih s) (O _) z
 |exit id=>intro s x z;exact z
 |ret=>intro s x z;exact z
 |_=>intro s x z;cases z
theorem jT{ex z:Code->St->Option (Ex×St)}(A:ExLe ex z):CfLe (kC P ex) (kC P z):=by
 intro f a H r h;unfold kC at h⊢;split at h
 ·split at h
  ·split at h
   ·rename_i s E;rw[A _ _ _ E];exact h
   ·rename_i s E;rw[A _ _ _ E];exact h
   cases h
  cases h
 cases h
theorem jS{K:bx}(h:CfLe cf cf'):CfLe (jh K cf) (jh K cf'):=by
 intro f a H r z;unfold jh at z⊢;split at z
 ·exact z
 exact h _ _ _ _ z
theorem gu{K:bx}: ∀n,ExLe (jM P G K n) (jM P G K (n+1))
 |0=>fun c s r h=>by cases h
 |n+1=>fun c s r h=>execC_mono (jS (jT (gu n))) (gu n) c s r h
theorem gv{K:bx}{n m:Nat}(h:n<=m):ExLe (jM P G K n) (jM P G K m):=by
 induction h with
 |refl=>exact fun _ _ _ h=>h
 |step _ ih=>exact fun c s r h=>gu _ c s r (ih c s r h)
theorem eA{K:bx}{n m:Nat}(h:n<=m):CfLe (call P G K n) (call P G K m):=jS (jT (gv h))
end
end Go.R
