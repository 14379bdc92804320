/-
The evaluator is sound: regions, code, calls, laws.
-/
import Derived.Test.YtgdggmlghemecaaDoorZARA
import Derived.Below
import Derived.ChangeSame
import Derived.ChangeArms
namespace Go.R
structure Ext(H H':Heap):Prop where
 next:H.next<=H'.next
 log: ∃d,H'.log=d++H.log/\∀b,b<H.next->b∉d->H'.get b=H.get b
 far: ∀b,H'.next<=b->H'.get b=H.get b
theorem Ext.refl(H:Heap):Ext H H:=⟨a0b _,⟨[],V,fun _ _ _=>rfl⟩,fun _ _=>rfl⟩
theorem Ext.trans{H H1 E:Heap}(h:Ext H H1)(k:Ext H1 E):Ext H E:=by
 obtain⟨N,U,g1⟩:=h.log;obtain⟨T,Z,g2⟩:=k.log;refine⟨a0e h.next k.next,⟨T++N,by rw[Z,U,a0p],fun b z A=>?_⟩,fun b z=>?_⟩
 ·rw[a08,not_or]at A;rw[g2 b (a0V z h.next) A.1,g1 b z A.2]
 rw[k.far b z,h.far b (a0e k.next z)]
theorem Ext.push(H:Heap)(o:AObj):Ext H (H.push o):=by refine⟨by simp,⟨[],V,fun b z _=>Heap.get_push_ne H o M⟩,fun b z=>Heap.get_push_ne H o ?_⟩;simp at z;omega
theorem Ext.put{H:Heap}{b:Nat}(o:AObj)(A:b<H.next):Ext H (H.put b o):=by refine⟨a0b _,⟨[b],V,fun k _ z=>Heap.get_put_ne H o (fun e=>z (by simp[e]))⟩,fun k z=>Heap.get_put_ne H o ?_⟩;simp at z;omega
def WF(H:Heap):Prop:= ∀b,H.next<=b->H.get b=none
theorem WF.ext{H H':Heap}(h:WF H)(e:Ext H H'):WF H':=fun b z=>by rw[e.far b z];exact h b (a0e e.next z)
theorem WF.lt{H:Heap}(h:WF H){b:Nat}{o:AObj}(z:H.get b=some o):b<H.next:=by
 rcases a0j b H.next with hl|hl
 ·exact hl
 rw[h b hl]at z;cases z
section ext
variable {P:Program} {H H':Heap}
def ER(H:Heap){α:Type}(r:Option (α×Heap)):Prop:= ∀a H',r=some (a,H')->Ext H H'
theorem ER.none_{α:Type}:ER H (none:Option (α×Heap)):=fun _ _ h=>by cases h
theorem ER.some_{α:Type}{a:α}{H1:Heap}(h:Ext H H1):ER H (some (a,H1)):=fun _ _ e=>by injection e with e;injection e with _ e;subst e;exact h
theorem ER.same{α:Type}{a:α}:ER H (some (a,H)):=ER.some_ (Ext.refl H)
theorem ER.bif_{α:Type}{c:Bool}{x y:Option (α×Heap)}(h:ER H x)(k:ER H y):ER H (bif c then x else y):=by cases c<;>assumption
def EO(H:Heap)(r:Option Heap):Prop:= ∀H',r=some H'->Ext H H'
theorem EO.none_:EO H none:=fun _ h=>by cases h
theorem EO.some_{H1:Heap}(h:Ext H H1):EO H (some H1):=fun _ e=>by injection e with e;subst e;exact h
theorem EO.bif_{c:Bool}{x y:Option Heap}(h:EO H x)(k:EO H y):EO H (bif c then x else y):=by cases c<;>assumption
theorem ER.ovl_(r:Option Value):ER H (ovl r H):=by unfold ovl;split;exact ER.same;exact ER.none_
theorem ER.ovh_{r:Option (Value×Heap)}(h:ER H r):ER H (ovh r):=by
 unfold ovh;split
 ·rename_i v z;exact ER.some_ (h v z V)
 exact ER.none_
theorem ER.osk_{r:Option Heap}(h:EO H r):ER H (osk r):=by
 unfold osk;split
 ·rename_i z;exact ER.some_ (h z V)
 exact ER.none_
theorem ER.lift_(s:Sem Value):ER H (lift P s H):=by unfold lift;split;exact ER.same;exact ER.none_
theorem ER.plain_(ρ:Operand->Value)(o:Oper):ER H (bD P ρ o H):=by
 unfold bD;refine ER.bif_ ?_ ER.none_;split
 ·exact ER.bif_ ER.same ER.none_
 exact ER.none_
theorem iH(A:WF H)(a:Addr)(E:List Value):EO H (H.storeL a E):=by
 unfold Heap.storeL;split
 ·split
  ·rename_i z;exact EO.bif_ (EO.some_ (Ext.put _ (A.lt z))) EO.none_
  exact EO.none_
 exact EO.none_
theorem append_ext(A:WF H)(types:Array TypeId)(s x:Value):ER H (fN P types s x H):=by
 unfold fN;split
 case h_2=>exact ER.none_
 split
 case h_2=>exact ER.none_
 split
 ·exact ER.none_
 split
 case h_2=>exact ER.none_
 split
 ·exact ER.none_
 split
 ·exact ER.bif_ ER.same (ER.bif_ (ER.some_ (Ext.push _ _)) ER.none_)
 ·split
  ·rename_i N;refine ER.bif_ (ER.bif_ ER.same ?_) (ER.bif_ ?_ ER.none_)
   ·split
    ·rename_i E z;exact ER.some_ (iH A _ _ E z)
    exact ER.none_
   split
   ·exact ER.none_
   split
   ·exact ER.some_ (Ext.push _ _)
   exact ER.bif_ (ER.some_ ((Ext.put .dead (A.lt N)).trans (Ext.push _ _))) ER.none_
  exact ER.none_
 exact ER.none_
theorem copy_ext(E:WF H)(types:Array TypeId)(d s:Value):ER H (mS P types d s H):=by
 unfold mS;split
 case h_2=>exact ER.none_
 split
 case h_2=>exact ER.none_
 split
 case h_2=>exact ER.none_
 refine ER.bif_ ER.same ?_;split
 ·split
  ·rename_i A z;exact ER.some_ (iH E _ _ A z)
  exact ER.none_
 exact ER.none_
theorem kY(A:WF H)(t:TypeId)(m k v:Value):EO H (e7 P t m k v H):=by
 unfold e7;split
 ·split
  ·split
   ·rename_i z;exact EO.bif_ (EO.some_ (Ext.put _ (A.lt z))) EO.none_
   exact EO.none_
  exact EO.none_
 exact EO.none_
theorem aop_er(z:WF H)(ρ:Operand->Value)(o:Oper):ER H (aop P ρ o H):=by
 unfold aop;split
 ·exact ER.same
 ·exact ER.same
 ·unfold ga;split;exact ER.same;exact ER.none_
 ·unfold eC;split;exact ER.some_ (Ext.push _ _);exact ER.none_
 ·exact ER.some_ (Ext.push _ _)
 ·unfold gM;split;exact ER.lift_ _;exact ER.none_
 ·unfold bN;split
  ·refine ER.bif_ ?_ ER.none_;split
   ·exact ER.some_ (Ext.push _ _)
   exact ER.none_
  exact ER.none_
 ·unfold ek;split;exact ER.ovl_ _;exact ER.none_
 ·unfold eW;split
  ·split
   ·exact ER.bif_ (ER.osk_ (iH z _ _)) ER.none_
   exact ER.none_
  exact ER.none_
 ·unfold opNil;split;exact ER.same;exact ER.same;exact ER.none_
 ·unfold aBin;split
  ·unfold binInt;split;exact ER.ovl_ _;exact ER.none_
  ·unfold binStr;split;exact ER.ovl_ _;exact ER.none_
  unfold mK;split
  ·exact ER.plain_ _ _
  ·exact ER.plain_ _ _
  intro a H' h;rw[(iM h).1];exact Ext.refl _
 ·unfold fK;split;exact ER.ovl_ _;exact ER.ovl_ _;exact ER.plain_ _ _
 ·exact ER.same
 ·exact ER.some_ (Ext.push _ _)
 ·refine ER.ovh_ ?_;unfold aMake;split
  ·split
   ·exact ER.bif_ (ER.some_ (Ext.push _ _)) ER.none_
   exact ER.none_
  exact ER.none_
 ·exact ER.ovl_ _
 ·exact ER.ovl_ _
 ·exact ER.ovl_ _
 ·exact ER.ovl_ _
 ·unfold kL;split;exact ER.ovl_ _;exact ER.lift_ _
 ·exact ER.ovl_ _
 ·exact ER.osk_ (kY z _ _ _ _)
 ·exact ER.osk_ (kY z _ _ _ _)
 ·refine ER.ovh_ ?_;unfold aRange;split;exact ER.some_ (Ext.push _ _);exact ER.none_
 ·refine ER.ovh_ ?_;unfold aNext;split
  ·split
   ·rename_i A;exact ER.bif_ (ER.some_ (Ext.put _ (z.lt A))) ER.same
   exact ER.none_
  exact ER.none_
 ·exact ER.ovl_ _
 ·unfold opCall;split
  ·unfold mT;split
   ·unfold bLen;split;exact ER.ovl_ _;exact ER.none_
   ·unfold bAppend;split;exact ER.ovh_ (append_ext z _ _ _);exact ER.none_
   ·unfold bCopy;split;exact ER.ovh_ (copy_ext z _ _ _);exact ER.none_
   ·exact ER.plain_ _ _
   ·exact ER.plain_ _ _
   exact ER.none_
  ·unfold fy;split;exact ER.same;exact ER.none_
  exact ER.none_
 ·unfold aUn;split
  ·split;exact ER.same;exact ER.none_
  exact ER.plain_ _ _
 exact ER.none_
theorem mO(z:WF H){ρ:Operand->Value}{o:Oper}{r:AN}(h:aop P ρ o H=some (r,H')):Ext H H':=aop_er z ρ o r H' h
end ext
section
variable {P:Program} {μ:Emb} {H H':Heap} {w:World}
theorem two_of{l:List Value}{a b:Value}{z:Array Value}(h:LRel μ l z.toList)(he:l=[a,b]): ∃A E,z= #[A,E]/\VRel μ a A/\VRel μ b E:=by subst he;obtain⟨A,t,T,Z,ht⟩:=h.cons_left;obtain⟨E,t2,U,hb,N⟩:=ht.cons_left;have:=N.nil_left;subst this U;exact⟨A,E,a19.1 (by rw[T]),Z,hb⟩
theorem one_of{l:List Value}{a:Value}{z:Array Value}(h:LRel μ l z.toList)(T:l=[a]): ∃A,z= #[A]/\VRel μ a A:=by subst T;obtain⟨A,t,E,N,U⟩:=h.cons_left;have:=U.nil_left;subst this;exact⟨A,a19.1 (by rw[E]),N⟩
theorem OpOK.of_value{s:Sem Next}{v v':Value}(h: ∀w,s.run P w= .ok (.value v') w)(A:WRel μ H w)(z:VRel μ v v'):OpOK P μ H w s (.val v) H:=
 ⟨.value v',w,μ,h w,Post.refl A,z⟩
theorem fw{ρ ρ':Operand->Value}{x:Option Operand}(h: ∀y,x=some y->VRel μ (ρ y) (ρ' y)):
  (∀v,x.map ρ=some v->∃v',x.map ρ'=some v'/\VRel μ v v')/\(x.map ρ=none->x.map ρ'=none):=by
 cases x with
 |none=>exact⟨fun v z=>by simp at z,fun _=>rfl⟩
 |some y=>exact⟨fun v z=>by simp at z;subst z;exact⟨_,V,h y V⟩,fun A=>by simp at A⟩
set_option maxHeartbeats 4000000 in
theorem gi{ρ ρ':Operand->Value}{o:Oper}{r:AN}(T: ∀x∈o.op.operands,VRel μ (ρ x) (ρ' x))(U:WRel μ H w)
  (hf: ∀b,H.next<=b->b<H'.next->μ b=none) (h:aop P ρ o H=some (r,H')):OpOK P μ H w (execOp ρ' o) r H':=by
 cases hk:aU o.op with
 |true=>
  obtain⟨rfl,v,v',rfl,A,hr⟩:=jN hk T h
  exact OpOK.of_value A U hr
 |false=>
  obtain⟨an,op,type,pos,after,Z⟩:=o
  cases op<;>simp only[aU,reduceCtorEq]at hk
  case alloc e=>
   have E:eC P e H=some (r,H'):=h
   have:=alloc_sound U hf E
   exact this
  case box e x=>
   have E:some (AN.val (ptrTo H.next),aQ H (ρ x).cells.toList none)=some (r,H'):=h
   simp only[a00,a01]at E
   obtain⟨rfl,rfl⟩:=E
   have:=box_sound (P:=P) (e:=e) U (hf H.next (a0b _) (by simp[aQ])) (T x (by simp[Op.operands]))
   exact this
  case buildSlice t n parts=>
   have E:bN P t n (dQ (fun p=>(p.1,ρ p.2)) parts.toList) H=some (r,H'):=h
   rw[iN]at E
   have:=js (ps':=parts.map fun(i,x)=>(i,ρ' x)) U hf (by simp) (fun i x x' h1 h2=>?_) E
   ·exact this
   simp only[a29,a1n,a22]at h1 h2
   obtain⟨y,hy,rfl⟩:=h1
   obtain⟨z,hz,rfl⟩:=h2
   rw[hy]at hz;injection hz with hz;subst hz
   refine⟨V,T _ ?_⟩
   have:=a0n hy
   simp only[Op.operands,List.mem_toArray,a0u]
   exact⟨y,this,V⟩
  case load t a=>
   have E:ek P t (ρ a) H=some (r,H'):=h
   have:=load_sound U (T a (by simp[Op.operands])) E
   exact this
  case store t a x=>
   have E:eW P t (ρ a) (ρ x) H=some (r,H'):=h
   have:=store_sound U (T a (by simp[Op.operands])) (T x (by simp[Op.operands])) E
   exact this
  case convert s d x=>
   have E:fK P ρ ⟨an,.convert s d x,type,pos,after,Z⟩ s d (ρ x) H=some (r,H'):=h
   exact mB (o:=⟨an,.convert s d x,type,pos,after,Z⟩) U V T E
  case makeMap t rsv=>
   cases rsv with
   |some _=>simp[aop]at h
   |none=>
    have E:some (AN.val (.map (some H.next)),H.push (.tab []))=some (r,H'):=h
    simp only[a00,a01]at E
    obtain⟨rfl,rfl⟩:=E
    have:=mq (P:=P) t U (hf H.next (a0b _) (by simp))
    exact this
  case makeSlice t l c=>
   have E:ovh (aMake P t (ρ l) (ρ c) H)=some (r,H'):=h
   have:=make_sound U hf (T l (by simp[Op.operands])) (T c (by simp[Op.operands])) E
   exact this
  case slice t x lo hi mx=>
   obtain⟨a1,a2⟩:=fw (μ:=μ) (ρ:=ρ) (ρ':=ρ') (x:=lo) fun y hy=>T y (by subst hy;simp[Op.operands])
   obtain⟨b1,b2⟩:=fw (μ:=μ) (ρ:=ρ) (ρ':=ρ') (x:=hi) fun y hy=>T y (by subst hy;simp[Op.operands])
   obtain⟨_,c2⟩:=fw (μ:=μ) (ρ:=ρ) (ρ':=ρ') (x:=mx) fun y hy=>T y (by subst hy;simp[Op.operands])
   have E:ovl (bA P t (ρ x) (lo.map ρ) (hi.map ρ) (mx.map ρ) H) H=some (r,H'):=h
   have:=slice_sound U (T x (by simp[Op.operands])) a1 a2 b1 b2 c2 E
   exact this
  case lookup t m k ok=>
   have E:ovl (eM P t (ρ m) (ρ k) ok H) H=some (r,H'):=h
   obtain⟨rfl,v,hv,rfl⟩:=cx E
   obtain⟨v',A,hr⟩:=lookup_sound (P:=P) U (T m (by simp[Op.operands])) (T k (by simp[Op.operands])) hv
   have:=OpOK.value A (Post.refl U) hr
   exact this
  case mapUpdate t m k x=>
   have E:osk (e7 P t (ρ m) (ρ k) (ρ x) H)=some (r,H'):=h
   obtain⟨hu,rfl⟩:=mp E
   obtain⟨w',A,hp⟩:=iY (P:=P) U (T m (by simp[Op.operands])) (T k (by simp[Op.operands])) (T x (by simp[Op.operands])) hu
   have:=OpOK.skip A hp
   exact this
  case insert t m k x=>
   have E:osk (e7 P t (ρ m) (ρ k) (ρ x) H)=some (r,H'):=h
   obtain⟨hu,rfl⟩:=mp E
   obtain⟨w',A,hp⟩:=iY (P:=P) U (T m (by simp[Op.operands])) (T k (by simp[Op.operands])) (T x (by simp[Op.operands])) hu
   have:=OpOK.skip A hp
   exact this
  case range t x=>
   have E:ovh (aRange P t (ρ x) H)=some (r,H'):=h
   have:=range_sound U hf (T x (by simp[Op.operands])) E
   exact this
  case next it isS=>
   cases isS with
   |false=>simp[aop]at h
   |true=>
    have E:ovh (aNext H (ρ it))=some (r,H'):=h
    have:=next_sound (P:=P) (type:=type) U (T it (by simp[Op.operands])) E
    exact this
  case call c=>
   obtain⟨ag,args,N⟩:=c
   have ad:LRel μ (dQ ρ args.toList) (args.map ρ').toList:=by
    rw[iN];have:=jI (μ:=μ) (ops:=args) (ρ:=ρ) (ρ':=ρ') fun x hx=>T x (by simp[Op.operands,Call.operands];exact .inr hx)
    simpa using this
   have h:opCall P ρ ⟨an,.call ⟨ag,args,N⟩,type,pos,after,Z⟩ ⟨ag,args,N⟩ H=some (r,H'):=h
   unfold opCall at h
   cases ag with
   |invoke rv nm=>simp at h
   |value f=>
    simp only at h
    unfold fy at h
    split at h
    ·rename_i n hn;simp only[a00,a01]at h;obtain⟨rfl,rfl⟩:=h;obtain⟨i,b3,rfl,a5,A,hr⟩:=callee_sound (P:=P) (T f (by simp[Op.operands,Call.operands])) ad hn;refine⟨.enter i a5,w,μ,?_,Post.refl U,V,hr⟩;have:=A w;simpa only[execOp,resolve] using this
    cases h
   |builtin b=>
    simp only at h
    unfold mT at h
    have ao:bD P ρ ⟨an,.call ⟨.builtin b,args,N⟩,type,pos,after,Z⟩ H=some (r,H')->OpOK P μ H w (execOp ρ' ⟨an,.call ⟨.builtin b,args,N⟩,type,pos,after,Z⟩) r H':=by intro hp;obtain⟨rfl,v,v',rfl,A,hr⟩:=dF hp (fun _ _=>by simp) T;exact OpOK.of_value A U hr
    split at h
    ·--len
     unfold bLen at h;split at h
     ·rename_i t x ht hx;obtain⟨x',ar,a4⟩:=one_of ad hx;obtain⟨rfl,v,hv,rfl⟩:=cx h;obtain⟨A,hn⟩:=len_sound (P:=P) (ty:=type) U a4 hv;have a0:N= #[t]:=a19.1 (by rw[ht]);refine⟨.value v,w,μ,?_,Post.refl U,.atom v hn⟩;simp only[execOp,resolve,Sem.run_bind,Sem.run_pure,Result.andThen_ok,invoke,builtin,ar,a0,A]
     cases h
    ·unfold bAppend at h;split at h
     ·rename_i t1 t2 s x ht hx;obtain⟨s',x',ar,a3,a4⟩:=two_of ad hx;obtain⟨v,hv,rfl⟩:=j3 h;have a0:N= #[t1,t2]:=a19.1 (by rw[ht]);obtain⟨v',w',μ',A,hp,hr⟩:=append_sound (P:=P) (ty:=type) U hf a3 a4 (by rw[a0];rfl) hv;refine⟨.value v',w',μ',?_,hp,hr⟩;simp only[execOp,resolve,Sem.run_bind,Sem.run_pure,Result.andThen_ok,invoke,builtin,ar,A]
     cases h
    ·unfold bCopy at h;split at h
     ·rename_i d s hx;obtain⟨d',s',ar,bl,a3⟩:=two_of ad hx;obtain⟨v,hv,rfl⟩:=j3 h;obtain⟨v',w',A,hp,hr⟩:=copy_sound (P:=P) (ty:=type) U bl a3 hv;refine⟨.value v',w',μ,?_,hp,hr⟩;simp only[execOp,resolve,Sem.run_bind,Sem.run_pure,Result.andThen_ok,invoke,builtin,ar,A]
     cases h
    ·exact ao h
    ·exact ao h
    cases h
  all_goals simp[aop]at h
end
end Go.R
namespace Go.R
@[simp] theorem lget_nil(i:Nat):cU .nil i=undef:=rfl
@[simp] theorem lget_lset_same(t:Tr Value)(d:Nat)(v:Value):cU (lset t d v) d=v:=by simp[cU,lset]
theorem lget_lset_ne(t:Tr Value){d k:Nat}(v:Value)(h:d≠k):cU (lset t d v) k=cU t k:=by simp[cU,lset,Tr.get_set_ne _ _ h]
theorem gc(t:Tr Value)(d k:Nat)(v:Value):cU (lset t d v) k=if d=k then v else cU t k:=by
 by_cases h:d=k
 ·subst h;simp
 rw[if_neg h,lget_lset_ne t v h]
def TRel(μ:Emb)(t:Tr Value)(n:Nat)(a:Array Value):Prop:=a.size=n/\∀i,VRel μ (cU t i) (a.getD i undef)
def GRel(μ:Emb)(G:Nat):Prop:= ∀g,g<G->∃l,μ g=some l/\l.c=g/\l.sh=0
section
variable {P:Program} {G:Nat} {μ μ':Emb}
theorem TRel.mono(h: ∀b l,μ b=some l->μ' b=some l){t:Tr Value}{n:Nat}{a:Array Value}(z:TRel μ t n a):TRel μ' t n a:=⟨z.1,fun i=>(z.2 i).mono h⟩
theorem GRel.mono(h: ∀b l,μ b=some l->μ' b=some l)(T:GRel μ G):GRel μ' G:=fun g z=>by obtain⟨l,A,E,N⟩:=T g z;exact⟨l,h _ _ A,E,N⟩
theorem getD_set(a:Array Value)(d i:Nat)(v:Value):(a.setIfInBounds d v).getD i undef=if d=i/\d<a.size then v else a.getD i undef:=by
 simp only[a0Y,a1i];by_cases h:d=i
 ·subst h;by_cases z:d<a.size
  ·simp[z]
  simp[z]
 simp[h]
theorem TRel.put{t:Tr Value}{n:Nat}{a:Array Value}(h:TRel μ t n a){d:Nat}(z:d<n){v v':Value}(A:VRel μ v v'):TRel μ (lset t d v) n (a.setIfInBounds d v'):=by
 refine⟨by simp[h.1],fun i=>?_⟩;rw[gc,getD_set];by_cases hi:d=i
 ·rw[if_pos hi,if_pos ⟨hi,by rw[h.1];exact z⟩];exact A
 rw[if_neg hi,if_neg (fun e=>hi e.1)];exact h.2 i
theorem eval_of(T:GRel μ G){tm:Tr Value}{a:Act}{x:Operand}(z:bg G x=true)(h: ∀t,x= .tmp t->VRel μ (cU tm t) (a.tmps.getD t undef)):
  VRel μ (cR tm x) (a.eval x):=by
 cases x with
 |tmp t=>exact h t V
 |const v=>exact VRel.refl2 z
 |global g=>
  obtain⟨l,A,E,N⟩:=T g (a06 z)
  have:=VRel.ptr (μ:=μ) g 0 l A
  rw[E,N]at this;exact this
 |func f=>exact .atom _ V
theorem yield_eq{ops:Array Oper}{tm:Tr Value}{a:Array Value}{j:Nat}(h: ∀d,(ops[j]?).bind (·.dst)=some d->VRel μ (cU tm d) (a.getD d undef)):
  kS ops tm j=yielded ops a j:=by
 unfold kS yielded
 cases N:(ops[j]?).bind (·.dst) with
 |none=>rfl
 |some d=>
  have z:=h d N
  simp only[a0l]
  simp only[a0Y]at z
  cases E:a[d]? with
  |none=>
   rw[E]at z
   simp only[Option.getD_none]at z
   have: ∀b,cU tm d≠ .bool b:=by intro b e;rw[e]at z;have:=z.bool_inv;cases this
   cases A:cU tm d<;>first|rfl|exact absurd A (this _)
  |some x=>
   rw[E]at z
   simp only[a0Q]at z
   cases x with
   |bool b=>
    have:cU tm d= .bool b:=by generalize cU tm d=y at z;cases z;rfl
    rw[this]
   |_=>
    have: ∀b,cU tm d≠ .bool b:=by intro b e;rw[e]at z;have:=z.bool_inv;cases this
    cases A:cU tm d<;>first|rfl|exact absurd A (this _)
theorem wanted_eq{ops:Array Oper}{o:Oper}{tm:Tr Value}{a:Array Value}(h: ∀j w,o.guard=some (j,w)->∀d,(ops[j]?).bind (·.dst)=some d->VRel μ (cU tm d) (a.getD d undef)):
  be ops o tm=Region.wanted o (yielded ops a):=by
 unfold be Region.wanted
 cases z:o.guard with
 |none=>rfl
 |some p=>
  obtain⟨j,w⟩:=p
  simp only
  rw[yield_eq (h j w z)]
def eh(P:Program)(G:Nat)(cf:cC):Prop:= ∀f args H v H',cf f args H=some (v,H')->WF H->Ext H H'/\
 ∀μ w (cargs:Array Value),LRel μ args cargs.toList->GRel μ G->WRel μ H w->(∀b,H.next<=b->b<H'.next->μ b=none)->
  Calls P f cargs w fun e w'=> ∃μ' v',e= .returned v'/\VRel μ' v v'/\Post μ H w μ' H' w'
noncomputable def dM (P : Program) (cf : cC) (ρ : Operand -> Value) (o : Oper) (H : Heap) : Option (Value × Heap) :=
 match aop P ρ o H with
 |some (.val v,h)=>some (v,h)
 |some (.skip,h)=>some (undef,h)
 |some (.enter f args,h)=>cf f args h
 |none=>none
theorem step_eq(cf:cC)(ops:Array Oper)(o:Oper)(s:St):step P G cf ops o s=
  bif be ops o s.tmps then
   bif o.op.operands.toList.all (bg G) then
    match dM P cf (cR s.tmps) o s.heap with
    |some (v,h)=>{s with heap:=h}.put o.dst v
    |none=>none
   else none
  else s.put o.dst undef:=by
 unfold step dM
 cases be ops o s.tmps with
 |false=>rfl
 |true=>
  cases o.op.operands.toList.all (bg G) with
  |false=>rfl
  |true=>
   simp only[cond_true]
   cases aop P (cR s.tmps) o s.heap with
   |none=>rfl
   |some p=>
    obtain⟨r,h⟩:=p
    cases r with
    |val v=>rfl
    |skip=>rfl
    |enter f args=>
     simp only
     cases cf f args h with
     |none=>rfl
     |some q=>rfl
theorem gK{s A:St}{z:Option Tmp}{v:Value}(h:s.put z v=some A):
  A.size=s.size/\A.heap=s.heap/\((z=none/\A.tmps=s.tmps)\/∃d,z=some d/\d<s.size/\A.tmps=lset s.tmps d v):=by
 unfold St.put at h
 split at h
 ·rename_i d;cases E:Nat.ble (d+1) s.size with
  |false=>rw[E]at h;cases h
  |true=>
   rw[E]at h;simp only[cond_true,a00]at h;subst h
   exact⟨V,V,.inr ⟨d,V,a06 E,V⟩⟩
 injection h with h;subst h;exact⟨V,V,.inl ⟨V,V⟩⟩
theorem lG{cf:cC}(T:eh P G cf){ρ:Operand->Value}{o:Oper}{H H':Heap}{v:Value}(A:WF H)(h:dM P cf ρ o H=some (v,H')):Ext H H':=by
 unfold dM at h;split at h
 ·rename_i u E z;simp only[a00,a01]at h;rw[←h.2];exact mO A z
 ·rename_i E z;simp only[a00,a01]at h;rw[←h.2];exact mO A z
 ·rename_i f args E z;have N:=mO A z;exact N.trans (T f args E v H' h (A.ext N)).1
 cases h
theorem je{cf:cC}(a0:eh P G cf){ρ:Operand->Value}{o:Oper}{a:Act}{H H':Heap}{v:Value}{w:World}(an:WF H)(hρ: ∀x∈o.op.operands,VRel μ (ρ x) (a.eval x))
  (hG:GRel μ G) (hw:WRel μ H w) (hf: ∀b,H.next<=b->b<H'.next->μ b=none) (h:dM P cf ρ o H=some (v,H')) {K:Act->World->Prop} {Q:Exit->Act->World->Prop}
  (hK: ∀μ' w' v',Post μ H w μ' H' w'->VRel μ' v v'->K (a.put o.dst v') w'):o.wp P a w K Q:=by
 unfold dM at h
 unfold Oper.wp
 split at h
 ·rename_i u h1 N;simp only[a00,a01]at h;obtain⟨rfl,rfl⟩:=h;obtain⟨n,w1,T,z,A,E⟩:=gi hρ hw hf N;rw[z];cases n<;>first|exact hK T w1 _ A E|exact E.elim
 ·rename_i h1 N;simp only[a00,a01]at h;obtain⟨rfl,rfl⟩:=h;obtain⟨n,w1,T,z,A,E⟩:=gi hρ hw hf N;rw[z];cases n<;>first|exact hK T w1 _ A VRel.undef|exact E.elim
 ·rename_i f args h1 N;have e1:=mO an N;obtain⟨e2,ai⟩:=a0 f args h1 v H' h (an.ext e1);obtain⟨n,w1,T,z,A,E⟩:=gi hρ hw (fun b U Z=>hf b U (a0V Z e2.next)) N;rw[z];cases n with
  |enter f' cargs=>
   obtain⟨rfl,ag⟩:=E
   rw[Oper.upon_enter]
   refine(ai T w1 cargs ag (hG.mono A.ext) A.wrel (fun b U Z=>?_)).mono ?_
   ·cases hb:T b with
    |none=>rfl
    |some l=>
     rcases A.dom b l hb with hb0|⟨_,hb3⟩
     ·rw[hf b (a0e e1.next U) Z]at hb0;cases hb0
     omega
   rintro e w2 ⟨μ2,v',rfl,hv,hp2⟩
   exact hK μ2 w2 v' (A.trans hp2 e1.next e2.next) hv
  |_=>exact E.elim
 cases h
theorem jy{cf:cC}(A:eh P G cf){ops:Array Oper}{o:Oper}{s N:St}(U:WF s.heap)(h:step P G cf ops o s=some N):Ext s.heap N.heap:=by
 rw[step_eq]at h;cases E:be ops o s.tmps with
 |false=>rw[E]at h;rw[(gK h).2.1];exact Ext.refl _
 |true=>
  rw[E]at h
  cases z:o.op.operands.toList.all (bg G) with
  |false=>rw[z]at h;cases h
  |true=>
   rw[z]at h
   simp only[cond_true]at h
   split at h
   ·rename_i v Z T;rw[(gK h).2.1];exact lG A U T
   cases h
theorem eZ(a:Act)(z:Option Tmp)(v:Value):(a.put z v).defers=a.defers:=by cases z<;>rfl
theorem put_rel{s E:St}{z:Option Tmp}{v v':Value}{a:Act}(h:s.put z v=some E)(T:TRel μ s.tmps s.size a.tmps)(Z:VRel μ v v'):
  TRel μ E.tmps E.size (a.put z v').tmps:=by
 obtain⟨N,_,⟨rfl,A⟩|⟨d,rfl,U,A⟩⟩:=gK h
 ·rw[N,A];exact T
 rw[N,A];exact T.put U Z
theorem step_sound{cf:cC}(ag:eh P G cf){ops:Array Oper}{i:Nat}{o:Oper}(ho:ops[i]?=some o){s E:St}{a:Act}{w:World}(ar:WF s.heap)(N:TRel μ s.tmps s.size a.tmps)
  (Z:GRel μ G) (hw:WRel μ s.heap w) (hf: ∀b,s.heap.next<=b->b<E.heap.next->μ b=none) (h:step P G cf ops o s=some E) {K:Act->World->Prop} {Q:Exit->Act->World->Prop}
  (hK: ∀μ' w' U,Post μ s.heap w μ' E.heap w'->TRel μ' E.tmps E.size U.tmps->U.defers=a.defers->K U w'):wpOp P ops Q i K a w:=by
 unfold wpOp
 rw[ho]
 simp only
 have T:be ops o s.tmps=Region.wanted o (yielded ops a.tmps):=wanted_eq (μ:=μ) fun _ _ _ d _=>N.2 d
 rw[step_eq,T]at h
 cases hq:Region.wanted o (yielded ops a.tmps) with
 |false=>
  rw[hq]at h
  simp only[cond_false]at h
  simp only[a0O,if_false]
  have z:=(gK h).2.1
  exact hK μ w _ (by rw[z];exact Post.refl hw) (put_rel h N VRel.undef) (eZ _ _ _)
 |true=>
  rw[hq]at h
  simp only[if_true]
  left
  cases A:o.op.operands.toList.all (bg G) with
  |false=>rw[A]at h;cases h
  |true=>
   rw[A]at h
   simp only[cond_true]at h
   split at h
   ·rename_i v h1 he;have z:=(gK h).2.1;simp only at z;refine je ag ar (fun x hx=>eval_of Z (a0y.1 A x (by simpa using hx)) fun t _=>N.2 t) Z hw (by rw[←z];exact hf) he ?_;intro μ' w' v' hp hv;have an:TRel μ' s.tmps s.size a.tmps:=N.mono hp.ext;exact hK μ' w' _ (by rw[z];exact hp) (put_rel (s:={s with heap:=h1}) h an hv) (eZ _ _ _)
   cases h
theorem iK{cf:cC}(A:eh P G cf){ops:Array Oper}: ∀(l:List Oper) (s z:St),WF s.heap->fS P G cf ops l s=some z->Ext s.heap z.heap
 | [],s,z,_,h=>by rw[iJ]at h;injection h with h;subst h;exact Ext.refl _
 |o::os,s,z,hw,h=>by
  rw[cg]at h;split at h
  ·rename_i T N;have E:=jy A hw N;exact E.trans (iK A os T z (hw.ext E) h)
  cases h
theorem iZ{cf:cC}(A:eh P G cf){ops:Array Oper}{Q:Exit->Act->World->Prop}: ∀(l:List Oper) (k:Nat) (s z:St),ops.toList.drop k=l->fS P G cf ops l s=some z->
  ∀(μ:Emb) (a:Act) (w:World),WF s.heap->TRel μ s.tmps s.size a.tmps->GRel μ G->WRel μ s.heap w->(∀b,s.heap.next<=b->b<z.heap.next->μ b=none)->
  (∀μ' w' a',Post μ s.heap w μ' z.heap w'->TRel μ' z.tmps z.size a'.tmps->a'.defers=a.defers->Q .normal a' w')->wpOps P ops Q (List.range' k l.length) a w
 | [],k,s,z,_,h,μ,a,w,hwf,ht,hG,hw,hf,hQ=>by rw[iJ]at h;injection h with h;subst h;simp only[a0g,List.range'_zero,wpOps];exact hQ μ w a (Post.refl hw) ht V
 |o::os,k,s,z,hd,h,μ,a,w,hwf,ht,hG,hw,hf,hQ=>by
  rw[cg]at h;split at h
  ·rename_i s1 h1;have T:=jy A hwf h1;have e2:=iK A os s1 z (hwf.ext T) h;have hk:k<ops.toList.length:=by
    rcases a0j k ops.toList.length with hl|hl
    ·exact hl
    rw[a21 hl]at hd;cases hd
   have Z:=a1p hk;rw[hd]at Z;injection Z with h2 h3;have ho:ops[k]?=some o:=by
    have:ops.toList[k]?=some o:=by rw[a05 hk,←h2]
    simpa using this
   simp only[a0a,List.range'_succ];rw[wpOps_cons];refine step_sound A ho hwf ht hG hw (fun b E N=>hf b E (a0V N e2.next)) h1 ?_;intro μ1 w1 a1 U av al;refine iZ A os (k+1) s1 z h3.symm h μ1 a1 w1 (hwf.ext T) av (hG.mono U.ext) U.wrel (fun b E N=>?_) ?_
   ·cases hb:μ1 b with
    |none=>rfl
    |some l=>
     rcases U.dom b l hb with hb0|⟨_,hb3⟩
     ·rw[hf b (a0e T.next E) N]at hb0;cases hb0
     omega
   intro μ2 w2 a2 ar aw an;exact hQ μ2 w2 a2 (U.trans ar T.next e2.next) aw (an.trans al)
  cases h
end
end Go.R
set_option linter.unusedVariables false
set_option linter.unusedSimpArgs false
namespace Go.R
def kQ(l:List Nat)(o:Oper):Nat:=o.after.toList.foldl (fun s e=>bif Region.binds .any e then s|||2^e.on|||l.getD e.on 0 else s) 0
theorem gX: ∀(os:List Oper) (z:List Nat),∃t,ancs os z=z++t/\t.length=os.length
 | [],z=>⟨[],by simp[ancs],V⟩
 |o::os,z=>by obtain⟨t,h,A⟩:=gX os (z++[kQ z o]);refine⟨kQ z o::t,?_,by simp[A]⟩;show ancs os (z++[kQ z o])=_;rw[h];simp
theorem ancs_at: ∀(os:List Oper) (z:List Nat) (k:Nat) (o:Oper),os[k]?=some o->
  (ancs os z).getD (z.length+k) 0=kQ ((ancs os z).take (z.length+k)) o
 | [],z,k,o,h=>by simp at h
 |x::os,z,0,o,h=>by
  simp at h;subst h;obtain⟨t,h,_⟩:=gX os (z++[kQ z x]);have e:ancs (x::os) z=z++([kQ z x]++t):=by show ancs os (z++[kQ z x])=_;rw[h];simp
  rw[e];simp
 |x::os,z,k+1,o,h=>by have A:=ancs_at os (z++[kQ z x]) k o (by simpa using h);have e:ancs (x::os) z=ancs os (z++[kQ z x]):=rfl;rw[e];simp only[a04,a0x]at A;rw[show z.length+(k+1)=z.length+1+k by omega];exact A
theorem fold_bit(l:List Nat)(j:Nat): ∀(es:List Edge) (s:Nat),(es.foldl (fun s e=>bif Region.binds .any e then s|||2^e.on|||l.getD e.on 0 else s) s).testBit j=true->
  s.testBit j=true\/∃e∈es,Region.binds .any e=true/\(e.on=j\/(l.getD e.on 0).testBit j=true)
 | [],s,h=> .inl h
 |e::es,s,h=>by
  simp only[List.foldl_cons]at h;rcases fold_bit l j es _ h with h1|⟨e',he,h2⟩
  ·cases z:Region.binds .any e with
   |false=>rw[z]at h1;exact .inl h1
   |true=>
    rw[z]at h1
    simp only[cond_true,Nat.testBit_or,a0z]at h1
    rcases h1 with(h1|h1)|h1
    ·exact .inl h1
    ·rw[Nat.testBit_two_pow]at h1;exact .inr ⟨e,by simp,z,.inl (by simpa using h1)⟩
    exact .inr ⟨e,by simp,z,.inr h1⟩
  exact .inr ⟨e',by simp[he],h2⟩
theorem ordered_edge{ops:Array Oper}{j k:Nat}(h:bf (cr ops) j k=true):
  ∃o,ops[k]?=some o/\∃e∈o.after.toList,Region.binds .any e=true/\(e.on=j\/(e.on<k/\bf (cr ops) j e.on=true)):=by
 unfold bf at h
 have E:k<ops.toList.length:=by
  obtain⟨t,N,T⟩:=gX ops.toList [];rcases a0j k ops.toList.length with hlt|hge
  ·exact hlt
  have:(cr ops).getD k 0=0:=by unfold cr;rw[N,a0m,a03,a0L M];rfl
  rw[this]at h;simp at h
 have A:ops.toList[k]?=some ops.toList[k]:=a05 E
 have z:=ancs_at ops.toList [] k _ A
 simp only[a0g,a1f]at z
 change (cr ops).getD k 0=kQ ((cr ops).take k) _ at z
 rw[z]at h
 rcases fold_bit _ j _ 0 h with h1|⟨e,he,hb,h2⟩
 ·simp at h1
 refine⟨ops.toList[k],by rw[←Array.getElem?_toList];exact A,e,he,hb,?_⟩
 rcases h2 with h2|h2
 ·exact .inl h2
 right
 rcases a0j e.on k with hlt|hge
 ·refine⟨hlt,?_⟩;unfold bf;rw[a03,a0A,if_pos hlt,←a03]at h2;exact h2
 rw[a03,a0A,if_neg M]at h2
 simp at h2
def DC(ops:Array Oper)(S:Nat->Bool):Prop:= ∀(k:Nat) o,ops[k]?=some o->S k=true->∀e∈o.after.toList,Region.binds .any e=true->S e.on=true
theorem DC.anc{ops:Array Oper}{S:Nat->Bool}(h:DC ops S){j:Nat}: ∀(k:Nat),S k=true->bf (cr ops) j k=true->S j=true:=by
 intro k;induction k using Nat.strongRecOn with
 |_ k ih=>
  intro T U
  obtain⟨o,z,e,N,E,A⟩:=ordered_edge U
  have hs:=h k o z T e N E
  rcases A with rfl|⟨hlt,h2⟩
  ·exact hs
  exact ih e.on hlt hs h2
structure RegFacts(ops:Array Oper):Prop where
 back: ∀(j:Nat) o,ops[j]?=some o->∀e∈o.after.toList,Region.binds .any e=true->e.on<j
 pair: ∀(i j:Nat) x o,i<j->ops[i]?=some x->ops[j]?=some o->bf (cr ops) i j=true\/x.apart ops o=true
theorem regOK_facts{ops:Array Oper}(h:aY ops=true):RegFacts ops:=by
 unfold aY at h;simp only[a0y,a25]at h;refine⟨fun j o A e U T=>?_,fun i j x o N Z A=>?_⟩
 ·have E:j<ops.size:=(a0C.1 A).1;have:=h j E;rw[A]at this;simp only[a07,a0y]at this;have z:=this.1.1 e U;rw[T]at z;simp only[a1x,a1W]at z;exact a06 z
 have E:j<ops.size:=(a0C.1 A).1;have:=h j E;rw[A]at this;simp only[a07,a0y,a25]at this;have z:=this.2 i N;rw[Z]at z;simpa using z
section
variable (st:Nat->St) (vl:Nat->Value) (ops:Array Oper)
def chg(k b:Nat):Prop:=(st (k+1)).heap.get b≠(st k).heap.get b
open Classical in
noncomputable def jF (S : Nat -> Bool) : Nat -> Nat -> Option AObj
 |0,b=>(st 0).heap.get b
 |k+1,b=>if S k=true/\chg st k b then(st (k+1)).heap.get b else jF S k b
def jr(k:Nat):Option Tmp:=(ops[k]?).bind (·.dst)
open Classical in
noncomputable def tv (S : Nat -> Bool) : Nat -> Nat -> Value
 |0,t=>cU (st 0).tmps t
 |k+1,t=>if S k=true/\jr ops k=some t then vl k else tv S k t
theorem kB{S:Nat->Bool}{b i:Nat}: ∀m,(∀k,k<m->chg st k b->(S k=true↔k<i))->jF st S m b=(st (min m i)).heap.get b
 |0,_=>by simp[jF]
 |m+1,h=>by
  have z:=kB m fun k E=>h k M
  unfold jF;by_cases A:m<i
  ·rw[show min (m+1) i=m+1 by omega];rw[show min m i=m by omega]at z;by_cases hc:chg st m b
   ·rw[if_pos ⟨(h m M hc).2 A,hc⟩]
   rw[if_neg (fun e=>hc e.2),z];unfold chg at hc;exact(Classical.not_not.1 hc).symm
  rw[show min (m+1) i=i by omega];rw[show min m i=i by omega]at z;rw[if_neg (fun e=>A ((h m M e.2).1 e.1)),z]
theorem lJ{S S':Nat->Bool}{b:Nat}: ∀m,(∀k,k<m->chg st k b->S k=S' k)->jF st S m b=jF st S' m b
 |0,_=>rfl
 |m+1,h=>by
  have z:=lJ m fun k A=>h k M
  unfold jF;by_cases hc:chg st m b
  ·rw[h m M hc,z]
  rw[if_neg (fun e=>hc e.2),if_neg (fun e=>hc e.2),z]
theorem tv_eq{S:Nat->Bool}{t i:Nat}(A: ∀k,cU (st (k+1)).tmps t=if jr ops k=some t then vl k else cU (st k).tmps t):
  ∀m,(∀k,k<m->jr ops k=some t->(S k=true↔k<i))->tv st vl ops S m t=cU (st (min m i)).tmps t
 |0,_=>by simp[tv]
 |m+1,h=>by
  have z:=tv_eq A m fun k N=>h k M
  unfold tv;by_cases E:m<i
  ·rw[show min (m+1) i=m+1 by omega];rw[show min m i=m by omega]at z;by_cases hc:jr ops m=some t
   ·rw[if_pos ⟨(h m M hc).2 E,hc⟩,A,if_pos hc]
   rw[if_neg (fun e=>hc e.2),z,A,if_neg hc]
  rw[show min (m+1) i=i by omega];rw[show min m i=i by omega]at z;rw[if_neg (fun e=>E ((h m M e.2).1 e.1)),z]
theorem tv_congr{S S':Nat->Bool}{t:Nat}: ∀m,(∀k,k<m->jr ops k=some t->S k=S' k)->tv st vl ops S m t=tv st vl ops S' m t
 |0,_=>rfl
 |m+1,h=>by
  have z:=tv_congr m fun k A=>h k M
  unfold tv;by_cases hc:jr ops m=some t
  ·rw[h m M hc,z]
  rw[if_neg (fun e=>hc e.2),if_neg (fun e=>hc e.2),z]
end
structure Inv(ops:Array Oper)(st:Nat->St)(vl:Nat->Value)(μ0:Emb)(w0:World)(d0:List Deferred)(S:Nat->Bool)(μ:Emb)(a:Act)(w:World):Prop where
 dc:DC ops S
 dom: ∀b l,μ b=some l->b<(st 0).heap.next\/(∃k,k<ops.size/\S k=true/\(st k).heap.next<=b/\b<(st (k+1)).heap.next)\/(st ops.size).heap.next<=b
 obj: ∀b l o,μ b=some l->jF st S ops.size b=some o->ObjRel μ w l o
 inj: ∀b1 b2 l1 l2 o1 o2,b1≠b2->μ b1=some l1->μ b2=some l2->jF st S ops.size b1=some o1->jF st S ops.size b2=some o2->o1.rw=true->o2.live=true->l1.c≠l2.c
 size:a.tmps.size=(st 0).size
 tm: ∀t,VRel μ (tv st vl ops S ops.size t) (a.tmps.getD t undef)
 defers:a.defers=d0
 ext0: ∀b l,μ0 b=some l->μ b=some l
 dom0: ∀b l,μ b=some l->μ0 b=some l\/((st 0).heap.next<=b/\b<(st ops.size).heap.next)
 grow0:w0.heap.size<=w.heap.size
 os0:w.os=w0.os
 tape0:w.tape=w0.tape
 out0:w.output=w0.output
 keep0: ∀c,c<w0.heap.size->(∀b l o,μ0 b=some l->(st 0).heap.get b=some o->o.rw=true->l.c≠c)->w.heap[c]?=w0.heap[c]?
 img0: ∀b l o,μ b=some l->jF st S ops.size b=some o->o.live=true->
  w0.heap.size<=l.c\/∃b0 l0 o0,μ0 b0=some l0/\(st 0).heap.get b0=some o0/\o0.live=true/\(o.rw=true->o0.rw=true)/\l0.c=l.c
def jj(S:Nat->Bool)(i:Nat):Nat->Bool:=fun k=>Nat.beq k i||S k
theorem gj(S:Nat->Bool)(i:Nat):jj S i i=true:=by simp[jj]
theorem gk(S:Nat->Bool){i k:Nat}(h:k≠i):jj S i k=S k:=by
 have:Nat.beq k i=false:=by
  cases z:Nat.beq k i with
  |false=>rfl
  |true=>exact absurd (a09 z) h
 simp[jj,this]
theorem Inv.next{ops:Array Oper}{st:Nat->St}{vl:Nat->Value}{μ0 μ μ':Emb}{w0 w w':World}{d0:List Deferred}{S:Nat->Bool}{a:Act}{i:Nat}{H Hn:Heap}{o:Oper}{v':Value}
  (I:Inv ops st vl μ0 w0 d0 S μ a w) (hi:i<ops.size) (ho:ops[i]?=some o) (E:Post μ H w μ' Hn w') (hv:VRel μ' (vl i) v') (a3: ∀k,(st k).heap.next<=(st (k+1)).heap.next)
  (c4:(st i).heap.next<=H.next) (c5:Hn.next<=(st (i+1)).heap.next)
  (c1: ∀b l x,μ b=some l->H.get b=some x->jF st S ops.size b=some x)
  (c2: ∀b l x,μ' b=some l->Hn.get b=some x->jF st (jj S i) ops.size b=some x)
  (c3: ∀b l x,μ' b=some l->Hn.get b=none->jF st (jj S i) ops.size b=some x->μ b=some l/\H.get b=none/\jF st S ops.size b=some x)
  (b8:DC ops (jj S i)) (b9: ∀d,o.dst=some d->d<(st 0).size)
  (ci: ∀t,o.dst=some t->tv st vl ops (jj S i) ops.size t=vl i) (b4: ∀t,o.dst≠some t->tv st vl ops (jj S i) ops.size t=tv st vl ops S ops.size t):
  Inv ops st vl μ0 w0 d0 (jj S i) μ' (a.put o.dst v') w':=by
 have bk: ∀k,(st 0).heap.next<=(st k).heap.next:=by
  intro k;induction k with
  |zero=>exact a0b _
  |succ k ih=>exact a0e ih (a3 k)
 have monoL: ∀j k,j<=k->(st j).heap.next<=(st k).heap.next:=by
  intro j k h;induction h with
  |refl=>exact a0b _
  |step _ ih=>exact a0e ih (a3 _)
 have ck:=monoL (i+1) ops.size hi
 have b7: ∀b l x,μ b=some l->H.get b=none->jF st S ops.size b=some x->x.live=true->w'.heap[l.c]?=w.heap[l.c]?:=by
  intro b l x z hh hc al;refine E.keep l.c ((I.obj b l x z hc).lt al) fun T l2 o2 U a9 an=>?_
  exact I.inj T b l2 l o2 x (fun e=>by subst e;rw[hh]at a9;cases a9) U z (c1 T l2 o2 U a9) hc an al
 refine⟨b8,fun b l z=>?_,fun b l x z hc=>?_,fun b1 T l1 l2 o1 o2 bz a1 U av N ao an=>?_,?_,fun t=>?_,?_,fun b l z=>E.ext b l (I.ext0 b l z),fun b l z=>?_,a0e I.grow0 E.grow,
  E.os.trans I.os0,E.tape.trans I.tape0,E.out.trans I.out0,fun c hc a8=>?_,fun b l x z hc al=>?_⟩
 ·rcases E.dom b l z with A|⟨A,h2⟩
  ·rcases I.dom b l A with h2|⟨k,hk,hs,Z,h4⟩|h2
   ·exact .inl h2
   ·refine .inr (.inl ⟨k,hk,?_,Z,h4⟩);unfold jj;rw[hs];simp
   exact .inr (.inr h2)
  exact .inr (.inl ⟨i,hi,gj S i,by omega,by omega⟩)
 ·cases hg:Hn.get b with
  |some y=>
   have:=c2 b l y z hg
   rw[this]at hc;injection hc with hc;subst hc
   exact E.wrel.obj b l y z hg
  |none=>
   obtain⟨A,h2,Z⟩:=c3 b l x z hg hc
   exact(I.obj b l x A Z).keep E.ext E.grow (fun al=>b7 b l x A h2 Z al)
 ·--no two blocks at one place
  cases a2:Hn.get b1 with
  |some y1=>
   have e1:=c2 b1 l1 y1 a1 a2
   rw[e1]at av;injection av with av;subst av
   cases ai:Hn.get T with
   |some y2=>
    have e2:=c2 T l2 y2 U ai
    rw[e2]at N;injection N with N;subst N
    exact E.wrel.inj b1 T l1 l2 y1 y2 bz a1 U a2 ai ao an
   |none=>
    obtain⟨A,h2,Z⟩:=c3 T l2 o2 U ai N
    have cc:=(I.obj T l2 o2 A Z).lt an
    rcases E.img b1 l1 y1 a1 a2 (gG ao) with hh|⟨b0,l0,o0,g1,g2,g3,g4,g5⟩
    ·omega
    rw[←g5]
    exact I.inj b0 T l0 l2 o0 o2 (fun e=>by subst e;rw[h2]at g2;cases g2) g1 A (c1 b0 l0 o0 g1 g2) Z (g4 ao) an
  |none=>
   obtain⟨A,h2,Z⟩:=c3 b1 l1 o1 a1 a2 av
   cases ai:Hn.get T with
   |some y2=>
    have e2:=c2 T l2 y2 U ai
    rw[e2]at N;injection N with N;subst N
    have cc:=(I.obj b1 l1 o1 A Z).lt (gG ao)
    rcases E.img T l2 y2 U ai an with hh|⟨b0,l0,o0,g1,g2,g3,g4,g5⟩
    ·omega
    rw[←g5]
    exact I.inj b1 b0 l1 l0 o1 o0 (fun e=>by subst e;rw[h2]at g2;cases g2) A g1 Z (c1 b0 l0 o0 g1 g2) ao g3
   |none=>
    obtain⟨k1,k2,k3⟩:=c3 T l2 o2 U ai N
    exact I.inj b1 T l1 l2 o1 o2 bz A k1 Z k3 ao an
 ·cases hd:o.dst with
  |none=>exact I.size
  |some d=>simp only[Act.put,Array.size_setIfInBounds];exact I.size
 ·have bb:=(I.tm t).mono E.ext;cases hd:o.dst with
  |none=>rw[b4 t (by rw[hd];simp)];exact bb
  |some d=>
   simp only[Act.put,getD_set]
   by_cases a7:d=t
   ·subst a7;rw[ci d hd,if_pos ⟨V,by rw[I.size];exact b9 d hd⟩];exact hv
   rw[b4 t (by rw[hd];simpa using a7),if_neg (fun e=>a7 e.1)];exact bb
 ·rw[eZ];exact I.defers
 ·rcases E.dom b l z with A|⟨A,h2⟩
  ·exact I.dom0 b l A
  exact .inr ⟨by have:=bk i;omega,by omega⟩
 ·rw[E.keep c (a0V hc I.grow0) ?_,I.keep0 c hc a8];intro b l x z hx hr he;rcases I.img0 b l x z (c1 b l x z hx) (gG hr) with hh|⟨b0,l0,o0,g1,g2,g3,g4,g5⟩
  ·omega
  exact a8 b0 l0 o0 g1 g2 (g4 hr) (g5.trans he)
 cases hg:Hn.get b with
 |some y=>
  have:=c2 b l y z hg
  rw[this]at hc;injection hc with hc;subst hc
  rcases E.img b l y z hg al with hh|⟨b0,l0,o0,g1,g2,g3,g4,g5⟩
  ·exact .inl (a0e I.grow0 hh)
  rcases I.img0 b0 l0 o0 g1 (c1 b0 l0 o0 g1 g2) g3 with hh|⟨b3,l3,o3,e1,e2,e3,e4,e5⟩
  ·exact .inl (g5▸hh)
  exact .inr ⟨b3,l3,o3,e1,e2,e3,fun hx=>e4 (g4 hx),e5.trans g5⟩
 |none=>
  obtain⟨A,h2,Z⟩:=c3 b l x z hg hc
  exact I.img0 b l x A Z al
end Go.R
namespace Go.R
section
variable {P:Program} {G:Nat}
def kM(ρ:Operand->Value)(o:Oper)(b:Nat):Prop:=
 (∃t a off,o.op= .load t a/\ρ a= .pointer (some ⟨b,off,none⟩))\/
 (∃t x lo hi z off n k,o.op= .slice t x lo hi z/\ρ x= .slice (some ⟨b,off,none⟩) n k)
def NilCut(ρ:Operand->Value)(o:Oper):Prop:=(∃t x lo hi z n k,o.op= .slice t x lo hi z/\ρ x= .slice none n k)\/
 (∃xs A x,o.op= .call ⟨.builtin .len,xs,A⟩/\dQ ρ xs.toList=[x]/\((∃a n k,x= .slice a n k)\/∃s,x= .string s))
structure OpFact(P:Program)(G:Nat)(cf:cC)(ops:Array Oper)(o:Oper)(s s':St)(v:Value)(f:Inf):Prop where
 size:s'.size=s.size
 tm: ∀t,cU s'.tmps t=if o.dst=some t then v else cU s.tmps t
 dlt: ∀d,o.dst=some d->d<s.size
 next:s.heap.next<=s'.heap.next
 far: ∀b,s'.heap.next<=b->s'.heap.get b=s.heap.get b
 how:(be ops o s.tmps=false/\v=undef/\f= .v/\s'.heap.next=s.heap.next/\∀b,s'.heap.get b=s.heap.get b)\/
  (be ops o s.tmps=true/\o.op.operands.toList.all (bg G)=true/\∃H1 H2,(∀b,H1.get b=s.heap.get b)/\H1.next=s.heap.next/\
   dM P cf (cR s.tmps) o H1=some (v,H2)/\(∀b,s'.heap.get b=H2.get b)/\s'.heap.next=H2.next/\
   ((f= .v/\(aU o.op=true\/NilCut (cR s.tmps) o))\/(f= .a s.heap.next/\dO o.op=true)\/
    (∃b,f= .l b/\kM (cR s.tmps) o b)\/
    (∃w,f= .x w/\(∀b,b∈w->b<s.heap.next)/\(∀b,b<s.heap.next->b∉w->s'.heap.get b=s.heap.get b)/\(gQ o.op=true->∃t a x b off,o.op= .store t a x/\cR s.tmps a= .pointer (some ⟨b,off,none⟩)/\b∈w))))
theorem kZ{ρ:Operand->Value}{o:Oper}{H H':Heap}{r:AN}{t:TypeId}{a x:Operand}(hk:o.op= .store t a x)(h:aop P ρ o H=some (r,H')):
  r= .skip/\∃b off A z,ρ a= .pointer (some ⟨b,off,none⟩)/\H.get b=some A/\H'=H.put b z/\∀K:Heap,K.get b=some A->aop P ρ o K=some (.skip,K.put b z):=by
 have e: ∀K,aop P ρ o K=eW P t (ρ a) (ρ x) K:=fun K=>by unfold aop;rw[hk]
 rw[e]at h
 unfold eW at h
 split at h
 case h_2=>cases h
 rename_i p T
 split at h
 case h_2=>cases h
 rename_i n hn
 cases E:Nat.beq (ρ x).cells.size n with
 |false=>rw[E]at h;cases h
 |true=>
  rw[E]at h
  obtain⟨b,off,sp⟩:=p
  simp only[cond_true]at h
  obtain⟨hs,rfl⟩:=mp h
  unfold Heap.storeL at hs
  cases sp with
  |some _=>cases hs
  |none=>
   simp only at hs
   split at hs
   case h_2=>cases hs
   rename_i cs al Z
   cases N:(Nat.ble (Nat.add off (eu (ρ x).cells.toList)) (eu cs)&&lQ Value.oneCell' (ρ x).cells.toList) with
   |false=>rw[N]at hs;cases hs
   |true=>
    rw[N]at hs
    simp only[cond_true,a00]at hs
    refine⟨V,b,off,_,_,T,Z,hs.symm,fun K U=>?_⟩
    rw[e,T]
    unfold eW
    simp only[hn,E,cond_true]
    unfold Heap.storeL
    simp only[U,N,cond_true]
    rfl
theorem fh{n b:Nat}: ∀{l:List Nat},b∈dx n l↔b∈l/\b<n
 | []=>by simp[dx]
 |c::l=>by
  unfold dx;cases E:Nat.ble n c with
  |true=>
   have:=a06 E
   simp only[cond_true,a0s]
   rw[fh (l:=l)]
   constructor
   ·rintro⟨z,A⟩;exact⟨.inr z,A⟩
   rintro⟨rfl|z,A⟩
   ·omega
   exact⟨z,A⟩
  |false=>
   have T: ¬n<=c:=fun N=>by rw[a0w N]at E;cases E
   simp only[cond_false,a0s]
   rw[fh (l:=l)]
   constructor
   ·rintro(rfl|⟨z,A⟩)
    ·exact⟨.inl V,by omega⟩
    exact⟨.inr z,A⟩
   rintro⟨rfl|z,A⟩
   ·exact .inl V
   exact .inr ⟨z,A⟩
theorem loadV_spot{P:Program}{H:Heap}{t:TypeId}{p:Addr}{v:Value}(h:H.loadV P t p=some v):p.spot=none:=by
 obtain⟨b,o,z⟩:=p;cases z with
 |none=>rfl
 |some _=>
  unfold Heap.loadV at h
  split at h
  ·split at h
   ·simp[Heap.loadN]at h
   cases h
  ·simp[Heap.cellAt]at h
  cases h
theorem loadV_congr{H H':Heap}{t:TypeId}{b off:Nat}(h:H.get b=H'.get b):H.loadV P t ⟨b,off,none⟩=H'.loadV P t ⟨b,off,none⟩:=by unfold Heap.loadV Heap.loadN Heap.cellAt;simp only[h]
theorem loadV_some{H:Heap}{t:TypeId}{b off:Nat}{v:Value}(h:H.loadV P t ⟨b,off,none⟩=some v): ∃x,H.get b=some x:=by
 cases z:H.get b with
 |some x=>exact⟨x,V⟩
 |none=>
  unfold Heap.loadV Heap.loadN Heap.cellAt at h
  simp only[z]at h
  split at h
  ·split at h<;>cases h
  ·cases h
  cases h
theorem aSlice_spot{P:Program}{H:Heap}{t:TypeId}{p:Addr}{n k:Nat}{lo hi z:Option Value}{v:Value}(h:bA P t (.slice (some p) n k) lo hi z H=some v):p.spot=none:=by
 obtain⟨b,o,A⟩:=p;cases A with
 |none=>rfl
 |some _=>
  unfold bA at h
  split at h
  ·cases h
  split at h<;>simp_all
theorem aSlice_get{P:Program}{H:Heap}{t:TypeId}{b off n k:Nat}{lo hi E:Option Value}{v:Value}(h:bA P t (.slice (some ⟨b,off,none⟩) n k) lo hi E H=some v):
  ∃z,H.get b=some z/\∀A:Heap,A.get b=some z->bA P t (.slice (some ⟨b,off,none⟩) n k) lo hi E A=some v:=by
 cases T:H.get b with
 |some z=>
  refine⟨z,V,fun A N=>?_⟩
  rw[←h]
  unfold bA
  cases E with
  |some _=>rfl
  |none=>
   cases P.underlying t with
   |none=>rfl
   |some d=>cases d<;>first|rfl|simp only[N,T]
 |none=>
  exfalso
  unfold bA at h
  split at h
  ·cases h
  split at h<;>simp_all
theorem er{P:Program}{ρ:Operand->Value}{o:Oper}{b:Nat}{H H':Heap}{r:AN}(hr:kM ρ o b)(h:aop P ρ o H=some (r,H')):
  ∃v A,r= .val v/\H'=H/\H.get b=some A/\∀N:Heap,N.get b=some A->aop P ρ o N=some (.val v,N):=by
 rcases hr with⟨t,a,off,T,ha⟩|⟨t,x,lo,hi,mx,off,n,k,T,hx⟩
 ·have z: ∀H,aop P ρ o H=ek P t (ρ a) H:=fun H=>by unfold aop;rw[T]
  rw[z,ha]at h;unfold ek at h;simp only at h;obtain⟨rfl,v,U,rfl⟩:=cx h;obtain⟨A,E⟩:=loadV_some U;refine⟨v,A,V,V,E,fun N Z=>?_⟩;rw[z,ha];unfold ek;simp only;rw[loadV_congr (H':=H') (by rw[Z,E]),U];rfl
 have z: ∀H,aop P ρ o H=ovl (bA P t (ρ x) (lo.map ρ) (hi.map ρ) (mx.map ρ) H) H:=fun H=>by unfold aop;rw[T]
 rw[z,hx]at h
 obtain⟨rfl,v,U,rfl⟩:=cx h
 obtain⟨A,E,ad⟩:=aSlice_get U
 refine⟨v,A,V,V,E,fun N Z=>?_⟩
 rw[z,hx,ad N Z]
 rfl
theorem reads_sound{P:Program}{μ:Emb}{ρ ρ':Operand->Value}{o:Oper}{b:Nat}{H:Heap}{w:World}{v:Value}(hr:kM ρ o b)(Z: ∀x∈o.op.operands,VRel μ (ρ x) (ρ' x))(hw:WRel μ H w)
  (h:aop P ρ o H=some (.val v,H)): ∃v',(execOp ρ' o).run P w= .ok (.value v') w/\VRel μ v v':=by
 rcases hr with⟨t,a,off,z,ha⟩|⟨t,x,lo,hi,mx,off,n,k,z,hx⟩
 ·have E: ∀H,aop P ρ o H=ek P t (ρ a) H:=fun H=>by unfold aop;rw[z]
  rw[E,ha]at h;unfold ek at h;simp only at h;obtain⟨_,v1,hv,A⟩:=cx h;injection A with A;subst A;have ag:VRel μ (ρ a) (ρ' a):=Z a (by rw[z];simp[Op.operands]);rw[ha]at ag;obtain⟨l,hμ,an⟩:=ag.ptr_inv;obtain⟨v',N,T⟩:=gO (P:=P) hw hμ hv;refine⟨v',?_,T⟩;obtain⟨ai,op,type,pos,after,ad⟩:=o;simp only at z;subst z;simp only[execOp,an,Instr.loadAt,Instr.sureAddr,Sem.run_bind,Sem.run_pure,Result.andThen_ok,N]
 have E: ∀H,aop P ρ o H=ovl (bA P t (ρ x) (lo.map ρ) (hi.map ρ) (mx.map ρ) H) H:=fun H=>by unfold aop;rw[z]
 rw[E]at h
 obtain⟨ai,op,type,pos,after,ad⟩:=o
 simp only at z
 subst z
 obtain⟨a1,a2⟩:=fw (μ:=μ) (ρ:=ρ) (ρ':=ρ') (x:=lo) fun y U=>Z y (by subst U;simp[Op.operands])
 obtain⟨b1,b2⟩:=fw (μ:=μ) (ρ:=ρ) (ρ':=ρ') (x:=hi) fun y U=>Z y (by subst U;simp[Op.operands])
 obtain⟨_,c2⟩:=fw (μ:=μ) (ρ:=ρ) (ρ':=ρ') (x:=mx) fun y U=>Z y (by subst U;simp[Op.operands])
 obtain⟨v1,v',A,_,N,T⟩:=jS (P:=P) hw (Z x (by simp[Op.operands])) a1 a2 b1 b2 c2 h
 injection A with A;subst A
 refine⟨v',?_,T⟩
 simp only[execOp,Sem.run_bind,N,Result.andThen_ok,Sem.run_pure]
theorem reads_loc{μ:Emb}{ρ ρ':Operand->Value}{o:Oper}{b:Nat}(U:kM ρ o b)(N: ∀x∈o.op.operands,VRel μ (ρ x) (ρ' x)): ∃l,μ b=some l:=by
 rcases U with⟨t,a,off,A,T⟩|⟨t,x,lo,hi,mx,off,n,k,A,Z⟩
 ·have z:VRel μ (ρ a) (ρ' a):=N a (by rw[A];simp[Op.operands]);rw[T]at z;obtain⟨l,E,_⟩:=z.ptr_inv;exact⟨l,E⟩
 have z:VRel μ (ρ x) (ρ' x):=N x (by rw[A];simp[Op.operands]);rw[Z]at z;obtain⟨l,E,_⟩:=z.slice_inv;exact⟨l,E⟩
theorem stepD_fact{cf:cC}(a3:eh P G cf){ops:Array Oper}{o:Oper}{s s':St}{f:Inf}(hw:WF s.heap)(h:gA P G cf ops o s=some (s',f)):
  ∃v,OpFact P G cf ops o s s' v f:=by
 unfold gA at h
 split at h
 case h_2=>cases h
 rename_i t z
 simp only[a00,a01]at h
 obtain⟨rfl,rfl⟩:=h
 have ay:WF {s.heap with log:=[]}:=hw
 have ext:=jy a3 (s:={s with heap:={s.heap with log:=[]}}) ay z
 rw[step_eq]at z
 cases hq:be ops o s.tmps with
 |false=>
  rw[hq]at z
  simp only[cond_false]at z
  obtain⟨h1,Z,h3⟩:=gK z
  refine⟨undef,h1,?_,?_,by rw[Z];exact a0b _,fun b _=>by rw[Z];rfl,.inl ⟨hq,V,by unfold dR;rw[hq];rfl,by rw[Z],fun b=>by rw[Z];rfl⟩⟩
  ·intro k;rcases h3 with⟨T,h5⟩|⟨d,T,N,h5⟩
   ·simp[T,h5]
   rw[T];simp only[h5,gc,a00]
  intro d N
  rcases h3 with⟨T,_⟩|⟨d',T,av,_⟩
  ·rw[T]at N;cases N
  rw[T]at N;injection N with N;subst N;exact av
 |true=>
  rw[hq]at z
  cases ax:o.op.operands.toList.all (bg G) with
  |false=>rw[ax]at z;cases z
  |true=>
   rw[ax]at z
   simp only[cond_true]at z
   split at z
   case h_2=>cases z
   rename_i v H2 E
   obtain⟨h1,Z,h3⟩:=gK z
   simp only at Z
   have an:Ext {s.heap with log:=[]} H2:=lG a3 ay E
   refine⟨v,h1,?_,?_,by simp only[Z];exact an.next,fun b hb=>by simp only[Z]at hb⊢;exact an.far b hb,.inr ⟨hq,ax,{s.heap with log:=[]},H2,fun _=>rfl,rfl,E,fun b=>by simp only[Z];rfl,by simp only[Z],?_⟩⟩
   ·intro k;rcases h3 with⟨T,h5⟩|⟨d,T,N,h5⟩
    ·simp[T,h5]
    rw[T];simp only[h5,gc,a00]
   ·intro d N;rcases h3 with⟨T,_⟩|⟨d',T,av,_⟩
    ·rw[T]at N;cases N
    rw[T]at N;injection N with N;subst N;exact av
   ·--which kind
    have hx:(∃w,Inf.x (dx s.heap.next t.heap.log)= .x w/\(∀b,b∈w->b<s.heap.next)/\(∀b,b<s.heap.next->b∉w->t.heap.get b=s.heap.get b)/\(gQ o.op=true->∃t a x b off,o.op= .store t a x/\cR s.tmps a= .pointer (some ⟨b,off,none⟩)/\b∈w)):=by
     refine⟨_,V,fun b hb=>(fh.1 hb).2,fun b hb hn=>?_,fun z=>?_⟩
     ·obtain⟨d,N,a0⟩:=an.log;rw[Z];refine a0 b hb fun hm=>hn (fh.2 ⟨?_,hb⟩)
      rw[Z,N,a0r];exact hm
     cases A:o.op<;>rw[A]at z<;>try (cases z)
     rename_i ty a x;unfold dM at E;cases U:aop P (cR s.tmps) o {s.heap with log:=[]} with
     |none=>rw[U]at E;cases E
     |some q=>
      obtain⟨r,H3⟩:=q
      obtain⟨rfl,b,off,b3,b0,hp,hg,rfl,_⟩:=kZ A U
      rw[U]at E
      simp only[a00,a01]at E
      refine⟨ty,a,x,b,off,V,hp,fh.2 ⟨?_,ay.lt hg⟩⟩
      rw[Z,←E.2];exact a0G
    unfold dR;rw[hq];cases hv:aU o.op with
    |true=>exact .inl ⟨V,.inl V⟩
    |false=>
     simp only[a1x,a1y,cond_false]
     cases b2:dO o.op with
     |true=>exact .inr (.inl ⟨V,V⟩)
     |false=>
      simp only[cond_false]
      split
      ·rename_i ty a A;split
       ·rename_i p hp;have ag:p.spot=none:=by
         unfold dM at E;have U:aop P (cR s.tmps) o {s.heap with log:=[]}=ek P ty (cR s.tmps a) {s.heap with log:=[]}:=by unfold aop;rw[A]
         rw[U,hp]at E;unfold ek at E;simp only at E;cases hl:Heap.loadV P {s.heap with log:=[]} ty p with
         |none=>rw[hl]at E;simp[ovl]at E
         |some u=>exact loadV_spot hl
        obtain⟨b,off,sp⟩:=p;simp only at ag;subst ag;exact .inr (.inr (.inl ⟨b,V,.inl ⟨ty,a,off,A,hp⟩⟩))
       exact .inr (.inr (.inr hx))
      ·rename_i ty x lo hi mx A;split
       ·rename_i p n k hp;have ag:p.spot=none:=by
         unfold dM at E;have U:aop P (cR s.tmps) o {s.heap with log:=[]}=ovl (bA P ty (cR s.tmps x) (lo.map (cR s.tmps)) (hi.map (cR s.tmps)) (mx.map (cR s.tmps)) {s.heap with log:=[]}) {s.heap with log:=[]}:=by unfold aop;rw[A]
         rw[U,hp]at E;cases hl:bA P ty (.slice (some p) n k) (lo.map (cR s.tmps)) (hi.map (cR s.tmps)) (mx.map (cR s.tmps)) {s.heap with log:=[]} with
         |none=>rw[hl]at E;simp[ovl]at E
         |some u=>exact aSlice_spot hl
        obtain⟨b,off,sp⟩:=p;simp only at ag;subst ag;exact .inr (.inr (.inl ⟨b,V,.inr ⟨ty,x,lo,hi,mx,off,n,k,A,hp⟩⟩))
       ·rename_i n k hp;exact .inl ⟨V,.inr (.inl ⟨ty,x,lo,hi,mx,n,k,A,hp⟩)⟩
       exact .inr (.inr (.inr hx))
      ·rename_i xs ts A;split
       ·rename_i a n k hp;exact .inl ⟨V,.inr (.inr ⟨xs,ts,_,A,hp,.inl ⟨a,n,k,V⟩⟩)⟩
       ·rename_i a7 hp;exact .inl ⟨V,.inr (.inr ⟨xs,ts,_,A,hp,.inr ⟨a7,V⟩⟩)⟩
       exact .inr (.inr (.inr hx))
      exact .inr (.inr (.inr hx))
theorem j1{ρ:Operand->Value}{o:Oper}{H H':Heap}{r:AN}(h:bD P ρ o H=some (r,H')):H'=H/\∃v,r= .val v:=by
 unfold bD at h;cases A:o.op.operands.toList.all fun x=>gZ (ρ x) with
 |false=>rw[A]at h;cases h
 |true=>
  rw[A]at h
  simp only[cond_true]at h
  split at h
  ·rename_i v E;cases z:noA2 v with
   |false=>rw[z]at h;cases h
   |true=>
    rw[z]at h;simp only[cond_true,a00,a01]at h
    exact⟨h.2.symm,v,h.1.symm⟩
  cases h
theorem lift_val{s:Sem Value}{H H':Heap}{r:AN}(h:lift P s H=some (r,H')):H'=H/\∃v,r= .val v:=by obtain⟨z,v,A,_⟩:=ka h;exact⟨z,v,A⟩
theorem fv{x:Option Value}{H H':Heap}{r:AN}(h:ovl x H=some (r,H')):H'=H/\∃v,r= .val v:=by obtain⟨z,v,_,A⟩:=cx h;exact⟨z,v,A⟩
theorem ft{v:Value}{H H':Heap}{r:AN}(h:some (AN.val v,H)=some (r,H')):H'=H/\∃v,r= .val v:=by simp only[a00,a01]at h;exact⟨h.2.symm,v,h.1.symm⟩
theorem aop_value{ρ:Operand->Value}{o:Oper}{H H':Heap}{r:AN}(U:aU o.op=true)(h:aop P ρ o H=some (r,H')):H'=H/\∃v,r= .val v:=by
 obtain⟨E,op,type,pos,after,A⟩:=o;cases op<;>simp only[aU,a0O]at U
 case move x=>exact ft (v:=ρ x) h
 case assign x=>exact ft (v:=ρ x) h
 case pick c a b=>
  have z:ga ρ c a b H=some (r,H'):=h
  unfold ga at z
  split at z
  ·exact ft z
  cases z
 case build t parts=>
  have z:gM P t (parts.map fun p=>(p.1,ρ p.2)) H=some (r,H'):=h
  unfold gM at z
  split at z
  ·exact lift_val z
  cases z
 case nilCheck x=>
  have z:opNil (ρ x) H=some (r,H'):=h
  unfold opNil at z
  split at z
  ·exact ft z
  ·exact ft z
  cases z
 case binOp op t x y yt=>
  have z:aBin P ρ ⟨E,.binOp op t x y yt,type,pos,after,A⟩ op t (ρ x) y H=some (r,H'):=h
  unfold aBin at z
  split at z
  ·unfold binInt at z;split at z
   ·exact fv z
   cases z
  ·unfold binStr at z;split at z
   ·exact fv z
   cases z
  unfold mK at z;split at z
  ·exact j1 z
  ·exact j1 z
  obtain⟨T,b,_,hc⟩:=iM z
  rcases hc with⟨_,N⟩|⟨_,N⟩
  ·exact⟨T,_,N⟩
  exact⟨T,_,N⟩
 case unOp op t x=>
  have z:aUn P ρ ⟨E,.unOp op t x,type,pos,after,A⟩ op (ρ x) H=some (r,H'):=h
  unfold aUn at z
  split at z
  ·split at z
   ·exact ft z
   cases z
  exact j1 z
 case makeFunc fn first captured=>exact ft (v:= .func fn (first.map ρ) (captured.map ρ)) h
 case fieldAddr s x f=>
  have z:ovl (iB P s (ρ x) f) H=some (r,H'):=h
  exact fv z
 case field t x f=>
  have z:ovl (gY P t (ρ x) f) H=some (r,H'):=h
  exact fv z
 case indexAddr t x i=>
  have z:ovl (du P t (ρ x) (ρ i)) H=some (r,H'):=h
  exact fv z
 case index t x i=>
  have z:kL P t (ρ x) (ρ i) H=some (r,H'):=h
  unfold kL at z
  split at z
  ·exact fv z
  exact lift_val z
 case extract x i=>
  have z:ovl (gy (ρ x) i) H=some (r,H'):=h
  exact fv z
theorem kX{ρ:Operand->Value}{o:Oper}{H H':Heap}{r:AN}(z:aU o.op=true)(h:aop P ρ o H=some (r,H')):H'=H:=by have:=aop_value z h;exact this.1
theorem jM{ρ:Operand->Value}{o:Oper}{H H':Heap}{r:AN}(z:aU o.op=true)(h:aop P ρ o H=some (r,H')): ∃v,r= .val v:=(aop_value z h).2
theorem ff{ρ:Operand->Value}{o:Oper}{H H':Heap}{r:AN}(hk:dO o.op=true)(h:aop P ρ o H=some (r,H')):
  ∃v T,r= .val v/\H'=H.push T/\∀E:Heap,E.next=H.next->aop P ρ o E=some (.val v,E.push T):=by
 obtain⟨ai,op,type,pos,after,ag⟩:=o
 cases op<;>simp only[dO,a0O]at hk
 case alloc e=>
  have A:eC P e H=some (r,H'):=h
  unfold eC at A
  split at A
  ·rename_i z Z;simp only[a00,a01]at A;obtain⟨rfl,rfl⟩:=A;refine⟨_,_,V,V,fun E N=>?_⟩;show eC P e E=_;unfold eC;rw[Z,N];rfl
  cases A
 case box e x=>
  have A:some (AN.val (ptrTo H.next),aQ H (ρ x).cells.toList none)=some (r,H'):=h
  simp only[a00,a01]at A
  obtain⟨rfl,rfl⟩:=A
  refine⟨_,_,V,V,fun E N=>?_⟩
  show some (AN.val (ptrTo E.next),aQ E (ρ x).cells.toList none)=_
  rw[N];rfl
 case buildSlice t n parts=>
  have A:bN P t n (dQ (fun p=>(p.1,ρ p.2)) parts.toList) H=some (r,H'):=h
  unfold bN at A
  split at A
  ·rename_i sz z Z;cases U:Nat.ble (n *sz) 16777216 with
   |false=>rw[U]at A;cases A
   |true=>
    rw[U]at A
    simp only[cond_true]at A
    split at A
    ·rename_i cells hc;simp only[a00,a01]at A;obtain⟨rfl,rfl⟩:=A;refine⟨_,_,V,V,fun E N=>?_⟩;show bN P t n (dQ (fun p=>(p.1,ρ p.2)) parts.toList) E=_;unfold bN;rw[Z];simp only[U,cond_true,hc,N];rfl
    cases A
  cases A
 case makeMap t rsv=>
  cases rsv with
  |some _=>simp at hk
  |none=>
   have A:some (AN.val (.map (some H.next)),H.push (.tab []))=some (r,H'):=h
   simp only[a00,a01]at A
   obtain⟨rfl,rfl⟩:=A
   refine⟨_,_,V,V,fun E N=>?_⟩
   show some (AN.val (.map (some E.next)),E.push (.tab []))=_
   rw[N]
def bare(n:Nat):Heap:={tr:= .nil,next:=n,log:=[]}
theorem de(n b:Nat):(bare n).get b=none:=rfl
theorem jH(μ:Emb)(n:Nat)(w:World):WRel μ (bare n) w:=
 ⟨(fun b l o _ h=>by rw[de]at h;cases h),(fun z A E N T U _ _ _ h=>by rw[de]at h;cases h)⟩
theorem aSlice_nil{t:TypeId}{n k:Nat}{lo hi z:Option Value}(H A:Heap):bA P t (.slice none n k) lo hi z H=bA P t (.slice none n k) lo hi z A:=by
 unfold bA;cases z with
 |some _=>rfl
 |none=>
  cases P.underlying t with
  |none=>rfl
  |some d=>cases d<;>first|rfl|(cases n<;>cases k<;>rfl)
theorem eF{ρ:Operand->Value}{o:Oper}{H H':Heap}{r:AN}(E:NilCut ρ o)(h:aop P ρ o H=some (r,H')):H'=H/\∃v,r= .val v:=by
 rcases E with⟨t,x,lo,hi,T,n,k,A,N⟩|⟨xs,U,x,A,N,_⟩
 ·have z: ∀H,aop P ρ o H=ovl (bA P t (ρ x) (lo.map ρ) (hi.map ρ) (T.map ρ) H) H:=fun H=>by unfold aop;rw[A]
  rw[z]at h;exact fv h
 have z:aop P ρ o H=bLen P U (dQ ρ xs.toList) H:=by unfold aop;rw[A];rfl
 rw[z]at h;unfold bLen at h;split at h
 ·exact fv h
 cases h
theorem aLen_any{t:TypeId}{x:Value}(A:(∃a n k,x= .slice a n k)\/∃s,x= .string s)(H z:Heap):aLen P t x H=aLen P t x z:=by
 rcases A with⟨a,n,k,rfl⟩|⟨s,rfl⟩<;>(unfold aLen;cases P.underlying t with
  |none=>rfl
  |some d=>cases d<;>rfl)
theorem nilcut_sound{μ:Emb}{ρ ρ':Operand->Value}{o:Oper}{H:Heap}{v:Value}(hr:NilCut ρ o)(hρ: ∀x∈o.op.operands,VRel μ (ρ x) (ρ' x))(h:aop P ρ o H=some (.val v,H))(w:World):
  ∃v',(execOp ρ' o).run P w= .ok (.value v') w/\VRel μ v v':=by
 rcases hr with hr|⟨xs,ts,x,z,hxs,T⟩
 rotate_left
 ·have E:aop P ρ o H=bLen P ts (dQ ρ xs.toList) H:=by unfold aop;rw[z];rfl
  rw[E,hxs]at h;obtain⟨ar,op,type,pos,after,ag⟩:=o;simp only at z;subst z;unfold bLen at h;split at h
  ·rename_i t x1 ht al;simp only[List.cons.injEq,and_true]at al;subst al;obtain⟨_,v1,U,A⟩:=cx h;injection A with A;subst A;rw[aLen_any T H (bare 0)]at U;have ai:LRel μ (dQ ρ xs.toList) (xs.map ρ').toList:=by
    rw[iN];have:=jI (μ:=μ) (ops:=xs) (ρ:=ρ) (ρ':=ρ') fun x T=>hρ x (by simp[Op.operands,Call.operands];exact T)
    simpa using this
   obtain⟨x',ax,ay⟩:=one_of ai hxs;obtain⟨N,hn⟩:=len_sound (P:=P) (ty:=type) (jH μ 0 w) ay U;have av:ts= #[t]:=a19.1 (by rw[ht]);refine⟨v,?_,.atom v hn⟩;simp only[execOp,resolve,Sem.run_bind,Sem.run_pure,Result.andThen_ok,invoke,builtin,ax,av,N]
  cases h
 obtain⟨t,x,lo,hi,mx,n,k,z,T⟩:=hr
 have E: ∀H,aop P ρ o H=ovl (bA P t (ρ x) (lo.map ρ) (hi.map ρ) (mx.map ρ) H) H:=fun H=>by unfold aop;rw[z]
 rw[E,T]at h
 obtain⟨_,v1,U,A⟩:=cx h
 rw[aSlice_nil H (bare 0)]at U
 have h2:ovl (bA P t (ρ x) (lo.map ρ) (hi.map ρ) (mx.map ρ) (bare 0)) (bare 0)=some (.val v,bare 0):=by rw[T,U,A];rfl
 obtain⟨ar,op,type,pos,after,ag⟩:=o
 simp only at z
 subst z
 obtain⟨a1,a2⟩:=fw (μ:=μ) (ρ:=ρ) (ρ':=ρ') (x:=lo) fun y Z=>hρ y (by subst Z;simp[Op.operands])
 obtain⟨b1,b2⟩:=fw (μ:=μ) (ρ:=ρ) (ρ':=ρ') (x:=hi) fun y Z=>hρ y (by subst Z;simp[Op.operands])
 obtain⟨_,c2⟩:=fw (μ:=μ) (ρ:=ρ) (ρ':=ρ') (x:=mx) fun y Z=>hρ y (by subst Z;simp[Op.operands])
 obtain⟨v1,v',A,_,N,aw⟩:=jS (P:=P) (jH μ 0 w) (hρ x (by simp[Op.operands])) a1 a2 b1 b2 c2 h2
 injection A with A;subst A
 refine⟨v',?_,aw⟩
 simp only[execOp,Sem.run_bind,N,Result.andThen_ok,Sem.run_pure]
theorem either_heap{ρ:Operand->Value}{o:Oper}{H H':Heap}{r:AN}(z:aU o.op=true\/NilCut ρ o)(h:aop P ρ o H=some (r,H')):H'=H:=by
 rcases z with z|z
 ·exact kX z h
 exact(eF z h).1
theorem lH{ρ:Operand->Value}{o:Oper}{H H':Heap}{r:AN}(z:aU o.op=true\/NilCut ρ o)(h:aop P ρ o H=some (r,H')): ∃v,r= .val v:=by
 rcases z with z|z
 ·exact jM z h
 exact(eF z h).2
structure Trace(P:Program)(G:Nat)(cf:cC)(ops:Array Oper)(st:Nat->St)(vl:Nat->Value)(nf:Nat->Inf):Prop where
 fact: ∀k o,ops[k]?=some o->OpFact P G cf ops o (st k) (st (k+1)) (vl k) (nf k)
 past: ∀k,ops.size<=k->st (k+1)=st k
 comp: ∀j k,j<k->k<ops.size->bf (cr ops) j k=true\/dq (nf j) (nf k)=true\/stst ops j k (nf j) (nf k)=true
 reg:RegFacts ops
 wf: ∀k,WF (st k).heap
section
variable {cf:cC} {ops:Array Oper} {st:Nat->St} {vl:Nat->Value} {nf:Nat->Inf}
theorem Trace.mono(T:Trace P G cf ops st vl nf)(k:Nat):(st k).heap.next<=(st (k+1)).heap.next:=by
 rcases a0j k ops.size with h|h
 ·exact(T.fact k ops[k] (a0M h)).next
 rw[T.past k h];exact a0b _
theorem Trace.monoL(T:Trace P G cf ops st vl nf){j k:Nat}(h:j<=k):(st j).heap.next<=(st k).heap.next:=by
 induction h with
 |refl=>exact a0b _
 |step _ ih=>exact a0e ih (T.mono _)
theorem Trace.sizeL(T:Trace P G cf ops st vl nf)(k:Nat):(st k).size=(st 0).size:=by
 induction k with
 |zero=>rfl
 |succ k ih=>
  rcases a0j k ops.size with h|h
  ·rw[(T.fact k ops[k] (a0M h)).size,ih]
  rw[T.past k h,ih]
theorem Trace.tm(T:Trace P G cf ops st vl nf)(k t:Nat):cU (st (k+1)).tmps t=if jr ops k=some t then vl k else cU (st k).tmps t:=by
 unfold jr;rcases a0j k ops.size with h|h
 ·have z:=a0M h;rw[(T.fact k ops[k] z).tm t,z];rfl
 rw[T.past k h,Array.getElem?_eq_none h];simp
theorem Trace.chg(T:Trace P G cf ops st vl nf){k b:Nat}(h:chg st k b):
  k<ops.size/\((st k).heap.next<=b/\b<(st (k+1)).heap.next\/∃w,nf k= .x w/\b∈w/\b<(st k).heap.next):=by
 have hk:k<ops.size:=by
  rcases a0j k ops.size with hk|hk
  ·exact hk
  exfalso;unfold R.chg at h;rw[T.past k hk]at h;exact h V
 refine⟨hk,?_⟩
 have F:=T.fact k ops[k] (a0M hk)
 have av:b<(st (k+1)).heap.next:=by
  rcases a0j b (st (k+1)).heap.next with E|E
  ·exact E
  exact absurd (F.far b E) h
 rcases a0j b (st k).heap.next with hb|hb
 ·right;rcases F.how with⟨_,_,_,_,hs⟩|⟨_,_,H1,H2,ag,ax,A,U,ay,an⟩
  ·exact absurd (hs b) h
  rcases an with⟨hf,Z⟩|⟨hf,Z⟩|⟨b',hf,ai⟩|⟨w,hf,a0,ar,_⟩
  ·--a value operation changes nothing
   exfalso;unfold dM at A;split at A
   ·rename_i u E z;simp only[a00,a01]at A;have:=(either_heap Z z)
    rw[←A.2,this]at U;exact h (by rw[U b,ag b])
   ·rename_i E z;have:=(lH Z z)
    obtain⟨_,N⟩:=this;cases N
   ·rename_i f args E z;obtain⟨_,N⟩:=lH Z z;cases N
   cases A
  ·exfalso;unfold dM at A;split at A
   ·rename_i u E z;simp only[a00,a01]at A;obtain⟨_,a1,_,ao,_⟩:=ff Z z;rw[←A.2,ao]at U;exact h (by rw[U b,Heap.get_push_ne _ _ M,ag b])
   ·rename_i E z;obtain⟨_,_,N,_⟩:=ff Z z;cases N
   ·rename_i f args E z;obtain⟨_,_,N,_⟩:=ff Z z;cases N
   cases A
  ·exfalso;unfold dM at A;split at A
   ·rename_i u E z;simp only[a00,a01]at A;obtain⟨_,_,_,hH,_,_⟩:=er ai z;rw[←A.2,hH]at U;exact h (by rw[U b,ag b])
   ·rename_i E z;obtain⟨_,_,N,_⟩:=er ai z;cases N
   ·rename_i f args E z;obtain⟨_,_,N,_⟩:=er ai z;cases N
   cases A
  rcases Classical.em (b∈w) with hm|hm
  ·exact⟨w,hf,hm,hb⟩
  exact absurd (ar b hb hm) h
 exact .inl ⟨hb,av⟩
end
end
end Go.R
set_option linter.unusedVariables false
namespace Go.R
section
variable {P:Program} {G:Nat} {cf:cC} {ops:Array Oper} {st:Nat->St} {vl:Nat->Value} {nf:Nat->Inf}
variable {μ0 μ:Emb} {w0 w:World} {d0:List Deferred} {S:Nat->Bool} {a:Act} {i:Nat} {o:Oper}
structure Ready(ops:Array Oper)(S:Nat->Bool)(i:Nat)(o:Oper):Prop where
 at_:ops[i]?=some o
 new:S i=false
 edges: ∀e∈o.after.toList,Region.binds .any e=true->S e.on=true
theorem Ready.lt(R:Ready ops S i o):i<ops.size:=(a0C.1 R.at_).1
theorem Ready.dc(R:Ready ops S i o)(h:DC ops S):DC ops (jj S i):=by
 intro k x z hs e N E;by_cases A:k=i
 ·subst A;rw[R.at_]at z;injection z with z;subst z;have:=R.edges e N E;unfold jj;rw[this];simp
 rw[gk S A]at hs;have:=h k x z hs e N E;unfold jj;rw[this];simp
theorem Ready.ahead(R:Ready ops S i o)(h:DC ops S){k:Nat}(z:k≠i)(A:bf (cr ops) k i=true):S k=true:=by have:=(R.dc h).anc i (gj S i) A;rwa [gk S z]at this
theorem Ready.behind(R:Ready ops S i o)(h:DC ops S){k:Nat}(z:bf (cr ops) i k=true):S k=false:=by
 cases hs:S k with
 |false=>rfl
 |true=>have:=h.anc k hs z;rw[R.new]at this;cases this
theorem Ready.iff_(R:Ready ops S i o)(h:DC ops S){k:Nat}(z:k<i->bf (cr ops) k i=true)(A:i<k->bf (cr ops) i k=true):S k=true↔k<i:=by
 rcases Nat.lt_trichotomy k i with hlt|rfl|hgt
 ·exact⟨fun _=>hlt,fun _=>R.ahead h M (z hlt)⟩
 ·rw[R.new];simp
 rw[R.behind h (A hgt)];simp;omega
theorem Ready.iffAdd(R:Ready ops S i o)(h:DC ops S){k:Nat}(A:k<i->bf (cr ops) k i=true)(E:i<k->bf (cr ops) i k=true):jj S i k=true↔k<i+1:=by
 by_cases z:k=i
 ·subst z;rw[gj];simp
 rw[gk S z,R.iff_ h A E];omega
theorem share(T:Trace P G cf ops st vl nf)(Z:ops[i]?=some o){t:Tmp}(z:t∈o.looksAt ops\/o.dst=some t){k:Nat}(A:jr ops k=some t):
  (k<i->bf (cr ops) k i=true)/\(i<k->bf (cr ops) i k=true):=by
 unfold jr at A
 cases N:ops[k]? with
 |none=>rw[N]at A;simp at A
 |some x=>
  rw[N]at A
  simp only[a0l]at A
  constructor
  ·intro E;rcases T.reg.pair k i x o E N Z with h|h
   ·exact h
   exfalso;obtain⟨p1,U,p3⟩:=Oper.apart_spec h;rcases z with z|z
   ·exact p1 t A z
   exact U t A z
  intro E
  rcases T.reg.pair i k o x E Z N with h|h
  ·exact h
  exfalso
  obtain⟨p1,U,p3⟩:=Oper.apart_spec h
  rcases z with z|z
  ·exact p3 t A z
  exact U t z A
theorem slot_here(T:Trace P G cf ops st vl nf)(I:Inv ops st vl μ0 w0 d0 S μ a w)(R:Ready ops S i o){t:Tmp}(A:t∈o.looksAt ops):
  VRel μ (cU (st i).tmps t) (a.tmps.getD t undef):=by
 have:=I.tm t
 rw[tv_eq st vl ops (i:=i) (fun k=>T.tm k t) ops.size (fun k _ z=>R.iff_ I.dc (share T R.at_ (.inl A) z).1 (share T R.at_ (.inl A) z).2)]at this
 rwa [a2a (a27 R.lt)]at this
theorem operand_here(T:Trace P G cf ops st vl nf)(I:Inv ops st vl μ0 w0 d0 S μ a w)(R:Ready ops S i o)(E:GRel μ G)(z:o.op.operands.toList.all (bg G)=true):
  ∀x∈o.op.operands,VRel μ (cR (st i).tmps x) (a.eval x):=by
 intro x A
 refine eval_of E (a0y.1 z x (by simpa using A)) fun t N=>?_
 subst N
 refine slot_here T I R ?_
 unfold Oper.looksAt
 rw[a08]
 left
 rw[List.mem_filterMap]
 exact⟨.tmp t,by simpa using A,V⟩
theorem wanted_here(T:Trace P G cf ops st vl nf)(I:Inv ops st vl μ0 w0 d0 S μ a w)(R:Ready ops S i o):be ops o (st i).tmps=Region.wanted o (yielded ops a.tmps):=by
 refine wanted_eq (μ:=μ) fun j w A d z=>slot_here T I R ?_
 unfold Oper.looksAt;rw[a08];right;rw[A];simp only;rw[z];simp
theorem between(T:Trace P G cf ops st vl nf){j k b:Nat}(z:(st j).heap.next<=b)(A:b<(st (j+1)).heap.next)(E:(st k).heap.next<=b)(N:b<(st (k+1)).heap.next):j=k:=by
 rcases Nat.lt_trichotomy j k with h|h|h
 ·have:=T.monoL (show j+1<=k from h);omega
 ·exact h
 have:=T.monoL (show k+1<=j from h);omega
theorem lz(T:Trace P G cf ops st vl nf)(I:Inv ops st vl μ0 w0 d0 S μ a w)(R:Ready ops S i o)(b:Nat)(z:(st i).heap.next<=b)(A:b<(st (i+1)).heap.next):μ b=none:=by
 cases E:μ b with
 |none=>rfl
 |some l=>
  exfalso
  rcases I.dom b l E with h|⟨k,_,hs,h3,h4⟩|h
  ·have:=T.monoL (a0I i);omega
  ·have:=between T z A h3 h4;subst this;rw[R.new]at hs;cases hs
  have:=T.monoL (show i+1<=ops.size from R.lt);omega
theorem kA(T:Trace P G cf ops st vl nf)(I:Inv ops st vl μ0 w0 d0 S μ a w)(R:Ready ops S i o){b:Nat}{l:Loc}(Z:μ b=some l)(ad:b<(st i).heap.next)
  (U: ∀k w',nf k= .x w'->b∈w'->k<ops.size->(k<i->bf (cr ops) k i=true)/\(i<k->bf (cr ops) i k=true)):jF st S ops.size b=(st i).heap.get b:=by
 rw[kB st (i:=i) ops.size,a2a (a27 R.lt)]
 intro k E hc
 obtain⟨_,⟨z,A⟩|⟨w',z,A,h3⟩⟩:=T.chg hc
 ·--made there
  have N:k<i:=by
   rcases a0j k i with h|h
   ·exact h
   have:=T.monoL h;omega
  refine⟨fun _=>N,fun _=>?_⟩;rcases I.dom b l Z with h|⟨k',_,hs,h4,h5⟩|h
  ·have:=T.monoL (a0I k);omega
  ·have:=between T z A h4 h5;subst this;exact hs
  have:=T.monoL (a27 R.lt);omega
 exact R.iff_ I.dc (U k w' z A E).1 (U k w' z A E).2
theorem gw(T:Trace P G cf ops st vl nf)(I:Inv ops st vl μ0 w0 d0 S μ a w)(R:Ready ops S i o){b:Nat}(hb:b<(st i).heap.next->∃l,μ b=some l)(al:b<(st (i+1)).heap.next)
  (hw: ∀k w',nf k= .x w'->b∈w'->k<ops.size->(k<i->bf (cr ops) k i=true)/\(i<k->bf (cr ops) i k=true)):jF st (jj S i) ops.size b=(st (i+1)).heap.get b:=by
 rw[kB st (i:=i+1) ops.size,a2a R.lt]
 intro k U hc
 by_cases E:k=i
 ·subst E;rw[gj];simp
 obtain⟨_,⟨z,A⟩|⟨w',z,A,h3⟩⟩:=T.chg hc
 ·have Z:k<i:=by
   rcases a0j k i with h|h
   ·exact h
   have:=T.monoL (show i+1<=k by omega);omega
  rw[gk S E];refine⟨fun _=>by omega,fun _=>?_⟩;have N:b<(st i).heap.next:=by have:=T.monoL (show k+1<=i from Z);omega
  obtain⟨l,hl⟩:=hb N;rcases I.dom b l hl with h|⟨k',_,hs,h4,h5⟩|h
  ·have:=T.monoL (a0I k);omega
  ·have:=between T z A h4 h5;subst this;exact hs
  have:=T.monoL (a27 R.lt);omega
 exact R.iffAdd I.dc (hw k w' z A U).1 (hw k w' z A U).2
theorem ir(T:Trace P G cf ops st vl nf){b:Nat}(h: ¬chg st i b):jF st (jj S i) ops.size b=jF st S ops.size b:=by refine(lJ st ops.size fun k _ hc=>?_);exact gk S (fun e=>by subst e;exact h hc)
theorem ia{b:Nat}: ∀{l:List Nat},memB b l=true↔b∈l
 | []=>by simp[memB]
 |c::l=>by
  unfold memB;rw[a0z,ia (l:=l),a0s];constructor
  ·rintro(h|h)
   ·exact .inl (a09 h)
   exact .inr h
  rintro(rfl|h)
  ·exact .inl (a12 b)
  exact .inr h
theorem gq(T:Trace P G cf ops st vl nf)(I:Inv ops st vl μ0 w0 d0 S μ a w)(R:Ready ops S i o):
  (∀t,o.dst=some t->tv st vl ops (jj S i) ops.size t=vl i)/\(∀t,o.dst≠some t->tv st vl ops (jj S i) ops.size t=tv st vl ops S ops.size t):=by
 constructor
 ·intro t A;rw[tv_eq st vl ops (i:=i+1) (fun k=>T.tm k t) ops.size (fun k _ z=>R.iffAdd I.dc (share T R.at_ (.inr A) z).1 (share T R.at_ (.inr A) z).2),a2a R.lt,T.tm];rw[if_pos (by unfold jr;rw[R.at_];exact A)]
 intro t A
 refine tv_congr st vl ops ops.size fun k _ z=>gk S ?_
 intro e
 subst e
 unfold jr at z
 rw[R.at_]at z
 exact A z
theorem gt(T:Trace P G cf ops st vl nf)(I:Inv ops st vl μ0 w0 d0 S μ a w)(R:Ready ops S i o)(z: ∀b,(st (i+1)).heap.get b=(st i).heap.get b){v':Value}(N:VRel μ (vl i) v'):
  Inv ops st vl μ0 w0 d0 (jj S i) μ (a.put o.dst v') w:=by
 obtain⟨U,Z⟩:=gq T I R
 refine Inv.next (H:=bare (st i).heap.next) (Hn:=bare (st i).heap.next) I R.lt R.at_ (Post.refl (jH μ _ w)) N (fun k=>T.mono k) (a0b _) (T.mono i)
  (fun b l x _ h=>by rw[de]at h;cases h) (fun b l x _ h=>by rw[de]at h;cases h) (fun b l x A _ hc=>⟨A,V,?_⟩) (R.dc I.dc) (fun d E=>?_) U Z
 ·rw[ir T (fun e=>e (z b))]at hc;exact hc
 have:=(T.fact i o R.at_).dlt d E
 rwa [T.sizeL i]at this
theorem no_st(R:Ready ops S i o)(h:gQ o.op=false){k:Nat}{f g:Inf}:stst ops k i g f=false/\stst ops i k g f=false:=by
 have:stAt ops i=false:=by unfold stAt;rw[R.at_];exact h
 unfold stst;rw[this];cases stAt ops k<;>exact⟨V,V⟩
theorem new_nst{p:Op}(h:dO p=true):gQ p=false:=by cases p<;>first|rfl|cases h
theorem reads_nst{ρ:Operand->Value}{b:Nat}(h:kM ρ o b):gQ o.op=false:=by rcases h with⟨_,_,_,h,_⟩|⟨_,_,_,_,_,_,_,_,h,_⟩<;>rw[h]<;>rfl
theorem mA{b:Nat}: ∀{w u:List Nat},disjL w u=true->b∈w->b∈u->False
 | [],_,_,h,_=>by cases h
 |c::w,u,h,hb,hu=>by
  unfold disjL at h;rw[a07,a0B]at h;rcases a0s.1 hb with rfl|hb
  ·rw[ia.2 hu]at h;cases h.1
  exact mA h.2 hb hu
theorem inv_step(f9:eh P G cf)(T:Trace P G cf ops st vl nf)(I:Inv ops st vl μ0 w0 d0 S μ a w)(hG:GRel μ0 G)(R:Ready ops S i o){K:Act->World->Prop}{Q:Exit->Act->World->Prop}
  (hK: ∀μ' a' w',Inv ops st vl μ0 w0 d0 (jj S i) μ' a' w'->K a' w'):wpOp P ops Q i K a w:=by
 have e6:GRel μ G:=hG.mono I.ext0
 have F:=T.fact i o R.at_
 have c6:=wanted_here T I R
 unfold wpOp
 rw[R.at_]
 simp only
 rcases F.how with⟨hq,hv,hf,hn,hs⟩|⟨hq,f1,H1,H2,ai,ax,N,av,c5,e0⟩
 ·rw[c6]at hq;rw[hq];simp only[a0O,if_false];exact hK μ _ w (gt T I R hs (by rw[hv];exact VRel.undef))
 rw[c6]at hq
 rw[hq]
 simp only[if_true]
 left
 have hρ:=operand_here T I R e6 f1
 have cv:WF (st i).heap:=T.wf i
 rcases e0 with⟨hf,hk|hk⟩|⟨hf,hk⟩|⟨b,hf,a7⟩|⟨wr,hf,g3,g4,g1⟩
 rotate_left
 ·--a part of the nil slice
  unfold dM at N;split at N
  case h_2=>rename_i U z;obtain⟨_,_,A⟩:=eF hk z;cases A
  case h_3=>rename_i f args U z;obtain⟨_,_,A⟩:=eF hk z;cases A
  case h_4=>cases N
  rename_i u U z;simp only[a00,a01]at N;obtain⟨e1,_⟩:=eF hk z;subst e1;obtain⟨rfl,rfl⟩:=N;obtain⟨v',ar,hr⟩:=nilcut_sound hk hρ z w;unfold Oper.wp;rw[ar,Oper.upon_value];exact hK μ _ w (gt T I R (fun b=>by rw[av b,ai b]) hr)
 rotate_right
 ·--a value
  have z: ∃u,aop P (cR (st i).tmps) o H1=some (.val u,H1)/\u=vl i/\H2=H1:=by
   unfold dM at N;split at N
   ·rename_i u U z;simp only[a00,a01]at N;have:=kX hk z;subst this;exact⟨u,z,N.1,N.2.symm⟩
   ·rename_i U z;obtain⟨_,A⟩:=jM hk z;cases A
   ·rename_i f args U z;obtain⟨_,A⟩:=jM hk z;cases A
   cases N
  obtain⟨u,z,rfl,rfl⟩:=z;obtain⟨_,v,v',dv,ar,hr⟩:=jN hk hρ z;injection dv with dv;subst dv;unfold Oper.wp;rw[ar w,Oper.upon_value];exact hK μ _ w (gt T I R (fun b=>by rw[av b,ai b]) hr)
 ·--a new block
  unfold dM at N;split at N
  case h_2=>rename_i U z;obtain⟨_,_,A,_⟩:=ff hk z;cases A
  case h_3=>rename_i f args U z;obtain⟨_,_,A,_⟩:=ff hk z;cases A
  case h_4=>cases N
  rename_i u U z;simp only[a00,a01]at N;obtain⟨rfl,rfl⟩:=N;obtain⟨u,E,hu,e2,f2⟩:=ff hk z;injection hu with hu;subst hu e2;have dk:(st (i+1)).heap.next=(st i).heap.next+1:=by rw[c5,Heap.next_push,ax]
  have f8:=f2 (bare (st i).heap.next) (by rw[ax];rfl);obtain⟨n,w',μ',ar,hp,hr⟩:=gi hρ (jH μ _ w) (fun b a9 bb=>lz T I R b a9 (by rw[dk];exact bb)) f8;unfold Oper.wp;rw[ar];cases n with
  |value v'=>
   rw[Oper.upon_value]
   obtain⟨t1,t2⟩:=gq T I R
   have hw: ∀k w',nf k= .x w'->(st i).heap.next∈w'->k<ops.size->(k<i->bf (cr ops) k i=true)/\(i<k->bf (cr ops) i k=true):=by
    intro k w' A hm a0;have g0:(st i).heap.next<(st k).heap.next:=by
     have Fk:=T.fact k ops[k] (a0M a0);rcases Fk.how with⟨_,_,Z,_⟩|⟨_,_,_,_,_,_,_,_,_,go⟩
     ·rw[A]at Z;cases Z
     rcases go with⟨Z,_⟩|⟨Z,_⟩|⟨_,Z,_⟩|⟨w2,Z,gs,_,_⟩
     ·rw[A]at Z;cases Z
     ·rw[A]at Z;cases Z
     ·rw[A]at Z;cases Z
     rw[A]at Z;injection Z with Z;subst Z;exact gs _ hm
    constructor
    ·intro a5;have:=T.monoL (a27 a5);omega
    intro a4;rcases T.comp i k a4 a0 with h|h|h
    ·exact h
    ·rw[hf,A]at h;simp only[dq]at h;rw[ia.2 hm]at h;cases h
    rw[(no_st R (new_nst hk)).2]at h;cases h
   have f4:jF st (jj S i) ops.size (st i).heap.next=some E:=by rw[gw T I R (fun h=>absurd h (Nat.lt_irrefl _)) (by rw[dk];omega) hw,av,←ax,Heap.get_push_same]
   have ez: ∀b x,((bare (st i).heap.next).push E).get b=some x->b=(st i).heap.next/\x=E:=by
    intro b x A;by_cases c0:(bare (st i).heap.next).next=b
    ·subst c0;rw[Heap.get_push_same]at A;injection A with A;exact⟨V,A.symm⟩
    rw[Heap.get_push_ne _ _ c0,de]at A;cases A
   refine hK μ' _ w' (Inv.next (H:=bare (st i).heap.next) (Hn:=(bare (st i).heap.next).push E) I R.lt R.at_ hp hr (fun k=>T.mono k) (a0b _) (by rw[dk];exact a0b _)
    (fun b l x _ h=>by rw[de]at h;cases h) (fun b l x _ h=>?_) (fun b l x hb hg hc=>?_) (R.dc I.dc) (fun d hd=>?_) t1 t2)
   ·obtain⟨rfl,rfl⟩:=ez b x h;exact f4
   ·have c0:b≠(st i).heap.next:=by rintro rfl;have:((bare (st i).heap.next).push E).get (st i).heap.next=some E:=Heap.get_push_same (bare (st i).heap.next) E;rw[this]at hg;cases hg
    have cc: ¬chg st i b:=by intro b9;apply b9;rw[av,Heap.get_push_ne _ _ (by rw[ax];exact Ne.symm c0),ai]
    rw[ir T cc]at hc;rcases hp.dom b l hb with U|⟨U,h2⟩
    ·exact⟨U,V,hc⟩
    exfalso;have hh:(st i).heap.next<=b:=U;have hj:b<(st i).heap.next+1:=h2;omega
   have:=F.dlt d hd
   rwa [T.sizeL i]at this
  |_=>exact hr.elim
 ·--a load,or a part of a slice
  unfold dM at N;split at N
  case h_2=>rename_i U z;obtain⟨_,_,A,_⟩:=er a7 z;cases A
  case h_3=>rename_i f args U z;obtain⟨_,_,A,_⟩:=er a7 z;cases A
  case h_4=>cases N
  rename_i u U z;simp only[a00,a01]at N;obtain⟨rfl,rfl⟩:=N;obtain⟨u,E,hu,rfl,dl,bz⟩:=er a7 z;injection hu with hu;subst hu;obtain⟨l,hμ⟩:=reads_loc a7 hρ;have b0:b<(st i).heap.next:=cv.lt (by rw[←ai];exact dl);have a2:=kA T I R hμ b0 (fun k w' an hm a0=>by
   constructor
   ·intro a5;rcases T.comp k i a5 R.lt with h|h|h
    ·exact h
    ·rw[hf,an]at h;simp only[dq]at h;rw[ia.2 hm]at h;cases h
    rw[(no_st R (reads_nst a7)).1]at h;cases h
   intro a4;rcases T.comp i k a4 a0 with h|h|h
   ·exact h
   ·rw[hf,an]at h;simp only[dq]at h;rw[ia.2 hm]at h;cases h
   rw[(no_st R (reads_nst a7)).2]at h;cases h)
  have b4:WRel μ ((bare (st i).heap.next).put b E) w:=by
   refine⟨fun b' l' o' a3 a1=>?_,fun b1 b2 l1 l2 o1 o2 al _ _ bk bl=>?_⟩
   ·by_cases ag:b=b'
    ·subst ag;rw[Heap.get_put_same]at a1;injection a1 with a1;subst a1;exact I.obj b l' E a3 (by rw[a2,←ai];exact dl)
    rw[Heap.get_put_ne _ _ ag,de]at a1;cases a1
   exfalso;by_cases U:b=b1
   ·by_cases h2:b=b2
    ·exact al (U.symm.trans h2)
    rw[Heap.get_put_ne _ _ h2,de]at bl;cases bl
   rw[Heap.get_put_ne _ _ U,de]at bk;cases bk
  obtain⟨v',b7,hr⟩:=reads_sound a7 hρ b4 (bz _ (Heap.get_put_same _ _ _));unfold Oper.wp;rw[b7,Oper.upon_value];exact hK μ _ w (gt T I R (fun b=>by rw[av b,ai b]) hr)
 cases dt:gQ o.op with
 |true=>
  obtain⟨ty,pa,px,b,off,fz,f0,c8⟩:=g1 dt
  have b4: ∀k w',nf k= .x w'->b∈w'->k<ops.size->(k<i->bf (cr ops) k i=true)/\(i<k->bf (cr ops) i k=true):=by
   intro k w' an hm a0;have al:isNilL w'=false:=by cases w' with
    |nil=>simp at hm
    |cons _ _=>rfl
   constructor
   ·intro a5;rcases T.comp k i a5 R.lt with h|h|h
    ·exact h
    ·rw[hf,an]at h;simp only[dq,al,a1A]at h;cases h
    unfold stst at h;rw[hf,an,a07,a07]at h;exact(mA h.2.2 hm c8).elim
   intro a4;rcases T.comp i k a4 a0 with h|h|h
   ·exact h
   ·rw[hf,an]at h;simp only[dq,al,a1R]at h;cases h
   unfold stst at h;rw[hf,an,a07,a07]at h;exact(mA h.2.2 c8 hm).elim
  unfold dM at N
  cases z:aop P (cR (st i).tmps) o H1 with
  |none=>rw[z]at N;cases N
  |some q=>
   obtain⟨r,H3⟩:=q
   obtain⟨rfl,b2,ha,E,ea,dn,hg,rfl,bz⟩:=kZ fz z
   rw[f0]at dn
   simp only[Value.pointer.injEq,a00,Addr.mk.injEq,and_true]at dn
   obtain⟨rfl,rfl⟩:=dn
   rw[z]at N
   simp only[a00,a01]at N
   obtain⟨g2,rfl⟩:=N
   have b0:b<(st i).heap.next:=g3 b c8
   have f3: ∃l,μ b=some l:=by have U:=hρ pa (by rw[fz];simp[Op.operands]);rw[f0]at U;obtain⟨l,hl,_⟩:=U.ptr_inv;exact⟨l,hl⟩
   obtain⟨l,hμ⟩:=f3
   have a2:=kA T I R hμ b0 b4
   have fd:((bare (st i).heap.next).put b E).get b=some E:=Heap.get_put_same _ _ _
   have b3: ∀b' x,((bare (st i).heap.next).put b E).get b'=some x->b'=b/\x=E:=by
    intro b' x A;by_cases ag:b=b'
    ·subst ag;rw[fd]at A;injection A with A;exact⟨V,A.symm⟩
    rw[Heap.get_put_ne _ _ ag,de]at A;cases A
   have b6:WRel μ ((bare (st i).heap.next).put b E) w:=by
    refine⟨fun b' l' o' a3 a1=>?_,fun b1 b2 l1 l2 o1 o2 al _ _ bk bl=>?_⟩
    ·obtain⟨rfl,rfl⟩:=b3 b' o' a1;exact I.obj b' l' o' a3 (by rw[a2,←ai];exact hg)
    exact absurd ((b3 b1 o1 bk).1.trans (b3 b2 o2 bl).1.symm) al
   have ar:=bz _ fd
   have gb: ∀b',((bare (st i).heap.next).put b E).next<=b'->b'<(((bare (st i).heap.next).put b E).put b ea).next->μ b'=none:=fun b' U h2=>absurd h2 (Nat.not_lt_of_le U)
   obtain⟨n,w',μ',b7,hp,hr⟩:=gi hρ b6 gb ar
   unfold Oper.wp
   rw[b7]
   cases n with
   |skip=>
    rw[Oper.upon_skip]
    obtain⟨t1,t2⟩:=gq T I R
    refine hK μ' _ w' (Inv.next (H:=(bare (st i).heap.next).put b E) (Hn:=((bare (st i).heap.next).put b E).put b ea) I R.lt R.at_ hp (by rw[←g2];exact VRel.undef) (fun k=>T.mono k) (a0b _) (T.mono i)
     (fun b' l' x a3 A=>?_) (fun b' l' x a3 A=>?_) (fun b' l' x a3 A hc=>?_) (R.dc I.dc) (fun d hd=>?_) t1 t2)
    ·obtain⟨rfl,rfl⟩:=b3 b' x A;rw[a2,←ai];exact hg
    ·by_cases ag:b=b'
     ·subst ag;rw[Heap.get_put_same]at A;rw[gw T I R (fun _=>⟨l,hμ⟩) (a0V b0 (T.mono i)) b4,av,Heap.get_put_same];exact A
     rw[Heap.get_put_ne _ _ ag,Heap.get_put_ne _ _ ag,de]at A;cases A
    ·have ag:b≠b':=by rintro rfl;rw[Heap.get_put_same]at A;cases A
     have cc: ¬chg st i b':=by intro b9;exact b9 (by rw[av,Heap.get_put_ne _ _ ag,ai])
     rw[ir T cc]at hc;rcases hp.dom b' l' a3 with U|⟨U,h2⟩
     ·exact⟨U,by rw[Heap.get_put_ne _ _ ag,de],hc⟩
     exact absurd h2 (Nat.not_lt_of_le U)
    have:=F.dlt d hd
    rwa [T.sizeL i]at this
   |_=>exact hr.elim
 |false=>
 have d2: ∀b k w',nf k= .x w'->b∈w'->k<ops.size->(k<i->bf (cr ops) k i=true)/\(i<k->bf (cr ops) i k=true):=by
  intro b k w' an hm a0;have al:isNilL w'=false:=by cases w' with
   |nil=>simp at hm
   |cons _ _=>rfl
  constructor
  ·intro a5;rcases T.comp k i a5 R.lt with h|h|h
   ·exact h
   ·rw[hf,an]at h;simp only[dq,al,a1A]at h;cases h
   rw[(no_st R dt).1]at h;cases h
  intro a4;rcases T.comp i k a4 a0 with h|h|h
  ·exact h
  ·rw[hf,an]at h;simp only[dq,al,a1R]at h;cases h
  rw[(no_st R dt).2]at h;cases h
 have c3: ∀b l x,μ b=some l->H1.get b=some x->jF st S ops.size b=some x:=by intro b l x hb A;rw[ai]at A;rw[kA T I R hb (cv.lt A) (d2 b)];exact A
 have d1:WF H1:=fun b hb=>by rw[ai];exact cv b (by rw[←ax];exact hb)
 have b6:WRel μ H1 w:=⟨fun b l x hb A=>I.obj b l x hb (c3 b l x hb A),fun b1 b2 l1 l2 o1 o2 al a9 bb bk bl=>I.inj b1 b2 l1 l2 o1 o2 al a9 bb (c3 b1 l1 o1 a9 bk) (c3 b2 l2 o2 bb bl)⟩
 refine je f9 d1 hρ e6 b6 (fun b a9 bb=>lz T I R b (by rw[←ax];exact a9) (by rw[c5];exact bb)) N ?_
 intro μ' w' v' hp hv
 obtain⟨t1,t2⟩:=gq T I R
 have c4: ∀b l,μ' b=some l->b<(st i).heap.next->∃l,μ b=some l:=by
  intro b l hb g0;rcases hp.dom b l hb with h|⟨h,_⟩
  ·exact⟨l,h⟩
  rw[ax]at h;omega
 refine hK μ' _ w' (Inv.next (H:=H1) (Hn:=H2) I R.lt R.at_ hp hv (fun k=>T.mono k) (by rw[ax];exact a0b _) (by rw[c5];exact a0b _) c3 (fun b l x hb A=>?_) (fun b l x hb A hc=>?_) (R.dc I.dc) (fun d hd=>?_) t1 t2)
 ·rw[←av]at A;rw[gw T I R (c4 b l hb) ((T.wf (i+1)).lt A) (d2 b)];exact A
 ·rw[←av]at A;have fi:(st (i+1)).heap.next<=b:=by
   rcases a0j b (st (i+1)).heap.next with h|h
   ·rw[gw T I R (c4 b l hb) h (d2 b),A]at hc;cases hc
   exact h
  have cc: ¬chg st i b:=fun b9=>b9 (F.far b fi)
  rw[ir T cc]at hc;refine⟨?_,?_,hc⟩
  ·rcases hp.dom b l hb with h|⟨_,h⟩
   ·exact h
   rw[←c5]at h;omega
  exact d1 b (by rw[ax];exact a0e F.next fi)
 have:=F.dlt d hd
 rwa [T.sizeL i]at this
end
end Go.R
namespace Go.R
section
variable {P:Program} {G:Nat} {cf:cC} {ops:Array Oper} {st:Nat->St} {vl:Nat->Value} {nf:Nat->Inf}
variable {μ0 μ:Emb} {w0 w:World} {d0:List Deferred} {a:Act}
def cnt(S:Nat->Bool):Nat->Nat
 |0=>0
 |n+1=>cnt S n+if S n=true then 0 else 1
theorem cnt_far{S:Nat->Bool}{i:Nat}: ∀n,n<=i->cnt (jj S i) n=cnt S n
 |0,_=>rfl
 |n+1,h=>by have:=cnt_far (S:=S) (i:=i) n M;simp only[cnt,this,gk S (show n≠i by omega)]
theorem cnt_add{S:Nat->Bool}{i:Nat}(hs:S i=false): ∀n,i<n->cnt (jj S i) n+1=cnt S n
 |0,h=>by omega
 |n+1,h=>by
  by_cases hi:i=n
  ·subst hi;simp only[cnt,cnt_far i (a0b i),gj,hs,if_true,a0O,if_false]
  have:=cnt_add hs n M;simp only[cnt,gk S (show n≠i by omega)];omega
theorem jG{S:Nat->Bool}: ∀n,cnt S n=0->∀k,k<n->S k=true
 |0,_,k,h=>by omega
 |n+1,h,k,hk=>by
  simp only[cnt]at h;by_cases hs:S n=true
  ·by_cases z:k=n
   ·subst z;exact hs
   exact jG n M k M
  rw[if_neg hs]at h;omega
theorem cnt_le{S:Nat->Bool}: ∀n,cnt S n<=n
 |0=>a0b _
 |n+1=>by have:=cnt_le (S:=S) n;simp only[cnt];split<;>omega
def gF(listed:Array Bool):Nat->Bool:=fun k=>listed.getD k false
theorem setOf_set{listed:Array Bool}{i:Nat}(hi:i<listed.size):gF (listed.setIfInBounds i true)=jj (gF listed) i:=by
 funext k;unfold gF jj;simp only[a0Y,a1i];by_cases z:i=k
 ·subst z;simp[hi]
 have:Nat.beq k i=false:=by
  cases A:Nat.beq k i with
  |false=>rfl
  |true=>exact absurd (a09 A).symm z
 simp[z,this]
theorem jZ{listed:Array Bool}(hl:listed.size=ops.size){i:Nat}:i∈Region.ready .any ops listed↔
  ∃o,Ready ops (gF listed) i o:=by
 unfold Region.ready
 rw[a1X,a25]
 constructor
 ·rintro⟨hi,h⟩;have z:ops[i]?=some ops[i]:=a0M hi;rw[z]at h;simp only[a07,a0B,a1M,a0Q]at h;refine⟨ops[i],z,?_,fun e E A=>?_⟩
  ·unfold gF;have T:=h.1;simp only[a0Y,a0M (show i<listed.size by omega),a0Q]at T⊢;exact T
  have U:=h.2;rw[Array.all_eq_true']at U;have:=U e (by simpa using E);rw[A]at this;simpa[gF] using this
 rintro⟨o,z,N,E⟩
 have hi:i<ops.size:=(a0C.1 z).1
 refine⟨hi,?_⟩
 rw[z]
 simp only[a07,a0B,a1M,a0Q]
 constructor
 ·unfold gF at N;simp only[a0Y,a0M (show i<listed.size by omega),a0Q]at N⊢;exact N
 rw[Array.all_eq_true']
 intro e Z
 cases A:Region.binds .any e with
 |false=>rfl
 |true=>
  have:=E e (by simpa using Z) A
  simpa[gF] using this
theorem all_of_none(T:Trace P G cf ops st vl nf){listed:Array Bool}(Z:listed.size=ops.size)(h:Region.ready .any ops listed=[]): ∀k,k<ops.size->gF listed k=true:=by
 intro k;induction k using Nat.strongRecOn with
 |_ k ih=>
  intro U
  cases hs:gF listed k with
  |true=>rfl
  |false=>
   exfalso
   have A:=a0M U
   have:k∈Region.ready .any ops listed:=(jZ Z).2 ⟨ops[k],A,hs,fun e N E=>by
    have z:=T.reg.back k ops[k] A e N E;exact ih e.on z M⟩
   rw[h]at this;simp at this
theorem any_sound(E:eh P G cf)(T:Trace P G cf ops st vl nf)(U:GRel μ0 G){Q:Exit->Act->World->Prop}
  (N: ∀S μ a w,(∀k,k<ops.size->S k=true)->Inv ops st vl μ0 w0 d0 S μ a w->Q .normal a w):
  ∀(fuel:Nat) (listed:Array Bool) (μ:Emb) (a:Act) (w:World),listed.size=ops.size->cnt (gF listed) ops.size<=fuel->Inv ops st vl μ0 w0 d0 (gF listed) μ a w->
   wpAny P .any ops Q fuel listed a w
 |0,listed,μ,a,w,hl,hc,I=>by
  have z:=jG ops.size (by omega:cnt (gF listed) ops.size=0);refine⟨?_,N _ μ a w z I⟩;cases hr:Region.ready .any ops listed with
  |nil=>rfl
  |cons i t=>
   exfalso
   have hm:i∈Region.ready .any ops listed:=by rw[hr];simp
   obtain⟨o,R⟩:=(jZ hl).1 hm
   have:=z i R.lt
   rw[R.new]at this;cases this
 |fuel+1,listed,μ,a,w,hl,hc,I=>by
  refine⟨fun h=>N _ μ a w (all_of_none T hl h) I,fun i hi=>?_⟩;obtain⟨o,R⟩:=(jZ hl).1 hi;refine inv_step E T I U R fun μ' a' w' Z=>?_
  have A:=setOf_set (listed:=listed) (i:=i) (by rw[hl];exact R.lt);refine any_sound E T U N fuel (listed.setIfInBounds i true) μ' a' w' (by simp[hl]) ?_ (by rw[A];exact Z);rw[A];have:=cnt_add R.new ops.size R.lt;omega
theorem inv_start(T:Trace P G cf ops st vl nf)(ht:TRel μ0 (st 0).tmps (st 0).size a.tmps)(hw:WRel μ0 (st 0).heap w)(E: ∀b l,μ0 b=some l->b<(st 0).heap.next\/(st ops.size).heap.next<=b)(S:Nat->Bool)(A: ∀k,S k=false):
  Inv ops st vl μ0 w a.defers S μ0 a w:=by
 have hc: ∀b,jF st S ops.size b=(st 0).heap.get b:=by intro b;have:=kB st (S:=S) (b:=b) (i:=0) ops.size (fun k _ _=>by rw[A k];simp);rwa [Nat.min_zero]at this
 have ar: ∀t,tv st vl ops S ops.size t=cU (st 0).tmps t:=by intro t;have:=tv_eq st vl ops (S:=S) (t:=t) (i:=0) (fun k=>T.tm k t) ops.size (fun k _ _=>by rw[A k];simp);rwa [Nat.min_zero]at this
 refine⟨(fun k o _ hk=>by rw[A k]at hk;cases hk),fun b l z=>?_,fun b l o z N=>hw.obj b l o z (by rw[←hc];exact N),fun b1 b2 l1 l2 o1 o2 ai U Z al an=>hw.inj b1 b2 l1 l2 o1 o2 ai U Z (by rw[←hc];exact al) (by rw[←hc];exact an),
  ht.1,fun t=>by rw[ar];exact ht.2 t,V,fun _ _ h=>h,fun _ _ h=> .inl h,a0b _,V,V,V,fun _ _ _=>rfl,fun b l o z N ag=> .inr ⟨b,l,o,z,by rw[←hc];exact N,ag,id,V⟩⟩
 rcases E b l z with h|h
 ·exact .inl h
 exact .inr (.inr h)
theorem inv_end(T:Trace P G cf ops st vl nf){S:Nat->Bool}(z: ∀k,k<ops.size->S k=true)(I:Inv ops st vl μ0 w0 d0 S μ a w):
  Post μ0 (st 0).heap w0 μ (st ops.size).heap w/\TRel μ (st ops.size).tmps (st ops.size).size a.tmps/\a.defers=d0:=by
 have hc: ∀b,jF st S ops.size b=(st ops.size).heap.get b:=by intro b;have:=kB st (S:=S) (b:=b) (i:=ops.size) ops.size (fun k A _=>by rw[z k A];simp[A]);rwa [Nat.min_self]at this
 have an: ∀t,tv st vl ops S ops.size t=cU (st ops.size).tmps t:=by intro t;have:=tv_eq st vl ops (S:=S) (t:=t) (i:=ops.size) (fun k=>T.tm k t) ops.size (fun k A _=>by rw[z k A];simp[A]);rwa [Nat.min_self]at this
 refine⟨⟨I.ext0,I.dom0,I.grow0,I.os0,I.tape0,I.out0,I.keep0,fun b l o E N ad=>I.img0 b l o E (by rw[hc];exact N) ad,
  ⟨fun b l o E N=>I.obj b l o E (by rw[hc];exact N),fun b1 b2 l1 l2 o1 o2 ag U Z ai al=>I.inj b1 b2 l1 l2 o1 o2 ag U Z (by rw[hc];exact ai) (by rw[hc];exact al)⟩⟩,⟨?_,fun t=>?_⟩,I.defers⟩
 ·rw[I.size,T.sizeL ops.size]
 have:=I.tm t
 rwa [an]at this
end
section
variable {P:Program} {G:Nat} {cf:cC} {ops:Array Oper}
theorem hO(Z:eh P G cf): ∀(l:List Oper) (k:Nat) (fs:List (Nat×Inf)) (s s':St),ops.toList.drop k=l->k+l.length=ops.size->br P G cf ops k fs l s=some s'->WF s.heap->
  ∃(st:Nat->St) (vl:Nat->Value) (nf:Nat->Inf),st k=s/\st ops.size=s'/\(∀j,ops.size<=j->st (j+1)=st j)/\(∀j,k<=j->WF (st j).heap)/\
   (∀j o,k<=j->ops[j]?=some o->OpFact P G cf ops o (st j) (st (j+1)) (vl j) (nf j))/\
   (∀j,k<=j->j<ops.size->∀q∈fs,bf (cr ops) q.1 j=true\/dq q.2 (nf j)=true\/stst ops q.1 j q.2 (nf j)=true)/\
   (∀i j,k<=i->i<j->j<ops.size->bf (cr ops) i j=true\/dq (nf i) (nf j)=true\/stst ops i j (nf i) (nf j)=true)
 | [],k,fs,s,s',hd,hlen,h,hw=>by simp only[br,a00]at h;subst h;simp only[a0g,a26]at hlen;refine⟨fun _=>s,fun _=>undef,fun _=> .v,V,V,fun _ _=>rfl,fun _ _=>hw,fun j o E N=>?_,fun j E a7=>by omega,fun i j hi ag E=>by omega⟩;have:=(a0C.1 N).1;omega
 |x::os,k,fs,s,s',hd,hlen,h,hw=>by
  simp only[a0a]at hlen;unfold br at h;split at h
  case h_2=>cases h
  rename_i s1 f h1;cases A:ct ops (cr ops) k f fs with
  |false=>rw[A]at h;cases h
  |true=>
   rw[A]at h
   simp only[cond_true]at h
   obtain⟨v,F⟩:=stepD_fact Z hw h1
   have ax:WF s1.heap:=fun b hb=>by rw[F.far b hb];exact hw b (a0e F.next hb)
   have hk:k<ops.toList.length:=by simp;omega
   have ad:=a1p hk
   rw[hd]at ad
   injection ad with e1 e2
   have aw:ops[k]?=some x:=by rw[←Array.getElem?_toList,a05 hk,←e1]
   obtain⟨st,vl,nf,g1,g2,g3,g4,g5,g6,g7⟩:=hO Z os (k+1) ((k,f)::fs) s1 s' e2.symm M h ax
   have U: ∀(l:List (Nat×Inf)),ct ops (cr ops) k f l=true->∀q∈l,bf (cr ops) q.1 k=true\/dq q.2 f=true\/stst ops q.1 k q.2 f=true:=by
    intro l;induction l with
    |nil=>intro _ q A;simp at A
    |cons p l ih=>
     intro hl q A
     obtain⟨pj,pg⟩:=p
     simp only[ct,a07,a0z]at hl
     rcases a0s.1 A with rfl|A
     ·exact hl.1
     exact ih hl.2 q A
   refine⟨fun j=>if j<=k then s else st j,fun j=>if j<=k then v else vl j,fun j=>if j<=k then f else nf j,by simp,?_,fun j E=>?_,fun j E=>?_,fun j o E N=>?_,fun j E T q ai=>?_,fun i j hi ag T=>?_⟩
   ·simp only[show ¬(ops.size<=k) by omega,if_false];exact g2
   ·simp only[show ¬(j<=k) by omega,show ¬(j+1<=k) by omega,if_false];exact g3 j E
   ·by_cases z:j<=k
    ·simp only[z,if_true];exact hw
    simp only[z,if_false];exact g4 j M
   ·by_cases z:j=k
    ·subst z;rw[aw]at N;injection N with N;subst N;simp only[a0b,if_true,show ¬(j+1<=j) by omega,if_false,g1];exact F
    simp only[show ¬(j<=k) by omega,show ¬(j+1<=k) by omega,if_false];exact g5 j o M N
   ·by_cases z:j=k
    ·subst z;simp only[a0b,if_true];exact U fs A q ai
    simp only[show ¬(j<=k) by omega,if_false];exact g6 j M T q (a0i _ ai)
   by_cases ar:i=k
   ·subst ar;simp only[a0b,if_true,show ¬(j<=i) by omega,if_false];exact g6 j M T (i,f) (by simp)
   simp only[show ¬(i<=k) by omega,show ¬(j<=k) by omega,if_false]
   exact g7 i j M ag T
def Dom(μ:Emb)(H:Heap):Prop:= ∀b l,μ b=some l->b<H.next
theorem region_sound(U:eh P G cf){id:Nat}{A:Bool}{s z:St}(h:bY P G cf ops A s=some z){μ:Emb}{a:Act}{w:World}{Q:Exit->Act->World->Prop}
  (an:WF s.heap) (ht:TRel μ s.tmps s.size a.tmps) (hG:GRel μ G) (hw:WRel μ s.heap w) (Z: ∀b l,μ b=some l->b<s.heap.next\/z.heap.next<=b)
  (hQ: ∀μ' w' E,Post μ s.heap w μ' z.heap w'->TRel μ' z.tmps z.size E.tmps->E.defers=a.defers->Q .normal E w'):(Code.region id ops A).wp P Q a w:=by
 have ad: ∀b,s.heap.next<=b->b<z.heap.next->μ b=none:=by
  intro b h1 h2;cases hb:μ b with
  |none=>rfl
  |some l=>rcases Z b l hb with h3|h3<;>omega
 unfold bY at h
 cases A with
 |false=>
  simp only[cond_false]at h
  refine wp_region ?_
  rw[List.range_eq_range']
  have:=iZ U ops.toList 0 s z V h μ a w an ht hG hw ad (Q:=Q) hQ
  simpa using this
 |true=>
  simp only[cond_true]at h
  cases hq:(aY ops&&P.follows .mixedOrders) with
  |false=>rw[hq]at h;cases h
  |true=>
   rw[hq]at h
   simp only[cond_true]at h
   simp only[a07]at hq
   obtain⟨st,vl,nf,N,g2,g3,g4,g5,_,g7⟩:=hO U ops.toList 0 [] s z V (by simp) h an
   have T:Trace P G cf ops st vl nf:=⟨fun k o ho=>g5 k o (a0I _) ho,g3,fun j k ax hk=>g7 j k (a0I _) ax hk,regOK_facts hq.1,fun k=>g4 k (a0I _)⟩
   refine wp_region_any hq.2 ?_
   rw[World.drew_eq]
   have I:=inv_start (a:=a) (w:=w.drew) (μ0:=μ) T (by rw[N];exact ht) (by rw[N];exact hw.drew) (by rw[N,g2];exact Z) (gF (Array.replicate ops.size false)) (fun k=>by
    unfold gF;simp[a0Y,Array.getElem?_replicate];split<;>rfl)
   refine any_sound U T hG (fun S μ' E w' hS I'=>?_) ops.size _ μ a w.drew (by simp) (cnt_le _) I
   obtain⟨hp,al,aw⟩:=inv_end T hS I'
   rw[N,g2]at hp
   rw[g2]at al
   refine hQ μ' w' E ((Post.drew hw).trans hp (a0b _) ?_) al aw
   have:=T.monoL (a0I ops.size)
   rwa [N,g2]at this
end
end Go.R
namespace Go.R
open Go.RowKit
def Ex.toExit:Ex->Exit
 | .normal=> .normal
 | .exit id=> .exit id
 | .ret=> .ret
def LoopWp(P:Program)(c:Code)(Q:Exit->Act->World->Prop)(a:Act)(w:World):Prop:=
 ∀(b:Frame) (k:List Item) (cs:List Frame),∃e z w',Q e z w'/\Arrives P (lone (b.at a (.code c:: .inLoop c::k)) cs w) b k cs e z w'
theorem LoopWp.wp{P:Program}{c:Code}{Q:Exit->Act->World->Prop}{a:Act}{w:World}(h:LoopWp P c Q a w):(Code.loop c).wp P Q a w:=
 fun b k cs=>let⟨e,a',w',q,r⟩:=h b k cs;⟨e,a',w',q,.of_steps (.one step_loop) r⟩
theorem LoopWp.round{P:Program}{c:Code}{Q:Exit->Act->World->Prop}{a:Act}{w:World}(h:c.wp P (Exit.then (LoopWp P c Q) Q) a w):LoopWp P c Q a w:=by
 intro b k cs;obtain⟨e,E,N,A,z⟩:=h b (.inLoop c::k) cs;cases e with
 |normal=>
  obtain⟨e₂,Z,w₂,U,T⟩:=A b k cs
  exact⟨e₂,Z,w₂,U,.of_steps (Steps.trans z (.one step_inLoop)) T⟩
 |exit id=>exact⟨_,E,N,A,.pass (x:= .inLoop c) V (fun _ _=> .inl (by simp)) z⟩
 |goto l=>exact⟨_,E,N,A,.pass (x:= .inLoop c) V (fun _ _=> .inl (by simp)) z⟩
 |ret=>exact⟨_,E,N,A,.pass (x:= .inLoop c) V (fun _ _=> .inl (by simp)) z⟩
 |panic ch=>exact⟨_,E,N,A,.pass (x:= .inLoop c) V (fun _ _=> .inl (by simp)) z⟩
 |outgrown=>exact⟨_,E,N,A,.pass (x:= .inLoop c) V (fun _ _=> .inl (by simp)) z⟩
def Wp(P:Program)(c:Code)(Q:Exit->Act->World->Prop)(a:Act)(w:World):Prop:=
 match c with
 | .loop b=>LoopWp P b Q a w
 |c=>c.wp P Q a w
theorem Wp.wp{P:Program}{c:Code}{Q:Exit->Act->World->Prop}{a:Act}{w:World}(h:Wp P c Q a w):c.wp P Q a w:=by cases c<;>first|exact LoopWp.wp h|exact h
def After(μ:Emb)(s:St)(w:World)(e:Ex)(z:St):Exit->Act->World->Prop:=fun E A N=>
 E=e.toExit/\A.defers=[]/\∃μ',Post μ s.heap w μ' z.heap N/\TRel μ' z.tmps z.size A.tmps
def ExOK(P:Program)(G:Nat)(ex:Code->St->Option (Ex×St)):Prop:= ∀c s e z,ex c s=some (e,z)->WF s.heap->Ext s.heap z.heap/\
 ∀μ a w,a.defers=[]->TRel μ s.tmps s.size a.tmps->GRel μ G->WRel μ s.heap w->(∀b,s.heap.next<=b->b<z.heap.next->μ b=none)->Wp P c (After μ s w e z) a w
section
variable {P:Program} {G:Nat}
theorem lw{μ z:Emb}{H H1 A:Heap}{w w1:World}(hp:Post μ H w z H1 w1)(E:H.next<=H1.next)(Z: ∀b,H.next<=b->b<A.next->μ b=none): ∀b,H1.next<=b->b<A.next->z b=none:=by
 intro b N T;cases U:z b with
 |none=>rfl
 |some l=>
  rcases hp.dom b l U with h|⟨_,h⟩
  ·rw[Z b (a0e E N) T]at h;cases h
  omega
theorem After.trans{μ Z:Emb}{s z N:St}{w U:World}{e:Ex}(hp:Post μ s.heap w Z z.heap U)(h1:s.heap.next<=z.heap.next)(h2:z.heap.next<=N.heap.next):
  ∀E A T,After Z z U e N E A T->After μ s w e N E A T:=by
 rintro E A T ⟨he,hd,μ2,hp2,ht⟩
 exact⟨he,hd,μ2,hp.trans hp2 h1 h2,ht⟩
theorem region_ext{cf:cC}(U:eh P G cf){ops:Array Oper}{A:Bool}{s z:St}(T:WF s.heap)(h:bY P G cf ops A s=some z):Ext s.heap z.heap:=by
 unfold bY at h;cases A with
 |false=>exact iK U _ _ _ T h
 |true=>
  simp only[cond_true]at h
  cases N:(aY ops&&P.follows .mixedOrders) with
  |false=>rw[N]at h;cases h
  |true=>
   rw[N]at h
   simp only[cond_true]at h
   have key: ∀(l:List Oper) (k:Nat) (fs:List (Nat×Inf)) (s z:St),WF s.heap->br P G cf ops k fs l s=some z->Ext s.heap z.heap:=by
    intro l;induction l with
    |nil=>intro k fs s z _ h;simp only[br,a00]at h;subst h;exact Ext.refl _
    |cons o os ih=>
     intro k fs s z T h
     unfold br at h
     split at h
     case h_2=>cases h
     rename_i s1 f E
     cases N:ct ops (cr ops) k f fs with
     |false=>rw[N]at h;cases h
     |true=>
      rw[N]at h
      simp only[cond_true]at h
      have e1:Ext s.heap s1.heap:=by
       unfold gA at E;split at E
       case h_2=>cases E
       rename_i t ai;simp only[a00,a01]at E;obtain⟨rfl,_⟩:=E;have Z:=jy U (s:={s with heap:={s.heap with log:=[]}}) T ai;obtain⟨d,hd,hs⟩:=Z.log;refine⟨Z.next,⟨dx s.heap.next t.heap.log,V,fun b hb hn=>?_⟩,Z.far⟩;refine hs b hb fun hm=>hn (fh.2 ⟨?_,hb⟩)
       rw[hd,a0r];exact hm
      exact e1.trans (ih _ _ _ _ (T.ext e1) h)
   exact key _ _ _ _ _ T h
theorem execC_ok{rec_:Code->St->Option (Ex×St)}{cf:cC}(a4:ExOK P G rec_)(a0:eh P G cf):ExOK P G (eJ P G rec_ cf):=by
 intro c;induction c with
 |skip=>
  intro s e s' h hw
  rw[lC]at h
  simp only[a00,a01]at h
  obtain⟨rfl,rfl⟩:=h
  exact⟨Ext.refl _,fun μ a w T A E U _=>wp_skip ⟨V,T,μ,Post.refl U,A⟩⟩
 |region id ops draw=>
  intro s e s' h hw
  rw[ge]at h
  unfold dY at h
  split at h
  ·rename_i s1 h1;simp only[a00,a01]at h;obtain⟨rfl,rfl⟩:=h;refine⟨region_ext a0 hw h1,fun μ a w T A E U Z=>?_⟩;refine region_sound a0 h1 hw A E U (fun b l hb=>?_) fun μ' w' a' hp a6 a5=>⟨V,a5.trans T,μ',hp,a6⟩
   rcases a0j b s.heap.next with h2|h2
   ·exact .inl h2
   right;rcases a0j b s1.heap.next with h3|h3
   ·rw[Z b h2 h3]at hb;cases hb
   exact h3
  cases h
 |seq x y ihx ihy=>
  intro s e s' h hw
  rw[ku]at h
  cases hx:eJ P G rec_ cf x s with
  |none=>rw[hx]at h;cases h
  |some p=>
   obtain⟨e1,s1⟩:=p
   obtain⟨z,N⟩:=ihx s e1 s1 hx hw
   rw[hx]at h
   cases e1 with
   |normal=>
    simp only[gf]at h
    obtain⟨ai,aw⟩:=ihy s1 e s' h (hw.ext z)
    refine⟨z.trans ai,fun μ a w T A E U Z=>wp_seq ?_⟩
    refine wp_mono (N μ a w T A E U (fun b h1 h2=>Z b h1 (a0V h2 ai.next))).wp ?_
    rintro e2 a2 w2 ⟨rfl,hd2,μ2,hp2,ht2⟩
    exact wp_mono (aw μ2 a2 w2 hd2 ht2 (E.mono hp2.ext) hp2.wrel (lw hp2 z.next Z)).wp (After.trans hp2 z.next ai.next)
   |exit i=>
    simp only[gf,a00,a01]at h
    obtain⟨rfl,rfl⟩:=h
    refine⟨z,fun μ a w T A E U Z=>wp_seq ?_⟩
    refine wp_mono (N μ a w T A E U Z).wp ?_
    rintro e2 a2 w2 ⟨rfl,hrest⟩
    exact⟨V,hrest⟩
   |ret=>
    simp only[gf,a00,a01]at h
    obtain⟨rfl,rfl⟩:=h
    refine⟨z,fun μ a w T A E U Z=>wp_seq ?_⟩
    refine wp_mono (N μ a w T A E U Z).wp ?_
    rintro e2 a2 w2 ⟨rfl,hrest⟩
    exact⟨V,hrest⟩
 |cond c x y ihx ihy=>
  intro s e s' h hw
  rw[iR]at h
  cases hq:bg G c with
  |false=>rw[hq]at h;cases h
  |true=>
   rw[hq]at h
   simp only[cond_true]at h
   unfold lF at h
   split at h
   ·rename_i t hv;have ax: ∀(μ:Emb) (a:Act),TRel μ s.tmps s.size a.tmps->GRel μ G->a.eval c= .bool t:=by
     intro μ a A E;have:=eval_of E hq (tm:=s.tmps) (a:=a) fun k _=>A.2 k
     rw[hv]at this;exact this.bool_inv
    cases t with
    |true=>
     obtain⟨z,N⟩:=ihx s e s' h hw
     exact⟨z,fun μ a w T A E U Z=>wp_cond_true (ax μ a A E) (N μ a w T A E U Z).wp⟩
    |false=>
     obtain⟨z,N⟩:=ihy s e s' h hw
     exact⟨z,fun μ a w T A E U Z=>wp_cond_false (ax μ a A E) (N μ a w T A E U Z).wp⟩
   cases h
 |block id x ih=>
  intro s e s' h hw
  rw[gS]at h
  cases hx:eJ P G rec_ cf x s with
  |none=>rw[hx]at h;cases h
  |some p=>
   obtain⟨e1,s1⟩:=p
   obtain⟨z,N⟩:=ih s e1 s1 hx hw
   rw[hx]at h
   cases e1 with
   |normal=>
    simp only[dh,a00,a01]at h
    obtain⟨rfl,rfl⟩:=h
    refine⟨z,fun μ a w T A E U Z=>wp_block ?_⟩
    refine wp_mono (N μ a w T A E U Z).wp ?_
    rintro e2 a2 w2 ⟨rfl,hrest⟩
    exact⟨V,hrest⟩
   |exit i=>
    simp only[dh]at h
    cases hb:Nat.beq i id with
    |true=>
     rw[hb]at h
     simp only[cond_true,a00,a01]at h
     obtain⟨rfl,rfl⟩:=h
     have hi:i=id:=a09 hb
     subst hi
     refine⟨z,fun μ a w T A E U Z=>wp_block ?_⟩
     refine wp_mono (N μ a w T A E U Z).wp ?_
     rintro e2 a2 w2 ⟨rfl,hrest⟩
     simp only[Ex.toExit,Exit.inBlock,if_true]
     exact⟨V,hrest⟩
    |false=>
     rw[hb]at h
     simp only[cond_false,a00,a01]at h
     obtain⟨rfl,rfl⟩:=h
     have hi: ¬i=id:=fun e=>by subst e;rw[a12]at hb;cases hb
     refine⟨z,fun μ a w T A E U Z=>wp_block ?_⟩
     refine wp_mono (N μ a w T A E U Z).wp ?_
     rintro e2 a2 w2 ⟨rfl,hrest⟩
     simp only[Ex.toExit,Exit.inBlock,hi,if_false]
     exact⟨V,hrest⟩
   |ret=>
    simp only[dh,a00,a01]at h
    obtain⟨rfl,rfl⟩:=h
    refine⟨z,fun μ a w T A E U Z=>wp_block ?_⟩
    refine wp_mono (N μ a w T A E U Z).wp ?_
    rintro e2 a2 w2 ⟨rfl,hrest⟩
    exact⟨V,hrest⟩
 |loop x ih=>
  intro s e s' h hw
  rw[iQ]at h
  cases hx:eJ P G rec_ cf x s with
  |none=>rw[hx]at h;cases h
  |some p=>
   obtain⟨e1,s1⟩:=p
   obtain⟨z,N⟩:=ih s e1 s1 hx hw
   rw[hx]at h
   cases e1 with
   |normal=>
    simp only[gf]at h
    obtain⟨ai,aw⟩:=a4 (.loop x) s1 e s' h (hw.ext z)
    refine⟨z.trans ai,fun μ a w T A E U Z=>LoopWp.round ?_⟩
    refine wp_mono (N μ a w T A E U (fun b h1 h2=>Z b h1 (a0V h2 ai.next))).wp ?_
    rintro e2 a2 w2 ⟨rfl,hd2,μ2,hp2,ht2⟩
    have hl:LoopWp P x (After μ2 s1 w2 e s') a2 w2:=aw μ2 a2 w2 hd2 ht2 (E.mono hp2.ext) hp2.wrel (lw hp2 z.next Z)
    intro b k cs
    obtain⟨e3,a3,w3,q,r⟩:=hl b k cs
    exact⟨e3,a3,w3,After.trans hp2 z.next ai.next _ _ _ q,r⟩
   |exit i=>
    simp only[gf,a00,a01]at h
    obtain⟨rfl,rfl⟩:=h
    refine⟨z,fun μ a w T A E U Z=>LoopWp.round ?_⟩
    refine wp_mono (N μ a w T A E U Z).wp ?_
    rintro e2 a2 w2 ⟨rfl,hrest⟩
    exact⟨V,hrest⟩
   |ret=>
    simp only[gf,a00,a01]at h
    obtain⟨rfl,rfl⟩:=h
    refine⟨z,fun μ a w T A E U Z=>LoopWp.round ?_⟩
    refine wp_mono (N μ a w T A E U Z).wp ?_
    rintro e2 a2 w2 ⟨rfl,hrest⟩
    exact⟨V,hrest⟩
 |exit id=>
  intro s e s' h hw
  rw[lD]at h
  simp only[a00,a01]at h
  obtain⟨rfl,rfl⟩:=h
  exact⟨Ext.refl _,fun μ a w T A E U _=>wp_exit ⟨V,T,μ,Post.refl U,A⟩⟩
 |ret=>
  intro s e s' h hw
  rw[execC_ret]at h
  simp only[a00,a01]at h
  obtain⟨rfl,rfl⟩:=h
  exact⟨Ext.refl _,fun μ a w T A E U _=>wp_ret ⟨V,T,μ,Post.refl U,A⟩⟩
 |rangeFunc f ps x y _ _=>intro s e s' h;cases h
 |scope x _=>intro s e s' h;cases h
 |label l=>intro s e s' h;cases h
 |goto l=>intro s e s' h;cases h
 |refuse m=>intro s e s' h;cases h
theorem gW: ∀(args:List Value) (i:Nat) (t:Tr Value) (k:Nat),cU (eY i args t) k=if i<=k/\k<i+args.length then args.getD (k-i) undef else cU t k
 | [],i,t,k=>by rw[if_neg (by simp only[a0g];omega)];rfl
 |v::l,i,t,k=>by
  simp only[eY];rw[gW l (i+1) _ k];by_cases z:i+1<=k/\k<i+1+l.length
  ·rw[if_pos z,if_pos (by simp only[a0a];omega),show k-i=(k-(i+1))+1 by omega];rfl
  rw[if_neg z,gc];by_cases A:i=k
  ·subst A;rw[if_pos V,if_pos (by simp only[a0a];omega)];simp
  rw[if_neg A,if_neg (by simp only[a0a];omega)]
theorem args_rel{μ:Emb}{args:List Value}{z:Array Value}(h:LRel μ args z.toList)(n:Nat):
  TRel μ (eY 0 args .nil) (Nat.max args.length n) (z++Array.replicate (n-z.size) undef):=by
 have N:args.length=z.size:=by rw[h.1];simp
 refine⟨by simp only[Array.size_append,Array.size_replicate];rw[N];show _=max _ _;omega,fun i=>?_⟩
 rw[gW]
 simp only[a0I,true_and,a1f,Nat.sub_zero,lget_nil,a0Y,Array.getElem?_append]
 by_cases hi:i<args.length
 ·rw[if_pos hi,if_pos M];have A:args[i]?=some args[i]:=a05 hi;obtain⟨v',E,T⟩:=h.get A;have:z[i]?=some v':=by simpa using E
  rw[this,a03,A];exact T
 rw[if_neg hi,if_neg M]
 rw[Array.getElem?_replicate]
 split
 ·exact VRel.undef
 exact VRel.undef
theorem gI{μ:Emb}{s:St}{a:Array Value}{w:World}(A:TRel μ s.tmps s.size a)(U:WRel μ s.heap w): ∀(rs:List ResultVar) (l:List Value),cT P s rs=some l->
  ∃l',(rs.mapM (m:=Sem) fun| .tmp t=>Pure.pure (a.getD t undef)| .cell x t=>do loadVar t (←asAddr (a.getD x undef))).run P w= .ok l' w/\LRel μ l l'
 | [],l,h=>by simp only[cT,a00]at h;subst h;exact⟨[],by simp,.nil⟩
 | .tmp t::rs,l,h=>by
  unfold cT at h;split at h
  ·rename_i l1 N;injection h with h;subst h;obtain⟨l',z,T⟩:=gI A U rs l1 N;exact⟨a.getD t undef::l',by simp only[a2l,Sem.run_bind,Sem.run_pure,Result.andThen_ok,z],.cons (A.2 t) T⟩
  cases h
 | .cell x t::rs,l,h=>by
  unfold cT at h;split at h
  ·rename_i p hp;split at h
   ·rename_i v l1 hv N;injection h with h;subst h;obtain⟨l',z,T⟩:=gI A U rs l1 N;have Z:=A.2 x;rw[hp]at Z;obtain⟨b,o,sp⟩:=p;have ai:sp=none:=Z.ptr_some.1;subst ai;obtain⟨E,hμ,an⟩:=Z.ptr_inv;obtain⟨v',ag,al⟩:=gO (P:=P) U hμ hv;exact⟨v'::l',by simp only[a2l,Sem.run_bind,an,show(asAddr (Value.pointer (some ⟨E.c,E.sh+o,none⟩))).run P w= .ok ⟨E.c,E.sh+o,none⟩ w from V,Sem.run_pure,Result.andThen_ok,ag,z],.cons al T⟩
   cases h
  cases h
theorem result_rel{μ:Emb}{l l':List Value}(h:LRel μ l l'):VRel μ (en l) (if h:l'.toArray.size=1 then l'.toArray[0] else .tuple l'.toArray):=by
 match l,l',h with
 | [],l',h=>
  have:=h.nil_left
  subst this
  exact .tuple _ _ V (fun i v v' h=>by simp at h)
 | [v],l',h=>
  obtain⟨v',t,rfl,A,z⟩:=h.cons_left
  have:=z.nil_left
  subst this
  exact A
 |v::u::r,l',h=>
  obtain⟨v',t,rfl,A,z⟩:=h.cons_left
  obtain⟨U,T,rfl,N,E⟩:=z.cons_left
  simp only[List.size_toArray,a0a,show ¬(T.length+1+1=1) by omega,dite_false]
  have:=LRel.cons A (LRel.cons N E)
  exact .tuple _ _ (by simpa[en] using this.1) (by simpa[en] using this.2)
theorem l6{μ:Emb}{s:St}{fn:Func}{a:Array Value}{w:World}(N:TRel μ s.tmps s.size a)(T:WRel μ s.heap w){l:List Value}(h:cT P s fn.results.toList=some l):
  ∃v',(results fn a).run P w= .ok v' w/\VRel μ (en l) v':=by
 obtain⟨l',A,z⟩:=gI (P:=P) N T _ l h
 refine⟨_,?_,result_rel z⟩
 unfold results
 rw[Array.mapM_eq_mapM_toList]
 simp only[Sem.run_bind,Sem.run_map]
 have e: ∀(r:Result (List Value)),r= .ok l' w->((r.andThen fun a w'=>(.ok a.toArray w':Result (Array Value))).andThen fun E w'=>((Pure.pure (if h:E.size=1 then E[0] else Value.tuple E):Sem Value).run P w'))=
   .ok (if h:l'.toArray.size=1 then l'.toArray[0] else .tuple l'.toArray) w:=by
  intro r z;subst z;rfl
 exact e _ A
theorem callC_ok{ex:Code->St->Option (Ex×St)}(U:ExOK P G ex):eh P G (mG P ex):=by
 intro f args H v H' h ag;unfold mG at h;split at h
 case h_2=>cases h
 rename_i fn Z;split at h
 case h_2=>cases h
 rename_i c hc;have T: ∀e s,(e=Ex.normal\/e=Ex.ret)->ex c {tmps:=eY 0 args .nil,size:=Nat.max args.length fn.ntmps,heap:=H}=some (e,s)->
   (match cT P s fn.results.toList with|some l=>some (en l,s.heap)|none=>none)=some (v,H')->Ext H H'/\
   ∀μ w (z:Array Value),LRel μ args z.toList->GRel μ G->WRel μ H w->(∀b,H.next<=b->b<H'.next->μ b=none)->
    Calls P f z w fun e w'=> ∃μ' v',e= .returned v'/\VRel μ' v v'/\Post μ H w μ' H' w':=by
  intro e s he N A
  split at A
  ·rename_i l hl;simp only[a00,a01]at A;obtain⟨rfl,rfl⟩:=A;obtain⟨ext,ai⟩:=U c _ e s N ag;refine⟨ext,fun μ w z ha hG hw hf=>?_⟩;refine calls_of_wp Z hc ?_;refine wp_mono (ai μ {tmps:=z++Array.replicate (fn.ntmps-z.size) undef,defers:=[]} w V (args_rel ha fn.ntmps) hG hw hf).wp ?_;rintro e2 a2 w2 ⟨rfl,hd,μ',hp,ht⟩;obtain⟨v',E,hr⟩:=l6 (P:=P) (fn:=fn) ht hp.wrel hl;rcases he with rfl|rfl
   ·exact⟨hd,v',E,μ',v',V,hr,hp⟩
   exact⟨hd,v',E,μ',v',V,hr,hp⟩
  cases A
 split at h
 ·rename_i s N;exact T .normal s (.inl V) N h
 ·rename_i s N;exact T .ret s (.inr V) N h
 cases h
def KnownOK(P:Program)(G:Nat)(K:bM):Prop:= ∀f args H v,K f args H=some v->args.all noA2=true/\noA2 v=true/\∀(μ:Emb) (z:Array Value) (w:World),z.toList=args->GRel μ G->WRel μ H w->
 Calls P f z w fun e w'=>e= .returned v/\Below w.heap.size w w'
theorem LRel.eq2{μ:Emb}{l l':List Value}(h:LRel μ l l')(z:l.all noA2=true):l'=l:=by
 induction l generalizing l' with
 |nil=>exact h.nil_left
 |cons v l ih=>
  obtain⟨v',N,rfl,E,A⟩:=h.cons_left
  simp only[a0J,a07]at z
  rw[E.eq2 z.1,ih A z.2]
theorem callK_ok{K:bM}{cf:cC}(hK:KnownOK P G K)(T:eh P G cf):eh P G (kR K cf):=by
 intro f args H v H' h ad;unfold kR at h;split at h
 ·rename_i u hu;simp only[a00,a01]at h;obtain⟨rfl,rfl⟩:=h;obtain⟨h1,h2,h3⟩:=hK f args H u hu;refine⟨Ext.refl _,fun μ w z ha hG N hf=>?_⟩;refine(h3 μ z w (ha.eq2 h1) hG N).mono ?_;rintro e w' ⟨rfl,hb⟩;refine⟨μ,u,V,VRel.refl2 h2,⟨fun _ _ h=>h,fun _ _ h=> .inl h,hb.size,hb.os,hb.tape,hb.output,fun c hc _=>hb.block c hc,fun b l o A E h6=> .inr ⟨b,l,o,A,E,h6,id,V⟩,⟨fun b l o A E=>?_,N.inj⟩⟩⟩;have Z:=N.obj b l o A E;exact Z.keep (fun _ _ h=>h) hb.size (fun U=>hb.block l.c (Z.lt U))
 exact T f args H v H' h ad
theorem exec_ok{K:bM}(z:KnownOK P G K): ∀n,ExOK P G (lE P G K n)
 |0=>fun c s e A h=>by cases h
 |n+1=>execC_ok (exec_ok z n) (callK_ok z (callC_ok (exec_ok z n)))
theorem call_ok{K:bM}(z:KnownOK P G K)(n:Nat):eh P G (call P G K n):=callK_ok z (callC_ok (exec_ok z n))
theorem none_ok:KnownOK P G noneKnown:=fun f args H v h=>by cases h
end
end Go.R
namespace Go.R
open Go.RowKit
open Go.WideShapes Go.ChangeShapes in
theorem l8{H:Type}{enc:TypeId×Value->H}{P:Program}{f:Func}{s:ChangeSpec}{N av ag ar:Bool}{W W':World}{args:Array Value}{v:Value}{ds gs:List (DataW H)}{z pa pv:List MemPlace}
  (hW:DataW.Whole enc P f.params.toList s.vars N W args.toList ds gs z)
  (ao: ∀(b:Nat) (E:Nat->Bool) (hd:Bool),DataW.TrodAll enc P W' b E hd f.resultTypes.toList (v.resultList f.resultTypes.size) (s.fn H (ds++gs)).results [])
  (T: ∀E:Nat->Bool,(∀p∈z,E p.block=true)->DataW.TrodAll enc P W' 0 E true f.params.toList args.toList (s.fn H (ds++gs)).args pa)
  (Z: ∀E:Nat->Bool,(∀p∈z,E p.block=true)->DataW.TrodVars enc P W' E s.vars (s.fn H (ds++gs)).vars pv)
  (U:z=pa++pv) (hb:Below W.heap.size W W')
  (a3: ∀(j:Nat) (t:TypeId) (r:Value),f.resultTypes[j]?=some t->(v.resultList f.resultTypes.size)[j]?=some r->Value.okWide P W' .any 0 t r):
  s.post enc P f N av ag ar W args v W':=by
 have an: ∀p∈z,(fun b=>decide (b<W.heap.size)) p.block=true:=fun p A=>by simpa using hW.lt p A
 have a2: ∀p∈z,p.block<W.heap.size:=fun p A=>by simpa using hW.lt p A
 refine⟨ds,gs,z,[],pa,pv,hW,ao _ _ _,T _ an,Z _ an,World.keptBut_mono (fun p A=>⟨A,?_⟩) (hb.frame (· ∈z)),fun _=>?_⟩
 ·rw[U,a08]at A;exact Or.inr A
 obtain⟨_,_,_,_,_,hz,hn⟩:=hW
 refine⟨a3,_,_,([]++pa)++pv,⟨[]++pa,pv,trodAll_append (T _ (fun _ _=>rfl)) (ao _ _ _),Z _ (fun _ _=>rfl),V,?_,?_⟩,?_⟩
 ·intro b off A;have ax:MemPlace.cell b off∈z:=by rw[U];simpa using A
  have h1:=hb.frozen (p:=⟨b,off,none⟩) (a2 _ ax);have h2:=hz b off ax;first|(rw[h1];exact h2)|(exact h1.trans h2)|(simp_all)
 ·intro ha;have:=hn ha;rw[U]at this;simpa using this
 intro p A _
 rw[U]
 simpa using A
end Go.R
noncomputable section
namespace Go.R
open Go.RowKit
section
variable {P:Program} {w:World} {base:Nat} {held:Bool} {enc:TypeId×Value->Unit}
def lit1(P:Program)(t:TypeId)(d:DataW Unit):Option Value:=
 match P.underlying t,d with
 |some .bool,.lit (.bool b)=>some (.bool b)
 |some (.int k),.lit (.int _ n)=>some (.int k n)
 |some .string,.lit (.string l)=>some (.string ⟨⟨l⟩⟩)
 |_,_=>none
theorem cells_lit1{N:Nat->Bool}{fuel:Nat}{t:TypeId}{cs:List Value}{d:DataW Unit}{p:List MemPlace}{v:Value}(h:DataW.trod enc P w base N held fuel t cs=some (d,p))(z:lit1 P t d=some v):cs=[v]:=by
 unfold lit1 at z;split at z
 ·rename_i E;obtain⟨b,rfl,A⟩:=DataW.trod_bool E h;simp only[a01,DataW.lit.injEq,Lit.bool.injEq]at A;injection z with z;subst z;rw[A.1]
 ·rename_i E;obtain⟨n,rfl,A,_⟩:=DataW.trod_int E h;simp only[a01,DataW.lit.injEq,Lit.int.injEq]at A;injection z with z;subst z;rw[A.1.2]
 ·rename_i E;obtain⟨s,rfl,A,_⟩:=DataW.trod_string E h;simp only[a01,DataW.lit.injEq,Lit.string.injEq]at A;injection z with z;subst z;rw[A.1]
 cases z
def flatFs(P:Program):Nat->List Field->Bool
 |_,[]=>true
 |i,f::fs=>Nat.beq f.offset i&&Nat.beq (P.cellsOf f.type) 1&&flatFs P (i+1) fs
theorem flatFs_at: ∀(fs:List Field) (i j:Nat) (f:Field),flatFs P i fs=true->fs[j]?=some f->f.offset=i+j/\P.cellsOf f.type=1
 | [],_,_,_,_,h=>by simp at h
 |g::fs,i,0,f,h,hf=>by simp only[flatFs,a07]at h;simp only[a0W,a00]at hf;subst hf;exact⟨a09 h.1.1,a09 h.1.2⟩
 |g::fs,i,j+1,f,h,hf=>by simp only[flatFs,a07]at h;have:=flatFs_at fs (i+1) j f h.2 (by simpa using hf);exact⟨by omega,this.2⟩
def litFs(P:Program):List Field->List (DataW Unit)->Option (List Value)
 | [],[]=>some []
 |f::fs,d::ds=>
  match lit1 P f.type d,litFs P fs ds with
  |some v,some l=>some (v::l)
  |_,_=>none
 |_,_=>none
theorem mr: ∀(fs:List Field) (ds:List (DataW Unit)) (l:List Value),litFs P fs ds=some l->l.length=fs.length/\ds.length=fs.length/\∀(i:Nat) f d,fs[i]?=some f->ds[i]?=some d->∃v,l[i]?=some v/\lit1 P f.type d=some v
 | [],[],l,h=>by simp only[litFs,a00]at h;subst h;exact⟨V,V,fun i f d h=>by simp at h⟩
 | [],_::_,l,h=>by cases h
 |_::_,[],l,h=>by cases h
 |f::fs,d::ds,l,h=>by
  simp only[litFs]at h;split at h
  ·rename_i v l1 Z U;injection h with h;subst h;obtain⟨E,N,T⟩:=mr fs ds l1 U;refine⟨by simp[E],by simp[N],fun i g e A z=>?_⟩;cases i with
   |zero=>simp only[a0W,a00]at A z;subst A z;exact⟨v,V,Z⟩
   |succ i=>exact T i g e (by simpa using A) (by simpa using z)
  cases h
theorem cells_struct{z:Nat->Bool}{fuel:Nat}{t:TypeId}{fs:Array Field}{cs:List Value}{N:List (DataW Unit)}{p:List MemPlace}{vs:List Value}(ht:P.underlying t=some (.struct fs))(ao:flatFs P 0 fs.toList=true)(hc:P.cellsOf t=fs.size)
  (h:DataW.trod enc P w base z held fuel t cs=some (.agg N,p)) (hv:litFs P fs.toList N=some vs):cs=vs:=by
 obtain⟨xs,n,_,hx,U,a5,T⟩:=DataW.trod_struct ht h
 simp only[a01,DataW.agg.injEq]at hx
 obtain⟨h1,h2,h3⟩:=mr _ _ _ hv
 have a1:=h1
 apply a1b
 intro i
 by_cases hi:i<fs.size
 ·have hf:fs[i]?=some fs[i]:=a0M hi;have A:fs.toList[i]?=some fs[i]:=by simp[hf]
  obtain⟨ho,ag⟩:=flatFs_at _ 0 i _ ao A;have hr:=T i _ hf;have E:xs[i]?=some (xs[i]'M):=a05 M;have al:N[i]?=some (xs[i]'M).1:=by rw[hx.1];simp[E]
  obtain⟨v,aw,ar⟩:=h3 i _ _ A al;rw[E]at hr;have ai:=cells_lit1 (p:=(xs[i]'M).2) hr ar;rw[aw];have Z:((cs.drop fs[i].offset).take (P.cellsOf fs[i].type))[0]?=some v:=by rw[ai];rfl
  rw[ag,ho,a0A,if_pos M,a0N]at Z;simpa using Z
 rw[a0L (by rw[U,hc];omega),a0L (by rw[h1];simpa using hi)]
def litRows(P:Program)(fs:List Field):List (DataW Unit)->Option (List (List Value))
 | []=>some []
 | .agg ds::r=>
  match litFs P fs ds,litRows P fs r with
  |some l,some m=>some (l::m)
  |_,_=>none
 |_::_=>none
theorem lp{fs:List Field}: ∀(ds:List (DataW Unit)) (m:List (List Value)),litRows P fs ds=some m->m.length=ds.length/\∀(i:Nat) l,m[i]?=some l->∃es,ds[i]?=some (.agg es)/\litFs P fs es=some l
 | [],m,h=>by simp only[litRows,a00]at h;subst h;exact⟨V,fun i l h=>by simp at h⟩
 |d::r,m,h=>by
  cases d<;>first|(cases h;done)|skip
  rename_i es;simp only[litRows]at h;split at h
  ·rename_i l m1 N T;injection h with h;subst h;obtain⟨A,E⟩:=lp r m1 T;refine⟨by simp[A],fun i l' z=>?_⟩;cases i with
   |zero=>simp only[a0W,a00]at z;subst z;exact⟨es,V,N⟩
   |succ i=>exact E i l' (by simpa using z)
  cases h
theorem cells?_at{a:Addr}: ∀{n:Nat} {l:List Value},w.cells? base a n=some l->∀i,i<n->l[i]?=w.cell? (a.add i)/\(w.cell? (a.add i)).isSome:=by
 intro n l h i hi;unfold World.cells? at h;split at h
 ·have key: ∀(r:List Nat) (l:List Value),r.mapM (fun i=>w.cell? (a.add i))=some l->∀(j:Nat) k,r[j]?=some k->l[j]?=w.cell? (a.add k)/\(w.cell? (a.add k)).isSome:=by
   intro r;induction r with
   |nil=>intro l _ j k z;simp at z
   |cons x r ih=>
    intro l A j k z
    simp only[a2l,Option.bind_eq_bind,Option.bind_eq_some_iff]at A
    obtain⟨v,E,m,N,A⟩:=A
    cases A
    cases j with
    |zero=>simp only[a0W,a00]at z;subst z;exact⟨by rw[E];rfl,by rw[E];rfl⟩
    |succ j=>exact ih m N j k (by simpa using z)
  exact key _ _ h i i (by rw[List.getElem?_range hi])
 cases h
theorem lA(k:Nat)(z:0<k): ∀(m:List (List Value)),(∀l∈m,l.length=k)->∀(i:Nat) v,m.flatten[i]?=some v->∃l,m[i/k]?=some l/\l[i%k]?=some v
 | [],_,i,v,h=>by simp at h
 |l::m,hm,i,v,h=>by
  have U:=hm l (a0G ..);rw[a0P]at h;by_cases hi:i<k
  ·rw[a0S M]at h;exact⟨l,by rw[Nat.div_eq_of_lt hi];rfl,by rw[Nat.mod_eq_of_lt hi];exact h⟩
  rw[a11 M,U]at h;obtain⟨l',N,T⟩:=lA k z m (fun x Z=>hm x (a0i _ Z)) (i-k) v h;have A:i/k=(i-k)/k+1:=by rw[Nat.div_eq_sub_div z M]
  have E:i%k=(i-k)%k:=by rw[Nat.mod_eq_sub_mod M]
  exact⟨l',by rw[A];exact N,by rw[E];exact T⟩
theorem cells_table{fuel:Nat}{t e:TypeId}{fs:Array Field}{cs:List Value}{E:List (DataW Unit)}{p:List MemPlace}{m:List (List Value)}(ht:P.underlying t=some (.slice e))(he:P.underlying e=some (.struct fs))(bz:flatFs P 0 fs.toList=true)
  (hc:P.cellsOf e=fs.size) (U:0<fs.size) (co:0<E.length) (h:DataW.trod enc P w base (fun _=>true) held fuel t cs=some (.slice E [],p)) (hv:litRows P fs.toList E=some m):
  ∃c o,cs=[.slice (some ⟨c,o,none⟩) E.length E.length]/\∀i v,m.flatten[i]?=some v->w.cell? ⟨c,o+i,none⟩=some v:=by
 rcases DataW.trod_slice ht h with⟨_,hx⟩|⟨a,len,N,A,a2,n,_,a7,hx,_,hl,_,ay,bl,b4,_⟩
 ·simp at hx
 simp only[a01,DataW.slice.injEq]at hx
 obtain⟨⟨hd,hr⟩,_⟩:=hx
 have c0:a2.length=0:=by have:=congrArg List.length hr;simpa using this.symm
 have b8:=(b4 V).1
 have bb:E.length=len:=by rw[hd];simpa using ay
 have a6:N=len:=M
 subst a6
 obtain⟨cv,b3⟩:=lp _ _ hv
 obtain⟨c,o,sp⟩:=a
 have cell: ∀j,j<N->∃l,m[j]?=some l/\l.length=fs.size/\∀q,q<fs.size->w.cell? ((Addr.mk c o sp).add (j *fs.size)|>.add q)=l[q]?/\(w.cell? ((Addr.mk c o sp).add (j *fs.size)|>.add q)).isSome:=by
  intro j Z;have ar:m[j]?=some (m[j]'M):=a05 M;obtain⟨es,bk,ao⟩:=b3 j _ ar;have hE:=bl j Z;rw[hc]at hE;have hy:A[j]?=some (A[j]'M):=a05 M;rw[hy]at hE;simp only[Option.bind_eq_some_iff]at hE;obtain⟨c1,a5,b6⟩:=hE;have a9:(A[j]'M).1= .agg es:=by
   have e0:E[j]?=some (A[j]'M).1:=by rw[show E[j]?=(List.map (fun x=>x.fst) A)[j]? from by rw[←hd],a1n,hy];rfl
   rw[bk]at e0;exact(Option.some.inj e0).symm
  have a0:=cells_struct (p:=(A[j]'M).2) he bz hc (by rw[b6,←a9]) ao;subst a0;refine⟨_,ar,(mr _ _ _ ao).1.trans (by simp),fun q hq=>?_⟩;have:=cells?_at a5 q hq;exact⟨this.1.symm,this.2⟩
 have a1:sp=none:=by
  obtain⟨l,_,_,h3⟩:=cell 0 M;have:=(h3 0 U).2;cases sp with
  |none=>rfl
  |some z=>
   exfalso
   simp only[Addr.add,World.cell?,if_true]at this
   split at this<;>simp at this
 subst a1
 refine⟨c,o,by rw[a7,bb],fun i v b0=>?_⟩
 have ax: ∀l∈m,l.length=fs.size:=by intro l hl;obtain⟨j,Z,rfl⟩:=a0K.1 hl;obtain⟨l',T,h2,_⟩:=cell j M;rw[a05 Z]at T;rw[Option.some.inj T];exact h2
 obtain⟨l,T,h2⟩:=lA fs.size U m ax i v b0
 have Z:i/fs.size<N:=by have:=(a0q.1 T).1;omega
 obtain⟨l',h3,h4,h5⟩:=cell _ Z
 rw[T]at h3
 obtain rfl:=Option.some.inj h3
 have h6:=(h5 (i%fs.size) (Nat.mod_lt _ U)).1
 rw[h2]at h6
 have e:o+i/fs.size *fs.size+i%fs.size=o+i:=by rw[a1w,Nat.mul_comm,Nat.div_add_mod]
 have ad: ∀x k:Nat,(Addr.mk c x none).add k=⟨c,x+k,none⟩:=by
  intro x k;unfold Addr.add;by_cases hk:k=0
  ·subst hk;rfl
  simp[hk]
 rw[ad,ad,e]at h6
 exact h6
end
theorem cN(n:Nat)(cells:List Value)(b:Nat):(tabHeap n cells).get b=if b=1 then some (.cells cells none true) else if b=0 then some (.cells [.slice (some ⟨1,0,none⟩) n n] none true) else none:=by
 show((Tr.nil.set 0 _).set 1 _).get b=_;by_cases A:b=1
 ·subst A;rw[if_pos V,Tr.get_set_same]
 rw[if_neg A,Tr.get_set_ne _ _ (Ne.symm A)];by_cases z:b=0
 ·subst z;rw[if_pos V,Tr.get_set_same]
 rw[if_neg z,Tr.get_set_ne _ _ (Ne.symm z)];rfl
theorem ble_pos(n:Nat)(h:Nat.ble 1 n=true):0<n:=a06 h
theorem jp{P:Program}{K:bM}(hK:KnownOK P 1 K){n m:Nat}{f:FuncId}{cells:List Value}(h:saysTrue (call P 1 K n f [] (tabHeap m cells))=true)(aw:cells.all noA0=true){w:World}{c o:Nat}
  (h0:w.cell? ⟨0,0,none⟩=some (.slice (some ⟨c,o,none⟩) m m)) (ay:cells≠ []) (h1: ∀i v,cells[i]?=some v->w.cell? ⟨c,o+i,none⟩=some v):
  Calls P f #[] w fun e w'=>e= .returned (.bool true)/\Below w.heap.size w w':=by
 have Z: ∀{a:Addr} {v:Value},w.cell? a=some v->a.block<w.heap.size:=by
  intro a v A;unfold World.cell? at A;split at A
  ·rename_i N;exact(a0C.1 N).1
  cases A
 revert h
 cases ax:call P 1 K n f [] (tabHeap m cells) with
 |none=>intro h;cases h
 |some r=>
  obtain⟨v,H'⟩:=r
  intro h
  have A:v= .bool true:=by
   unfold saysTrue at h;split at h
   ·rename_i N;simp only[a00,a01]at N;exact N.1
   cases h
  subst A
  have a0:WF (tabHeap m cells):=fun b T=>by have E:2<=b:=T;rw[cN,if_neg M,if_neg M]
  obtain⟨_,U⟩:=call_ok (G:=1) hK n f [] (tabHeap m cells) (.bool true) H' ax a0
  let μ:Emb:=fun b=>if b=1 then some ⟨c,o,none,0⟩ else if b=0 then some ⟨0,0,none,0⟩ else none
  have ad: ∀b x,(tabHeap m cells).get b=some x->x.rw=false:=by
   intro b x z;rw[cN]at z;split at z
   ·injection z with z;subst z;rfl
   split at z
   ·injection z with z;subst z;rfl
   cases z
  have ai:WRel μ (tabHeap m cells) w:=by
   refine⟨fun b l x T z=>?_,fun b1 b2 l1 l2 o1 o2 _ _ _ h3 _ h5 _=>?_⟩
   ·rw[cN]at z;by_cases e1:b=1
    ·subst e1;rw[if_pos rfl]at z;injection z with z;subst z;have E:l=⟨c,o,none,0⟩:=(Option.some.inj T).symm;subst E;refine⟨V,V,?_,fun i v A=>⟨v,h1 i v A,.atom v (a0y.1 aw v (a0n A))⟩⟩;cases cells with
     |nil=>exact absurd V ay
     |cons v r=>exact Z (h1 0 v V)
    rw[if_neg e1]at z;by_cases e0:b=0
    ·subst e0;rw[if_pos rfl]at z;injection z with z;subst z;have E:l=⟨0,0,none,0⟩:=(Option.some.inj T).symm;subst E;refine⟨V,V,Z h0,fun i v A=>?_⟩;cases i with
     |zero=>
      simp only[a0W,a00]at A;subst A
      exact⟨_,h0,.sliceC 1 0 m m ⟨c,o,none,0⟩ V V⟩
     |succ i=>simp at A
    rw[if_neg e0]at z;cases z
   rw[ad b1 o1 h3]at h5;cases h5
  refine(U μ w #[] LRel.nil (fun g hg=>?_) ai (fun b T _=>?_)).mono ?_
  ·have:g=0:=M
   subst this;exact⟨⟨0,0,none,0⟩,V,V,V⟩
  ·have E:2<=b:=T;show(if b=1 then _ else if b=0 then _ else none)=none;rw[if_neg M,if_neg M]
  rintro e w' ⟨μ',v',rfl,hr,hp⟩
  rw[hr.eq2 rfl]
  refine⟨V,hp.os,hp.tape,hp.out,hp.grow,fun k hk=>hp.keep k hk fun b l x _ z ag=>?_⟩
  rw[ad b x z]at ag;cases ag
end Go.R
end
namespace Go.R
def CfLe(cf cf':cC):Prop:= ∀f a H r,cf f a H=some r->cf' f a H=some r
def ExLe(ex z:Code->St->Option (Ex×St)):Prop:= ∀c s r,ex c s=some r->z c s=some r
section
variable {P:Program} {G:Nat} {cf cf':cC} {ops:Array Oper}
theorem step_mono(h:CfLe cf cf'){o:Oper}{s E:St}(hs:step P G cf ops o s=some E):step P G cf' ops o s=some E:=by
 unfold step at hs⊢;cases A:be ops o s.tmps with
 |false=>rw[A]at hs;exact hs
 |true=>
  rw[A]at hs
  cases z:o.op.operands.toList.all (bg G) with
  |false=>rw[z]at hs;cases hs
  |true=>
   rw[z]at hs
   simp only[cond_true]at hs⊢
   split at hs
   ·exact hs
   ·exact hs
   ·split at hs
    ·rename_i v N hc;rw[h _ _ _ _ hc];exact hs
    cases hs
   cases hs
theorem gH(h:CfLe cf cf'): ∀(l:List Oper) (s z:St),fS P G cf ops l s=some z->fS P G cf' ops l s=some z
 | [],_,_,hs=>hs
 |o::l,s,z,hs=>by
  rw[cg]at hs⊢;split at hs
  ·rename_i t A;rw[step_mono h A];exact gH h l _ _ hs
  cases hs
theorem stepD_mono(h:CfLe cf cf'){o:Oper}{s:St}{r:St×Inf}(hs:gA P G cf ops o s=some r):gA P G cf' ops o s=some r:=by
 unfold gA at hs⊢;split at hs
 ·rename_i t z;rw[step_mono h z];exact hs
 cases hs
theorem d9(h:CfLe cf cf'): ∀(l:List Oper) (i:Nat) (fs:List (Nat×Inf)) (s s':St),br P G cf ops i fs l s=some s'->br P G cf' ops i fs l s=some s'
 | [],_,_,_,_,hs=>by unfold br at hs⊢;exact hs
 |o::l,i,fs,s,s',hs=>by
  unfold br at hs⊢;split at hs
  ·rename_i t f A;rw[stepD_mono h A];simp only;cases z:ct ops (cr ops) i f fs with
   |false=>rw[z]at hs;cases hs
   |true=>rw[z]at hs;simp only[cond_true]at hs⊢;exact d9 h l _ _ _ _ hs
  cases hs
theorem kP(h:CfLe cf cf'){z:Bool}{s E:St}(hs:bY P G cf ops z s=some E):bY P G cf' ops z s=some E:=by
 unfold bY at hs⊢;cases z with
 |false=>exact gH h _ _ _ hs
 |true=>
  simp only[cond_true]at hs⊢
  cases A:aY ops&&P.follows .mixedOrders with
  |false=>rw[A]at hs;cases hs
  |true=>rw[A]at hs;simp only[cond_true]at hs⊢;exact d9 h _ _ _ _ _ hs
theorem gu{r E:Option (Ex×St)}{k A:St->Option (Ex×St)}(T: ∀x,r=some x->E=some x)(N: ∀s x,k s=some x->A s=some x){x:Ex×St}(h:gf r k=some x):gf E A=some x:=by
 cases z:r with
 |none=>rw[z]at h;cases h
 |some y=>
  rw[T y z]
  rw[z]at h
  obtain⟨e,s⟩:=y
  cases e with
  |normal=>exact N _ _ h
  |exit i=>exact h
  |ret=>exact h
theorem jd{id:Nat}{r A:Option (Ex×St)}(E: ∀x,r=some x->A=some x){x:Ex×St}(h:dh id r=some x):dh id A=some x:=by
 cases z:r with
 |none=>rw[z]at h;cases h
 |some y=>rw[E y z];rw[z]at h;exact h
theorem execC_mono(h:CfLe cf cf'){ex E:Code->St->Option (Ex×St)}(N:ExLe ex E)(c:Code): ∀(s:St) (x:Ex×St),eJ P G ex cf c s=some x->eJ P G E cf' c s=some x:=by
 induction c with
 |skip=>intro s x z;exact z
 |region id ops draw=>
  intro s x z
  rw[ge]at z⊢
  cases A:bY P G cf ops draw s with
  |none=>rw[A]at z;cases z
  |some t=>rw[kP h A];rw[A]at z;exact z
 |seq a b iha ihb=>
  intro s x z
  rw[ku]at z⊢
  exact gu (iha s) ihb z
 |cond c t e iht ihe=>
  intro s x z
  rw[iR]at z⊢
  cases A:bg G c with
  |false=>rw[A]at z;cases z
  |true=>
   rw[A]at z
   simp only[cond_true]at z⊢
   unfold lF at z⊢
   split at z
   ·rename_i b T;cases b with
    |true=>exact iht s x z
    |false=>exact ihe s x z
   cases z
 |block id b ih=>
  intro s x z
  rw[gS]at z⊢
  exact jd (ih s) z
 |loop b ih=>
  intro s x z
  rw[iQ]at z⊢
  exact gu (ih s) (N _) z
 |exit id=>intro s x z;exact z
 |ret=>intro s x z;exact z
 |_=>intro s x z;cases z
theorem lL{ex z:Code->St->Option (Ex×St)}(A:ExLe ex z):CfLe (mG P ex) (mG P z):=by
 intro f a H r h;unfold mG at h⊢;split at h
 ·split at h
  ·split at h
   ·rename_i s E;rw[A _ _ _ E];exact h
   ·rename_i s E;rw[A _ _ _ E];exact h
   cases h
  cases h
 cases h
theorem lK{K:bM}(h:CfLe cf cf'):CfLe (kR K cf) (kR K cf'):=by
 intro f a H r z;unfold kR at z⊢;split at z
 ·exact z
 exact h _ _ _ _ z
theorem ip{K:bM}: ∀n,ExLe (lE P G K n) (lE P G K (n+1))
 |0=>fun c s r h=>by cases h
 |n+1=>fun c s r h=>execC_mono (lK (lL (ip n))) (ip n) c s r h
theorem iq{K:bM}{n m:Nat}(h:n<=m):ExLe (lE P G K n) (lE P G K m):=by
 induction h with
 |refl=>exact fun _ _ _ h=>h
 |step _ ih=>exact fun c s r h=>ip _ c s r (ih c s r h)
theorem ef{K:bM}{n m:Nat}(h:n<=m):CfLe (call P G K n) (call P G K m):=lK (lL (iq h))
end
end Go.R
