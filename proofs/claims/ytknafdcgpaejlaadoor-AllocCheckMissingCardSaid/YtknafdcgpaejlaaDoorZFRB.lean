/-
The evaluator is sound: regions, code, calls, laws.
-/
import Derived.Test.YtknafdcgpaejlaaDoorZFRA
import Derived.Below
import Derived.ChangeSame
import Derived.ChangeArms
namespace Go.R
structure Ext(H H':Heap):Prop where
 next:H.next<=H'.next
 log: ∃d,H'.log=d++H.log/\∀b,b<H.next->b∉d->H'.get b=H.get b
 far: ∀b,H'.next<=b->H'.get b=H.get b
theorem Ext.refl(H:Heap):Ext H H:=⟨a0a _,⟨[],rfl,fun _ _ _=>rfl⟩,fun _ _=>rfl⟩
theorem Ext.trans{H H1 E:Heap}(h:Ext H H1)(k:Ext H1 E):Ext H E:=by
 obtain⟨N,U,Z⟩:=h.log;obtain⟨T,V,g2⟩:=k.log;refine⟨a0c h.next k.next,⟨T++N,by rw[V,U,a0o],fun b z A=>?_⟩,fun b z=>?_⟩
 ·rw[a07,not_or]at A;rw[g2 b (a0V z h.next) A.1,Z b z A.2]
 rw[k.far b z,h.far b (a0c k.next z)]
theorem Ext.push(H:Heap)(o:AObj):Ext H (H.push o):=by refine⟨by simp,⟨[],rfl,fun b z _=>Heap.get_push_ne H o (by omega)⟩,fun b z=>Heap.get_push_ne H o ?_⟩;simp at z;omega
theorem Ext.put{H:Heap}{b:Nat}(o:AObj)(A:b<H.next):Ext H (H.put b o):=by refine⟨a0a _,⟨[b],rfl,fun k _ z=>Heap.get_put_ne H o (fun e=>z (by simp[e]))⟩,fun k z=>Heap.get_put_ne H o ?_⟩;simp at z;omega
def WF(H:Heap):Prop:= ∀b,H.next<=b->H.get b=none
theorem WF.ext{H H':Heap}(h:WF H)(e:Ext H H'):WF H':=fun b z=>by rw[e.far b z];exact h b (a0c e.next z)
theorem WF.lt{H:Heap}(h:WF H){b:Nat}{o:AObj}(z:H.get b=some o):b<H.next:=by
 rcases a0k b H.next with hl|hl
 ·exact hl
 rw[h b hl]at z;cases z
section ext
variable {P:Program} {H H':Heap}
def ER(H:Heap){α:Type}(r:Option (α×Heap)):Prop:= ∀a H',r=some (a,H')->Ext H H'
theorem ER.none_{α:Type}:ER H (none:Option (α×Heap)):=fun _ _ h=>by cases h
theorem ER.some_{α:Type}{a:α}{H1:Heap}(h:Ext H H1):ER H (some (a,H1)):=fun _ _ e=>by injection e with e;injection e with _ e;subst e;exact h
theorem ER.same{α:Type}{a:α}:ER H (some (a,H)):=ER.some_ (Ext.refl H)
theorem ER.bif_{α:Type}{c:Bool}{x y:Option (α×Heap)}(h:ER H x)(k:ER H y):ER H (bif c then x else y):=by cases c<;>assumption
def EO(H:Heap)(r:Option Heap):Prop:= ∀H',r=some H'->Ext H H'
theorem EO.none_:EO H none:=fun _ h=>by cases h
theorem EO.some_{H1:Heap}(h:Ext H H1):EO H (some H1):=fun _ e=>by injection e with e;subst e;exact h
theorem EO.bif_{c:Bool}{x y:Option Heap}(h:EO H x)(k:EO H y):EO H (bif c then x else y):=by cases c<;>assumption
theorem ER.ovl_(r:Option Value):ER H (ovl r H):=by unfold ovl;split;exact ER.same;exact ER.none_
theorem ER.ovh_{r:Option (Value×Heap)}(h:ER H r):ER H (ovh r):=by
 unfold ovh;split
 ·rename_i v z;exact ER.some_ (h v z rfl)
 exact ER.none_
theorem ER.osk_{r:Option Heap}(h:EO H r):ER H (osk r):=by
 unfold osk;split
 ·rename_i z;exact ER.some_ (h z rfl)
 exact ER.none_
theorem ER.lift_(s:Sem Value):ER H (lift P s H):=by unfold lift;split;exact ER.same;exact ER.none_
theorem ER.plain_(ρ:Operand->Value)(o:Oper):ER H (bw P ρ o H):=by
 unfold bw;refine ER.bif_ ?_ ER.none_;split
 ·exact ER.bif_ ER.same ER.none_
 exact ER.none_
theorem ia(A:WF H)(a:Addr)(E:List Value):EO H (H.storeL a E):=by
 unfold Heap.storeL;split
 ·split
  ·rename_i z;exact EO.bif_ (EO.some_ (Ext.put _ (A.lt z))) EO.none_
  exact EO.none_
 exact EO.none_
theorem append_ext(A:WF H)(types:Array TypeId)(s x:Value):ER H (fg P types s x H):=by
 unfold fg;split
 case h_2=>exact ER.none_
 split
 case h_2=>exact ER.none_
 split
 ·exact ER.none_
 split
 case h_2=>exact ER.none_
 split
 ·exact ER.none_
 split
 ·exact ER.bif_ ER.same (ER.bif_ (ER.some_ (Ext.push _ _)) ER.none_)
 ·split
  ·rename_i N;refine ER.bif_ (ER.bif_ ER.same ?_) (ER.bif_ ?_ ER.none_)
   ·split
    ·rename_i E z;exact ER.some_ (ia A _ _ E z)
    exact ER.none_
   split
   ·exact ER.none_
   split
   ·exact ER.some_ (Ext.push _ _)
   exact ER.bif_ (ER.some_ ((Ext.put .dead (A.lt N)).trans (Ext.push _ _))) ER.none_
  exact ER.none_
 exact ER.none_
theorem copy_ext(E:WF H)(types:Array TypeId)(d s:Value):ER H (lY P types d s H):=by
 unfold lY;split
 case h_2=>exact ER.none_
 split
 case h_2=>exact ER.none_
 split
 case h_2=>exact ER.none_
 refine ER.bif_ ER.same ?_;split
 ·split
  ·rename_i A z;exact ER.some_ (ia E _ _ A z)
  exact ER.none_
 exact ER.none_
theorem km(A:WF H)(t:TypeId)(m k v:Value):EO H (eD P t m k v H):=by
 unfold eD;split
 ·split
  ·split
   ·rename_i z;exact EO.bif_ (EO.some_ (Ext.put _ (A.lt z))) EO.none_
   exact EO.none_
  exact EO.none_
 exact EO.none_
theorem aop_er(z:WF H)(ρ:Operand->Value)(o:Oper):ER H (aop P ρ o H):=by
 unfold aop;split
 ·exact ER.same
 ·exact ER.same
 ·unfold fw;split;exact ER.same;exact ER.none_
 ·unfold ec;split;exact ER.some_ (Ext.push _ _);exact ER.none_
 ·exact ER.some_ (Ext.push _ _)
 ·unfold gt;split;exact ER.lift_ _;exact ER.none_
 ·unfold bH;split
  ·refine ER.bif_ ?_ ER.none_;split
   ·exact ER.some_ (Ext.push _ _)
   exact ER.none_
  exact ER.none_
 ·unfold dU;split;exact ER.ovl_ _;exact ER.none_
 ·unfold gr;split
  ·split
   ·exact ER.bif_ (ER.osk_ (ia z _ _)) ER.none_
   exact ER.none_
  exact ER.none_
 ·unfold opNil;split;exact ER.same;exact ER.same;exact ER.none_
 ·unfold aBin;split
  ·unfold binInt;split;exact ER.ovl_ _;exact ER.none_
  ·unfold binStr;split;exact ER.ovl_ _;exact ER.none_
  unfold lP;split
  ·exact ER.plain_ _ _
  ·exact ER.plain_ _ _
  intro a H' h;rw[(ii h).1];exact Ext.refl _
 ·unfold fe;split;exact ER.ovl_ _;exact ER.ovl_ _;exact ER.plain_ _ _
 ·exact ER.same
 ·exact ER.some_ (Ext.push _ _)
 ·refine ER.ovh_ ?_;unfold aMake;split
  ·split
   ·exact ER.bif_ (ER.some_ (Ext.push _ _)) ER.none_
   exact ER.none_
  exact ER.none_
 ·exact ER.ovl_ _
 ·exact ER.ovl_ _
 ·exact ER.ovl_ _
 ·exact ER.ovl_ _
 ·unfold j5;split;exact ER.ovl_ _;exact ER.lift_ _
 ·exact ER.ovl_ _
 ·exact ER.osk_ (km z _ _ _ _)
 ·exact ER.osk_ (km z _ _ _ _)
 ·refine ER.ovh_ ?_;unfold aRange;split;exact ER.some_ (Ext.push _ _);exact ER.none_
 ·refine ER.ovh_ ?_;unfold aNext;split
  ·split
   ·rename_i A;exact ER.bif_ (ER.some_ (Ext.put _ (z.lt A))) ER.same
   exact ER.none_
  exact ER.none_
 ·exact ER.ovl_ _
 ·unfold opCall;split
  ·unfold lZ;split
   ·unfold bLen;split;exact ER.ovl_ _;exact ER.none_
   ·unfold bAppend;split;exact ER.ovh_ (append_ext z _ _ _);exact ER.none_
   ·unfold bCopy;split;exact ER.ovh_ (copy_ext z _ _ _);exact ER.none_
   ·exact ER.plain_ _ _
   ·exact ER.plain_ _ _
   exact ER.none_
  ·unfold eY;split;exact ER.same;exact ER.none_
  exact ER.none_
 ·unfold aUn;split
  ·split;exact ER.same;exact ER.none_
  exact ER.plain_ _ _
 exact ER.none_
theorem lT(z:WF H){ρ:Operand->Value}{o:Oper}{r:AN}(h:aop P ρ o H=some (r,H')):Ext H H':=aop_er z ρ o r H' h
end ext
section
variable {P:Program} {μ:Emb} {H H':Heap} {w:World}
theorem two_of{l:List Value}{a b:Value}{z:Array Value}(h:LRel μ l z.toList)(he:l=[a,b]): ∃A E,z= #[A,E]/\VRel μ a A/\VRel μ b E:=by subst he;obtain⟨A,t,T,V,ht⟩:=h.cons_left;obtain⟨E,t2,U,Z,N⟩:=ht.cons_left;have:=N.nil_left;subst this U;exact⟨A,E,a1d.1 (by rw[T]),V,Z⟩
theorem one_of{l:List Value}{a:Value}{z:Array Value}(h:LRel μ l z.toList)(T:l=[a]): ∃A,z= #[A]/\VRel μ a A:=by subst T;obtain⟨A,t,E,N,U⟩:=h.cons_left;have:=U.nil_left;subst this;exact⟨A,a1d.1 (by rw[E]),N⟩
theorem OpOK.of_value{s:Sem Next}{v v':Value}(h: ∀w,s.run P w= .ok (.value v') w)(A:WRel μ H w)(z:VRel μ v v'):OpOK P μ H w s (.val v) H:=
 ⟨.value v',w,μ,h w,Post.refl A,z⟩
theorem eX{ρ ρ':Operand->Value}{x:Option Operand}(h: ∀y,x=some y->VRel μ (ρ y) (ρ' y)):
  (∀v,x.map ρ=some v->∃v',x.map ρ'=some v'/\VRel μ v v')/\(x.map ρ=none->x.map ρ'=none):=by
 cases x with
 |none=>exact⟨fun v z=>by simp at z,fun _=>rfl⟩
 |some y=>exact⟨fun v z=>by simp at z;subst z;exact⟨_,rfl,h y rfl⟩,fun A=>by simp at A⟩
set_option maxHeartbeats 4000000 in
theorem hJ{ρ ρ':Operand->Value}{o:Oper}{r:AN}(T: ∀x∈o.op.operands,VRel μ (ρ x) (ρ' x))(U:WRel μ H w)
  (hf: ∀b,H.next<=b->b<H'.next->μ b=none) (h:aop P ρ o H=some (r,H')):OpOK P μ H w (execOp ρ' o) r H':=by
 cases hk:aX o.op with
 |true=>
  obtain⟨rfl,v,v',rfl,A,hr⟩:=ju hk T h
  exact OpOK.of_value A U hr
 |false=>
  obtain⟨al,op,type,pos,after,V⟩:=o
  cases op<;>simp only[aX,reduceCtorEq]at hk
  case alloc e=>
   have E:ec P e H=some (r,H'):=h
   have:=alloc_sound U hf E
   exact this
  case box e x=>
   have E:some (AN.val (ptrTo H.next),aP H (ρ x).cells.toList none)=some (r,H'):=h
   simp only[a00,a03]at E
   obtain⟨rfl,rfl⟩:=E
   have:=box_sound (P:=P) (e:=e) U (hf H.next (a0a _) (by simp[aP])) (T x (by simp[Op.operands]))
   exact this
  case buildSlice t n parts=>
   have E:bH P t n (eO (fun p=>(p.1,ρ p.2)) parts.toList) H=some (r,H'):=h
   rw[jL]at E
   have:=iY (ps':=parts.map fun(i,x)=>(i,ρ' x)) U hf (by simp) (fun i x x' h1 h2=>?_) E
   ·exact this
   simp only[Array.toList_map,a1h,a21]at h1 h2
   obtain⟨y,hy,rfl⟩:=h1
   obtain⟨z,hz,rfl⟩:=h2
   rw[hy]at hz;injection hz with hz;subst hz
   refine⟨rfl,T _ ?_⟩
   have:=a0l hy
   simp only[Op.operands,List.mem_toArray,a0s]
   exact⟨y,this,rfl⟩
  case load t a=>
   have E:dU P t (ρ a) H=some (r,H'):=h
   have:=load_sound U (T a (by simp[Op.operands])) E
   exact this
  case store t a x=>
   have E:gr P t (ρ a) (ρ x) H=some (r,H'):=h
   have:=store_sound U (T a (by simp[Op.operands])) (T x (by simp[Op.operands])) E
   exact this
  case convert s d x=>
   have E:fe P ρ ⟨al,.convert s d x,type,pos,after,V⟩ s d (ρ x) H=some (r,H'):=h
   exact lG (o:=⟨al,.convert s d x,type,pos,after,V⟩) U rfl T E
  case makeMap t rsv=>
   cases rsv with
   |some _=>simp[aop]at h
   |none=>
    have E:some (AN.val (.map (some H.next)),H.push (.tab []))=some (r,H'):=h
    simp only[a00,a03]at E
    obtain⟨rfl,rfl⟩:=E
    have:=lC (P:=P) t U (hf H.next (a0a _) (by simp))
    exact this
  case makeSlice t l c=>
   have E:ovh (aMake P t (ρ l) (ρ c) H)=some (r,H'):=h
   have:=make_sound U hf (T l (by simp[Op.operands])) (T c (by simp[Op.operands])) E
   exact this
  case slice t x lo hi mx=>
   obtain⟨a1,a2⟩:=eX (μ:=μ) (ρ:=ρ) (ρ':=ρ') (x:=lo) fun y hy=>T y (by subst hy;simp[Op.operands])
   obtain⟨b1,b2⟩:=eX (μ:=μ) (ρ:=ρ) (ρ':=ρ') (x:=hi) fun y hy=>T y (by subst hy;simp[Op.operands])
   obtain⟨_,c2⟩:=eX (μ:=μ) (ρ:=ρ) (ρ':=ρ') (x:=mx) fun y hy=>T y (by subst hy;simp[Op.operands])
   have E:ovl (bx P t (ρ x) (lo.map ρ) (hi.map ρ) (mx.map ρ) H) H=some (r,H'):=h
   have:=slice_sound U (T x (by simp[Op.operands])) a1 a2 b1 b2 c2 E
   exact this
  case lookup t m k ok=>
   have E:ovl (gC P t (ρ m) (ρ k) ok H) H=some (r,H'):=h
   obtain⟨rfl,v,hv,rfl⟩:=cd E
   obtain⟨v',A,hr⟩:=lookup_sound (P:=P) U (T m (by simp[Op.operands])) (T k (by simp[Op.operands])) hv
   have:=OpOK.value A (Post.refl U) hr
   exact this
  case mapUpdate t m k x=>
   have E:osk (eD P t (ρ m) (ρ k) (ρ x) H)=some (r,H'):=h
   obtain⟨hu,rfl⟩:=osk_inv E
   obtain⟨w',A,hp⟩:=iC (P:=P) U (T m (by simp[Op.operands])) (T k (by simp[Op.operands])) (T x (by simp[Op.operands])) hu
   have:=OpOK.skip A hp
   exact this
  case insert t m k x=>
   have E:osk (eD P t (ρ m) (ρ k) (ρ x) H)=some (r,H'):=h
   obtain⟨hu,rfl⟩:=osk_inv E
   obtain⟨w',A,hp⟩:=iC (P:=P) U (T m (by simp[Op.operands])) (T k (by simp[Op.operands])) (T x (by simp[Op.operands])) hu
   have:=OpOK.skip A hp
   exact this
  case range t x=>
   have E:ovh (aRange P t (ρ x) H)=some (r,H'):=h
   have:=range_sound U hf (T x (by simp[Op.operands])) E
   exact this
  case next it isS=>
   cases isS with
   |false=>simp[aop]at h
   |true=>
    have E:ovh (aNext H (ρ it))=some (r,H'):=h
    have:=next_sound (P:=P) (type:=type) U (T it (by simp[Op.operands])) E
    exact this
  case call c=>
   obtain⟨ad,args,N⟩:=c
   have Z:LRel μ (eO ρ args.toList) (args.map ρ').toList:=by
    rw[jL];have:=jm (μ:=μ) (ops:=args) (ρ:=ρ) (ρ':=ρ') fun x hx=>T x (by simp[Op.operands,Call.operands];exact .inr hx)
    simpa using this
   have h:opCall P ρ ⟨al,.call ⟨ad,args,N⟩,type,pos,after,V⟩ ⟨ad,args,N⟩ H=some (r,H'):=h
   unfold opCall at h
   cases ad with
   |invoke rv nm=>simp at h
   |value f=>
    simp only at h
    unfold eY at h
    split at h
    ·rename_i n hn;simp only[a00,a03]at h;obtain⟨rfl,rfl⟩:=h;obtain⟨i,bz,rfl,a4,A,hr⟩:=callee_sound (P:=P) (T f (by simp[Op.operands,Call.operands])) Z hn;refine⟨.enter i a4,w,μ,?_,Post.refl U,rfl,hr⟩;have:=A w;simpa only[execOp,resolve] using this
    cases h
   |builtin b=>
    simp only at h
    unfold lZ at h
    have an:bw P ρ ⟨al,.call ⟨.builtin b,args,N⟩,type,pos,after,V⟩ H=some (r,H')->OpOK P μ H w (execOp ρ' ⟨al,.call ⟨.builtin b,args,N⟩,type,pos,after,V⟩) r H':=by intro hp;obtain⟨rfl,v,v',rfl,A,hr⟩:=df hp (fun _ _=>by simp) T;exact OpOK.of_value A U hr
    split at h
    ·--len
     unfold bLen at h;split at h
     ·rename_i t x ht hx;obtain⟨x',ao,a3⟩:=one_of Z hx;obtain⟨rfl,v,hv,rfl⟩:=cd h;obtain⟨A,hn⟩:=len_sound (P:=P) (ty:=type) U a3 hv;have ay:N= #[t]:=a1d.1 (by rw[ht]);refine⟨.value v,w,μ,?_,Post.refl U,.atom v hn⟩;simp only[execOp,resolve,Sem.run_bind,Sem.run_pure,Result.andThen_ok,invoke,builtin,ao,ay,A]
     cases h
    ·unfold bAppend at h;split at h
     ·rename_i t1 t2 s x ht hx;obtain⟨s',x',ao,a0,a3⟩:=two_of Z hx;obtain⟨v,hv,rfl⟩:=jF h;have ay:N= #[t1,t2]:=a1d.1 (by rw[ht]);obtain⟨v',w',μ',A,hp,hr⟩:=append_sound (P:=P) (ty:=type) U hf a0 a3 (by rw[ay];rfl) hv;refine⟨.value v',w',μ',?_,hp,hr⟩;simp only[execOp,resolve,Sem.run_bind,Sem.run_pure,Result.andThen_ok,invoke,builtin,ao,A]
     cases h
    ·unfold bCopy at h;split at h
     ·rename_i d s hx;obtain⟨d',s',ao,be,a0⟩:=two_of Z hx;obtain⟨v,hv,rfl⟩:=jF h;obtain⟨v',w',A,hp,hr⟩:=copy_sound (P:=P) (ty:=type) U be a0 hv;refine⟨.value v',w',μ,?_,hp,hr⟩;simp only[execOp,resolve,Sem.run_bind,Sem.run_pure,Result.andThen_ok,invoke,builtin,ao,A]
     cases h
    ·exact an h
    ·exact an h
    cases h
  all_goals simp[aop]at h
end
end Go.R
namespace Go.R
@[simp] theorem lget_nil(i:Nat):cC .nil i=undef:=rfl
@[simp] theorem lget_lset_same(t:Tr Value)(d:Nat)(v:Value):cC (lset t d v) d=v:=by simp[cC,lset]
theorem lget_lset_ne(t:Tr Value){d k:Nat}(v:Value)(h:d≠k):cC (lset t d v) k=cC t k:=by simp[cC,lset,Tr.get_set_ne _ _ h]
theorem fA(t:Tr Value)(d k:Nat)(v:Value):cC (lset t d v) k=if d=k then v else cC t k:=by
 by_cases h:d=k
 ·subst h;simp
 rw[if_neg h,lget_lset_ne t v h]
def TRel(μ:Emb)(t:Tr Value)(n:Nat)(a:Array Value):Prop:=a.size=n/\∀i,VRel μ (cC t i) (a.getD i undef)
def GRel(μ:Emb)(G:Nat):Prop:= ∀g,g<G->∃l,μ g=some l/\l.c=g/\l.sh=0
section
variable {P:Program} {G:Nat} {μ μ':Emb}
theorem TRel.mono(h: ∀b l,μ b=some l->μ' b=some l){t:Tr Value}{n:Nat}{a:Array Value}(z:TRel μ t n a):TRel μ' t n a:=⟨z.1,fun i=>(z.2 i).mono h⟩
theorem GRel.mono(h: ∀b l,μ b=some l->μ' b=some l)(T:GRel μ G):GRel μ' G:=fun g z=>by obtain⟨l,A,E,N⟩:=T g z;exact⟨l,h _ _ A,E,N⟩
theorem getD_set(a:Array Value)(d i:Nat)(v:Value):(a.setIfInBounds d v).getD i undef=if d=i/\d<a.size then v else a.getD i undef:=by
 simp only[a0U,a1c];by_cases h:d=i
 ·subst h;by_cases z:d<a.size
  ·simp[z]
  simp[z]
 simp[h]
theorem TRel.put{t:Tr Value}{n:Nat}{a:Array Value}(h:TRel μ t n a){d:Nat}(z:d<n){v v':Value}(A:VRel μ v v'):TRel μ (lset t d v) n (a.setIfInBounds d v'):=by
 refine⟨by simp[h.1],fun i=>?_⟩;rw[fA,getD_set];by_cases hi:d=i
 ·rw[if_pos hi,if_pos ⟨hi,by rw[h.1];exact z⟩];exact A
 rw[if_neg hi,if_neg (fun e=>hi e.1)];exact h.2 i
theorem eval_of(T:GRel μ G){tm:Tr Value}{a:Act}{x:Operand}(z:bC G x=true)(h: ∀t,x= .tmp t->VRel μ (cC tm t) (a.tmps.getD t undef)):
  VRel μ (cP tm x) (a.eval x):=by
 cases x with
 |tmp t=>exact h t rfl
 |const v=>exact VRel.refl2 z
 |global g=>
  obtain⟨l,A,E,N⟩:=T g (a06 z)
  have:=VRel.ptr (μ:=μ) g 0 l A
  rw[E,N]at this;exact this
 |func f=>exact .atom _ rfl
theorem yield_eq{ops:Array Oper}{tm:Tr Value}{a:Array Value}{j:Nat}(h: ∀d,(ops[j]?).bind (·.dst)=some d->VRel μ (cC tm d) (a.getD d undef)):
  ke ops tm j=yielded ops a j:=by
 unfold ke yielded
 cases N:(ops[j]?).bind (·.dst) with
 |none=>rfl
 |some d=>
  have z:=h d N
  simp only[a0q]
  simp only[a0U]at z
  cases E:a[d]? with
  |none=>
   rw[E]at z
   simp only[Option.getD_none]at z
   have: ∀b,cC tm d≠ .bool b:=by intro b e;rw[e]at z;have:=z.bool_inv;cases this
   cases A:cC tm d<;>first|rfl|exact absurd A (this _)
  |some x=>
   rw[E]at z
   simp only[a0C]at z
   cases x with
   |bool b=>
    have:cC tm d= .bool b:=by generalize cC tm d=y at z;cases z;rfl
    rw[this]
   |_=>
    have: ∀b,cC tm d≠ .bool b:=by intro b e;rw[e]at z;have:=z.bool_inv;cases this
    cases A:cC tm d<;>first|rfl|exact absurd A (this _)
theorem wanted_eq{ops:Array Oper}{o:Oper}{tm:Tr Value}{a:Array Value}(h: ∀j w,o.guard=some (j,w)->∀d,(ops[j]?).bind (·.dst)=some d->VRel μ (cC tm d) (a.getD d undef)):
  bd ops o tm=Region.wanted o (yielded ops a):=by
 unfold bd Region.wanted
 cases z:o.guard with
 |none=>rfl
 |some p=>
  obtain⟨j,w⟩:=p
  simp only
  rw[yield_eq (h j w z)]
def dM(P:Program)(G:Nat)(cf:cj):Prop:= ∀f args H v H',cf f args H=some (v,H')->WF H->Ext H H'/\
 ∀μ w (cargs:Array Value),LRel μ args cargs.toList->GRel μ G->WRel μ H w->(∀b,H.next<=b->b<H'.next->μ b=none)->
  Calls P f cargs w fun e w'=> ∃μ' v',e= .returned v'/\VRel μ' v v'/\Post μ H w μ' H' w'
noncomputable def dV (P : Program) (cf : cj) (ρ : Operand -> Value) (o : Oper) (H : Heap) : Option (Value × Heap) :=
 match aop P ρ o H with
 |some (.val v,h)=>some (v,h)
 |some (.skip,h)=>some (undef,h)
 |some (.enter f args,h)=>cf f args h
 |none=>none
theorem step_eq(cf:cj)(ops:Array Oper)(o:Oper)(s:St):step P G cf ops o s=
  bif bd ops o s.tmps then
   bif o.op.operands.toList.all (bC G) then
    match dV P cf (cP s.tmps) o s.heap with
    |some (v,h)=>{s with heap:=h}.put o.dst v
    |none=>none
   else none
  else s.put o.dst undef:=by
 unfold step dV
 cases bd ops o s.tmps with
 |false=>rfl
 |true=>
  cases o.op.operands.toList.all (bC G) with
  |false=>rfl
  |true=>
   simp only[cond_true]
   cases aop P (cP s.tmps) o s.heap with
   |none=>rfl
   |some p=>
    obtain⟨r,h⟩:=p
    cases r with
    |val v=>rfl
    |skip=>rfl
    |enter f args=>
     simp only
     cases cf f args h with
     |none=>rfl
     |some q=>rfl
theorem gp{s A:St}{z:Option Tmp}{v:Value}(h:s.put z v=some A):
  A.size=s.size/\A.heap=s.heap/\((z=none/\A.tmps=s.tmps)\/∃d,z=some d/\d<s.size/\A.tmps=lset s.tmps d v):=by
 unfold St.put at h
 split at h
 ·rename_i d;cases E:Nat.ble (d+1) s.size with
  |false=>rw[E]at h;cases h
  |true=>
   rw[E]at h;simp only[cond_true,a00]at h;subst h
   exact⟨rfl,rfl,.inr ⟨d,rfl,a06 E,rfl⟩⟩
 injection h with h;subst h;exact⟨rfl,rfl,.inl ⟨rfl,rfl⟩⟩
theorem kN{cf:cj}(T:dM P G cf){ρ:Operand->Value}{o:Oper}{H H':Heap}{v:Value}(A:WF H)(h:dV P cf ρ o H=some (v,H')):Ext H H':=by
 unfold dV at h;split at h
 ·rename_i u E z;simp only[a00,a03]at h;rw[←h.2];exact lT A z
 ·rename_i E z;simp only[a00,a03]at h;rw[←h.2];exact lT A z
 ·rename_i f args E z;have N:=lT A z;exact N.trans (T f args E v H' h (A.ext N)).1
 cases h
theorem iL{cf:cj}(ay:dM P G cf){ρ:Operand->Value}{o:Oper}{a:Act}{H H':Heap}{v:Value}{w:World}(al:WF H)(hρ: ∀x∈o.op.operands,VRel μ (ρ x) (a.eval x))
  (hG:GRel μ G) (hw:WRel μ H w) (hf: ∀b,H.next<=b->b<H'.next->μ b=none) (h:dV P cf ρ o H=some (v,H')) {K:Act->World->Prop} {Q:Exit->Act->World->Prop}
  (hK: ∀μ' w' v',Post μ H w μ' H' w'->VRel μ' v v'->K (a.put o.dst v') w'):o.wp P a w K Q:=by
 unfold dV at h
 unfold Oper.wp
 split at h
 ·rename_i u h1 N;simp only[a00,a03]at h;obtain⟨rfl,rfl⟩:=h;obtain⟨n,Z,T,z,A,E⟩:=hJ hρ hw hf N;rw[z];cases n<;>first|exact hK T Z _ A E|exact E.elim
 ·rename_i h1 N;simp only[a00,a03]at h;obtain⟨rfl,rfl⟩:=h;obtain⟨n,Z,T,z,A,E⟩:=hJ hρ hw hf N;rw[z];cases n<;>first|exact hK T Z _ A VRel.undef|exact E.elim
 ·rename_i f args h1 N;have e1:=lT al N;obtain⟨e2,ag⟩:=ay f args h1 v H' h (al.ext e1);obtain⟨n,Z,T,z,A,E⟩:=hJ hρ hw (fun b U V=>hf b U (a0V V e2.next)) N;rw[z];cases n with
  |enter f' cargs=>
   obtain⟨rfl,ad⟩:=E
   rw[Oper.upon_enter]
   refine(ag T Z cargs ad (hG.mono A.ext) A.wrel (fun b U V=>?_)).mono ?_
   ·cases hb:T b with
    |none=>rfl
    |some l=>
     rcases A.dom b l hb with hb0|⟨_,hb3⟩
     ·rw[hf b (a0c e1.next U) V]at hb0;cases hb0
     omega
   rintro e w2 ⟨μ2,v',rfl,hv,hp2⟩
   exact hK μ2 w2 v' (A.trans hp2 e1.next e2.next) hv
  |_=>exact E.elim
 cases h
theorem i7{cf:cj}(A:dM P G cf){ops:Array Oper}{o:Oper}{s N:St}(U:WF s.heap)(h:step P G cf ops o s=some N):Ext s.heap N.heap:=by
 rw[step_eq]at h;cases E:bd ops o s.tmps with
 |false=>rw[E]at h;rw[(gp h).2.1];exact Ext.refl _
 |true=>
  rw[E]at h
  cases z:o.op.operands.toList.all (bC G) with
  |false=>rw[z]at h;cases h
  |true=>
   rw[z]at h
   simp only[cond_true]at h
   split at h
   ·rename_i v V T;rw[(gp h).2.1];exact kN A U T
   cases h
theorem eC(a:Act)(z:Option Tmp)(v:Value):(a.put z v).defers=a.defers:=by cases z<;>rfl
theorem put_rel{s E:St}{z:Option Tmp}{v v':Value}{a:Act}(h:s.put z v=some E)(T:TRel μ s.tmps s.size a.tmps)(V:VRel μ v v'):
  TRel μ E.tmps E.size (a.put z v').tmps:=by
 obtain⟨N,_,⟨rfl,A⟩|⟨d,rfl,U,A⟩⟩:=gp h
 ·rw[N,A];exact T
 rw[N,A];exact T.put U V
theorem step_sound{cf:cj}(ad:dM P G cf){ops:Array Oper}{i:Nat}{o:Oper}(ho:ops[i]?=some o){s E:St}{a:Act}{w:World}(ao:WF s.heap)(N:TRel μ s.tmps s.size a.tmps)
  (V:GRel μ G) (hw:WRel μ s.heap w) (hf: ∀b,s.heap.next<=b->b<E.heap.next->μ b=none) (h:step P G cf ops o s=some E) {K:Act->World->Prop} {Q:Exit->Act->World->Prop}
  (Z: ∀μ' w' U,Post μ s.heap w μ' E.heap w'->TRel μ' E.tmps E.size U.tmps->U.defers=a.defers->K U w'):wpOp P ops Q i K a w:=by
 unfold wpOp
 rw[ho]
 simp only
 have T:bd ops o s.tmps=Region.wanted o (yielded ops a.tmps):=wanted_eq (μ:=μ) fun _ _ _ d _=>N.2 d
 rw[step_eq,T]at h
 cases hq:Region.wanted o (yielded ops a.tmps) with
 |false=>
  rw[hq]at h
  simp only[cond_false]at h
  simp only[a0K,if_false]
  have z:=(gp h).2.1
  exact Z μ w _ (by rw[z];exact Post.refl hw) (put_rel h N VRel.undef) (eC _ _ _)
 |true=>
  rw[hq]at h
  simp only[if_true]
  left
  cases A:o.op.operands.toList.all (bC G) with
  |false=>rw[A]at h;cases h
  |true=>
   rw[A]at h
   simp only[cond_true]at h
   split at h
   ·rename_i v h1 he;have z:=(gp h).2.1;simp only at z;refine iL ad ao (fun x hx=>eval_of V (a0y.1 A x (by simpa using hx)) fun t _=>N.2 t) V hw (by rw[←z];exact hf) he ?_;intro μ' w' v' hp hv;have al:TRel μ' s.tmps s.size a.tmps:=N.mono hp.ext;exact Z μ' w' _ (by rw[z];exact hp) (put_rel (s:={s with heap:=h1}) h al hv) (eC _ _ _)
   cases h
theorem ig{cf:cj}(A:dM P G cf){ops:Array Oper}: ∀(l:List Oper) (s z:St),WF s.heap->fj P G cf ops l s=some z->Ext s.heap z.heap
 | [],s,z,_,h=>by rw[ie]at h;injection h with h;subst h;exact Ext.refl _
 |o::os,s,z,hw,h=>by
  rw[bW]at h;split at h
  ·rename_i T N;have E:=i7 A hw N;exact E.trans (ig A os T z (hw.ext E) h)
  cases h
theorem iE{cf:cj}(A:dM P G cf){ops:Array Oper}{Q:Exit->Act->World->Prop}: ∀(l:List Oper) (k:Nat) (s z:St),ops.toList.drop k=l->fj P G cf ops l s=some z->
  ∀(μ:Emb) (a:Act) (w:World),WF s.heap->TRel μ s.tmps s.size a.tmps->GRel μ G->WRel μ s.heap w->(∀b,s.heap.next<=b->b<z.heap.next->μ b=none)->
  (∀μ' w' Z,Post μ s.heap w μ' z.heap w'->TRel μ' z.tmps z.size Z.tmps->Z.defers=a.defers->Q .normal Z w')->wpOps P ops Q (List.range' k l.length) a w
 | [],k,s,z,_,h,μ,a,w,hwf,ht,hG,hw,hf,hQ=>by rw[ie]at h;injection h with h;subst h;simp only[a0f,List.range'_zero,wpOps];exact hQ μ w a (Post.refl hw) ht rfl
 |o::os,k,s,z,hd,h,μ,a,w,hwf,ht,hG,hw,hf,hQ=>by
  rw[bW]at h;split at h
  ·rename_i s1 h1;have T:=i7 A hwf h1;have e2:=ig A os s1 z (hwf.ext T) h;have hk:k<ops.toList.length:=by
    rcases a0k k ops.toList.length with hl|hl
    ·exact hl
    rw[a20 hl]at hd;cases hd
   have V:=a0T hk;rw[hd]at V;injection V with h2 h3;have ho:ops[k]?=some o:=by
    have:ops.toList[k]?=some o:=by rw[a05 hk,←h2]
    simpa using this
   simp only[a08,List.range'_succ];rw[wpOps_cons];refine step_sound A ho hwf ht hG hw (fun b E N=>hf b E (a0V N e2.next)) h1 ?_;intro μ1 w1 a1 U ar ai;refine iE A os (k+1) s1 z h3.symm h μ1 a1 w1 (hwf.ext T) ar (hG.mono U.ext) U.wrel (fun b E N=>?_) ?_
   ·cases hb:μ1 b with
    |none=>rfl
    |some l=>
     rcases U.dom b l hb with hb0|⟨_,hb3⟩
     ·rw[hf b (a0c T.next E) N]at hb0;cases hb0
     omega
   intro μ2 w2 a2 ao av al;exact hQ μ2 w2 a2 (U.trans ao T.next e2.next) av (al.trans ai)
  cases h
end
end Go.R
set_option linter.unusedVariables false
set_option linter.unusedSimpArgs false
namespace Go.R
def j9(l:List Nat)(o:Oper):Nat:=o.after.toList.foldl (fun s e=>bif Region.binds .any e then s|||2^e.on|||l.getD e.on 0 else s) 0
theorem gB: ∀(os:List Oper) (z:List Nat),∃t,ancs os z=z++t/\t.length=os.length
 | [],z=>⟨[],by simp[ancs],rfl⟩
 |o::os,z=>by obtain⟨t,h,A⟩:=gB os (z++[j9 z o]);refine⟨j9 z o::t,?_,by simp[A]⟩;show ancs os (z++[j9 z o])=_;rw[h];simp
theorem ancs_at: ∀(os:List Oper) (z:List Nat) (k:Nat) (o:Oper),os[k]?=some o->
  (ancs os z).getD (z.length+k) 0=j9 ((ancs os z).take (z.length+k)) o
 | [],z,k,o,h=>by simp at h
 |x::os,z,0,o,h=>by
  simp at h;subst h;obtain⟨t,h,_⟩:=gB os (z++[j9 z x]);have e:ancs (x::os) z=z++([j9 z x]++t):=by show ancs os (z++[j9 z x])=_;rw[h];simp
  rw[e];simp
 |x::os,z,k+1,o,h=>by have A:=ancs_at os (z++[j9 z x]) k o (by simpa using h);have e:ancs (x::os) z=ancs os (z++[j9 z x]):=rfl;rw[e];simp only[a04,a1b]at A;rw[show z.length+(k+1)=z.length+1+k by omega];exact A
theorem fold_bit(l:List Nat)(j:Nat): ∀(es:List Edge) (s:Nat),(es.foldl (fun s e=>bif Region.binds .any e then s|||2^e.on|||l.getD e.on 0 else s) s).testBit j=true->
  s.testBit j=true\/∃e∈es,Region.binds .any e=true/\(e.on=j\/(l.getD e.on 0).testBit j=true)
 | [],s,h=> .inl h
 |e::es,s,h=>by
  simp only[List.foldl_cons]at h;rcases fold_bit l j es _ h with h1|⟨e',he,h2⟩
  ·cases z:Region.binds .any e with
   |false=>rw[z]at h1;exact .inl h1
   |true=>
    rw[z]at h1
    simp only[cond_true,Nat.testBit_or,a0G]at h1
    rcases h1 with(h1|h1)|h1
    ·exact .inl h1
    ·rw[Nat.testBit_two_pow]at h1;exact .inr ⟨e,by simp,z,.inl (by simpa using h1)⟩
    exact .inr ⟨e,by simp,z,.inr h1⟩
  exact .inr ⟨e',by simp[he],h2⟩
theorem ordered_edge{ops:Array Oper}{j k:Nat}(h:bo (cg ops) j k=true):
  ∃o,ops[k]?=some o/\∃e∈o.after.toList,Region.binds .any e=true/\(e.on=j\/(e.on<k/\bo (cg ops) j e.on=true)):=by
 unfold bo at h
 have E:k<ops.toList.length:=by
  obtain⟨t,N,T⟩:=gB ops.toList [];rcases a0k k ops.toList.length with hlt|hge
  ·exact hlt
  have:(cg ops).getD k 0=0:=by unfold cg;rw[N,a11,a01,a0Q (by omega)];rfl
  rw[this]at h;simp at h
 have A:ops.toList[k]?=some ops.toList[k]:=a05 E
 have z:=ancs_at ops.toList [] k _ A
 simp only[a0f,a1u]at z
 change (cg ops).getD k 0=j9 ((cg ops).take k) _ at z
 rw[z]at h
 rcases fold_bit _ j _ 0 h with h1|⟨e,he,hb,h2⟩
 ·simp at h1
 refine⟨ops.toList[k],by rw[←Array.getElem?_toList];exact A,e,he,hb,?_⟩
 rcases h2 with h2|h2
 ·exact .inl h2
 right
 rcases a0k e.on k with hlt|hge
 ·refine⟨hlt,?_⟩;unfold bo;rw[a01,a0x,if_pos hlt,←a01]at h2;exact h2
 rw[a01,a0x,if_neg (by omega)]at h2
 simp at h2
def DC(ops:Array Oper)(S:Nat->Bool):Prop:= ∀(k:Nat) o,ops[k]?=some o->S k=true->∀e∈o.after.toList,Region.binds .any e=true->S e.on=true
theorem DC.anc{ops:Array Oper}{S:Nat->Bool}(h:DC ops S){j:Nat}: ∀(k:Nat),S k=true->bo (cg ops) j k=true->S j=true:=by
 intro k;induction k using Nat.strongRecOn with
 |_ k ih=>
  intro T U
  obtain⟨o,z,e,N,E,A⟩:=ordered_edge U
  have hs:=h k o z T e N E
  rcases A with rfl|⟨hlt,h2⟩
  ·exact hs
  exact ih e.on hlt hs h2
structure RegFacts(ops:Array Oper):Prop where
 back: ∀(j:Nat) o,ops[j]?=some o->∀e∈o.after.toList,Region.binds .any e=true->e.on<j
 pair: ∀(i j:Nat) x o,i<j->ops[i]?=some x->ops[j]?=some o->bo (cg ops) i j=true\/x.apart ops o=true
theorem regOK_facts{ops:Array Oper}(h:aO ops=true):RegFacts ops:=by
 unfold aO at h;simp only[a0y,a22]at h;refine⟨fun j o A e U T=>?_,fun i j x o N V A=>?_⟩
 ·have E:j<ops.size:=(a0E.1 A).1;have:=h j E;rw[A]at this;simp only[a0e,a0y]at this;have z:=this.1.1 e U;rw[T]at z;simp only[a1y,Bool.false_or]at z;exact a06 z
 have E:j<ops.size:=(a0E.1 A).1;have:=h j E;rw[A]at this;simp only[a0e,a0y,a22]at this;have z:=this.2 i N;rw[V]at z;simpa using z
section
variable (st:Nat->St) (vl:Nat->Value) (ops:Array Oper)
def chg(k b:Nat):Prop:=(st (k+1)).heap.get b≠(st k).heap.get b
open Classical in
noncomputable def jj (S : Nat -> Bool) : Nat -> Nat -> Option AObj
 |0,b=>(st 0).heap.get b
 |k+1,b=>if S k=true/\chg st k b then(st (k+1)).heap.get b else jj S k b
def iX(k:Nat):Option Tmp:=(ops[k]?).bind (·.dst)
open Classical in
noncomputable def tv (S : Nat -> Bool) : Nat -> Nat -> Value
 |0,t=>cC (st 0).tmps t
 |k+1,t=>if S k=true/\iX ops k=some t then vl k else tv S k t
theorem jW{S:Nat->Bool}{b i:Nat}: ∀m,(∀k,k<m->chg st k b->(S k=true↔k<i))->jj st S m b=(st (min m i)).heap.get b
 |0,_=>by simp[jj]
 |m+1,h=>by
  have z:=jW m fun k E=>h k (by omega)
  unfold jj;by_cases A:m<i
  ·rw[show min (m+1) i=m+1 by omega];rw[show min m i=m by omega]at z;by_cases hc:chg st m b
   ·rw[if_pos ⟨(h m (by omega) hc).2 A,hc⟩]
   rw[if_neg (fun e=>hc e.2),z];unfold chg at hc;exact(Classical.not_not.1 hc).symm
  rw[show min (m+1) i=i by omega];rw[show min m i=i by omega]at z;rw[if_neg (fun e=>A ((h m (by omega) e.2).1 e.1)),z]
theorem kQ{S S':Nat->Bool}{b:Nat}: ∀m,(∀k,k<m->chg st k b->S k=S' k)->jj st S m b=jj st S' m b
 |0,_=>rfl
 |m+1,h=>by
  have z:=kQ m fun k A=>h k (by omega)
  unfold jj;by_cases hc:chg st m b
  ·rw[h m (by omega) hc,z]
  rw[if_neg (fun e=>hc e.2),if_neg (fun e=>hc e.2),z]
theorem tv_eq{S:Nat->Bool}{t i:Nat}(A: ∀k,cC (st (k+1)).tmps t=if iX ops k=some t then vl k else cC (st k).tmps t):
  ∀m,(∀k,k<m->iX ops k=some t->(S k=true↔k<i))->tv st vl ops S m t=cC (st (min m i)).tmps t
 |0,_=>by simp[tv]
 |m+1,h=>by
  have z:=tv_eq A m fun k N=>h k (by omega)
  unfold tv;by_cases E:m<i
  ·rw[show min (m+1) i=m+1 by omega];rw[show min m i=m by omega]at z;by_cases hc:iX ops m=some t
   ·rw[if_pos ⟨(h m (by omega) hc).2 E,hc⟩,A,if_pos hc]
   rw[if_neg (fun e=>hc e.2),z,A,if_neg hc]
  rw[show min (m+1) i=i by omega];rw[show min m i=i by omega]at z;rw[if_neg (fun e=>E ((h m (by omega) e.2).1 e.1)),z]
theorem tv_congr{S S':Nat->Bool}{t:Nat}: ∀m,(∀k,k<m->iX ops k=some t->S k=S' k)->tv st vl ops S m t=tv st vl ops S' m t
 |0,_=>rfl
 |m+1,h=>by
  have z:=tv_congr m fun k A=>h k (by omega)
  unfold tv;by_cases hc:iX ops m=some t
  ·rw[h m (by omega) hc,z]
  rw[if_neg (fun e=>hc e.2),if_neg (fun e=>hc e.2),z]
end
structure Inv(ops:Array Oper)(st:Nat->St)(vl:Nat->Value)(μ0:Emb)(w0:World)(d0:List Deferred)(S:Nat->Bool)(μ:Emb)(a:Act)(w:World):Prop where
 dc:DC ops S
 dom: ∀b l,μ b=some l->b<(st 0).heap.next\/(∃k,k<ops.size/\S k=true/\(st k).heap.next<=b/\b<(st (k+1)).heap.next)\/(st ops.size).heap.next<=b
 obj: ∀b l o,μ b=some l->jj st S ops.size b=some o->ObjRel μ w l o
 inj: ∀b1 b2 l1 l2 o1 o2,b1≠b2->μ b1=some l1->μ b2=some l2->jj st S ops.size b1=some o1->jj st S ops.size b2=some o2->o1.rw=true->o2.live=true->l1.c≠l2.c
 size:a.tmps.size=(st 0).size
 tm: ∀t,VRel μ (tv st vl ops S ops.size t) (a.tmps.getD t undef)
 defers:a.defers=d0
 ext0: ∀b l,μ0 b=some l->μ b=some l
 dom0: ∀b l,μ b=some l->μ0 b=some l\/((st 0).heap.next<=b/\b<(st ops.size).heap.next)
 grow0:w0.heap.size<=w.heap.size
 os0:w.os=w0.os
 tape0:w.tape=w0.tape
 out0:w.output=w0.output
 keep0: ∀c,c<w0.heap.size->(∀b l o,μ0 b=some l->(st 0).heap.get b=some o->o.rw=true->l.c≠c)->w.heap[c]?=w0.heap[c]?
 img0: ∀b l o,μ b=some l->jj st S ops.size b=some o->o.live=true->
  w0.heap.size<=l.c\/∃b0 l0 o0,μ0 b0=some l0/\(st 0).heap.get b0=some o0/\o0.live=true/\(o.rw=true->o0.rw=true)/\l0.c=l.c
def iS(S:Nat->Bool)(i:Nat):Nat->Bool:=fun k=>Nat.beq k i||S k
theorem fK(S:Nat->Bool)(i:Nat):iS S i i=true:=by simp[iS]
theorem fM(S:Nat->Bool){i k:Nat}(h:k≠i):iS S i k=S k:=by
 have:Nat.beq k i=false:=by
  cases z:Nat.beq k i with
  |false=>rfl
  |true=>exact absurd (a09 z) h
 simp[iS,this]
theorem Inv.next{ops:Array Oper}{st:Nat->St}{vl:Nat->Value}{μ0 μ μ':Emb}{w0 w w':World}{d0:List Deferred}{S:Nat->Bool}{a:Act}{i:Nat}{H Hn:Heap}{o:Oper}{v':Value}
  (I:Inv ops st vl μ0 w0 d0 S μ a w) (hi:i<ops.size) (ho:ops[i]?=some o) (E:Post μ H w μ' Hn w') (hv:VRel μ' (vl i) v') (a2: ∀k,(st k).heap.next<=(st (k+1)).heap.next)
  (c4:(st i).heap.next<=H.next) (c5:Hn.next<=(st (i+1)).heap.next)
  (c1: ∀b l x,μ b=some l->H.get b=some x->jj st S ops.size b=some x)
  (c2: ∀b l x,μ' b=some l->Hn.get b=some x->jj st (iS S i) ops.size b=some x)
  (c3: ∀b l x,μ' b=some l->Hn.get b=none->jj st (iS S i) ops.size b=some x->μ b=some l/\H.get b=none/\jj st S ops.size b=some x)
  (b6:DC ops (iS S i)) (b7: ∀d,o.dst=some d->d<(st 0).size)
  (ch: ∀t,o.dst=some t->tv st vl ops (iS S i) ops.size t=vl i) (bl: ∀t,o.dst≠some t->tv st vl ops (iS S i) ops.size t=tv st vl ops S ops.size t):
  Inv ops st vl μ0 w0 d0 (iS S i) μ' (a.put o.dst v') w':=by
 have bb: ∀k,(st 0).heap.next<=(st k).heap.next:=by
  intro k;induction k with
  |zero=>exact a0a _
  |succ k ih=>exact a0c ih (a2 k)
 have monoL: ∀j k,j<=k->(st j).heap.next<=(st k).heap.next:=by
  intro j k h;induction h with
  |refl=>exact a0a _
  |step _ ih=>exact a0c ih (a2 _)
 have ci:=monoL (i+1) ops.size hi
 have b5: ∀b l x,μ b=some l->H.get b=none->jj st S ops.size b=some x->x.live=true->w'.heap[l.c]?=w.heap[l.c]?:=by
  intro b l x z hh hc ai;refine E.keep l.c ((I.obj b l x z hc).lt ai) fun T l2 o2 U a8 al=>?_
  exact I.inj T b l2 l o2 x (fun e=>by subst e;rw[hh]at a8;cases a8) U z (c1 T l2 o2 U a8) hc al ai
 refine⟨b6,fun b l z=>?_,fun b l x z hc=>?_,fun b1 T l1 l2 o1 o2 bk a0 U ar N an al=>?_,?_,fun t=>?_,?_,fun b l z=>E.ext b l (I.ext0 b l z),fun b l z=>?_,a0c I.grow0 E.grow,
  E.os.trans I.os0,E.tape.trans I.tape0,E.out.trans I.out0,fun c hc a7=>?_,fun b l x z hc ai=>?_⟩
 ·rcases E.dom b l z with A|⟨A,Z⟩
  ·rcases I.dom b l A with Z|⟨k,hk,hs,V,h4⟩|Z
   ·exact .inl Z
   ·refine .inr (.inl ⟨k,hk,?_,V,h4⟩);unfold iS;rw[hs];simp
   exact .inr (.inr Z)
  exact .inr (.inl ⟨i,hi,fK S i,by omega,by omega⟩)
 ·cases hg:Hn.get b with
  |some y=>
   have:=c2 b l y z hg
   rw[this]at hc;injection hc with hc;subst hc
   exact E.wrel.obj b l y z hg
  |none=>
   obtain⟨A,Z,V⟩:=c3 b l x z hg hc
   exact(I.obj b l x A V).keep E.ext E.grow (fun ai=>b5 b l x A Z V ai)
 ·--no two blocks at one place
  cases a1:Hn.get b1 with
  |some y1=>
   have e1:=c2 b1 l1 y1 a0 a1
   rw[e1]at ar;injection ar with ar;subst ar
   cases ag:Hn.get T with
   |some y2=>
    have e2:=c2 T l2 y2 U ag
    rw[e2]at N;injection N with N;subst N
    exact E.wrel.inj b1 T l1 l2 y1 y2 bk a0 U a1 ag an al
   |none=>
    obtain⟨A,Z,V⟩:=c3 T l2 o2 U ag N
    have b9:=(I.obj T l2 o2 A V).lt al
    rcases E.img b1 l1 y1 a0 a1 (gi an) with hh|⟨b0,l0,o0,g1,g2,g3,g4,g5⟩
    ·omega
    rw[←g5]
    exact I.inj b0 T l0 l2 o0 o2 (fun e=>by subst e;rw[Z]at g2;cases g2) g1 A (c1 b0 l0 o0 g1 g2) V (g4 an) al
  |none=>
   obtain⟨A,Z,V⟩:=c3 b1 l1 o1 a0 a1 ar
   cases ag:Hn.get T with
   |some y2=>
    have e2:=c2 T l2 y2 U ag
    rw[e2]at N;injection N with N;subst N
    have b9:=(I.obj b1 l1 o1 A V).lt (gi an)
    rcases E.img T l2 y2 U ag al with hh|⟨b0,l0,o0,g1,g2,g3,g4,g5⟩
    ·omega
    rw[←g5]
    exact I.inj b1 b0 l1 l0 o1 o0 (fun e=>by subst e;rw[Z]at g2;cases g2) A g1 V (c1 b0 l0 o0 g1 g2) an g3
   |none=>
    obtain⟨k1,k2,k3⟩:=c3 T l2 o2 U ag N
    exact I.inj b1 T l1 l2 o1 o2 bk A k1 V k3 an al
 ·cases hd:o.dst with
  |none=>exact I.size
  |some d=>simp only[Act.put,Array.size_setIfInBounds];exact I.size
 ·have a9:=(I.tm t).mono E.ext;cases hd:o.dst with
  |none=>rw[bl t (by rw[hd];simp)];exact a9
  |some d=>
   simp only[Act.put,getD_set]
   by_cases a6:d=t
   ·subst a6;rw[ch d hd,if_pos ⟨rfl,by rw[I.size];exact b7 d hd⟩];exact hv
   rw[bl t (by rw[hd];simpa using a6),if_neg (fun e=>a6 e.1)];exact a9
 ·rw[eC];exact I.defers
 ·rcases E.dom b l z with A|⟨A,Z⟩
  ·exact I.dom0 b l A
  exact .inr ⟨by have:=bb i;omega,by omega⟩
 ·rw[E.keep c (a0V hc I.grow0) ?_,I.keep0 c hc a7];intro b l x z hx hr he;rcases I.img0 b l x z (c1 b l x z hx) (gi hr) with hh|⟨b0,l0,o0,g1,g2,g3,g4,g5⟩
  ·omega
  exact a7 b0 l0 o0 g1 g2 (g4 hr) (g5.trans he)
 cases hg:Hn.get b with
 |some y=>
  have:=c2 b l y z hg
  rw[this]at hc;injection hc with hc;subst hc
  rcases E.img b l y z hg ai with hh|⟨b0,l0,o0,g1,g2,g3,g4,g5⟩
  ·exact .inl (a0c I.grow0 hh)
  rcases I.img0 b0 l0 o0 g1 (c1 b0 l0 o0 g1 g2) g3 with hh|⟨b3,l3,o3,e1,e2,e3,e4,e5⟩
  ·exact .inl (g5▸hh)
  exact .inr ⟨b3,l3,o3,e1,e2,e3,fun hx=>e4 (g4 hx),e5.trans g5⟩
 |none=>
  obtain⟨A,Z,V⟩:=c3 b l x z hg hc
  exact I.img0 b l x A V ai
end Go.R
namespace Go.R
section
variable {P:Program} {G:Nat}
def l5(ρ:Operand->Value)(o:Oper)(b:Nat):Prop:=
 (∃t a off,o.op= .load t a/\ρ a= .pointer (some ⟨b,off,none⟩))\/
 (∃t x lo hi z off n k,o.op= .slice t x lo hi z/\ρ x= .slice (some ⟨b,off,none⟩) n k)
def NilCut(ρ:Operand->Value)(o:Oper):Prop:=(∃t x lo hi z n k,o.op= .slice t x lo hi z/\ρ x= .slice none n k)\/
 (∃xs A x,o.op= .call ⟨.builtin .len,xs,A⟩/\eO ρ xs.toList=[x]/\((∃a n k,x= .slice a n k)\/∃s,x= .string s))
structure OpFact(P:Program)(G:Nat)(cf:cj)(ops:Array Oper)(o:Oper)(s s':St)(v:Value)(f:Inf):Prop where
 size:s'.size=s.size
 tm: ∀t,cC s'.tmps t=if o.dst=some t then v else cC s.tmps t
 dlt: ∀d,o.dst=some d->d<s.size
 next:s.heap.next<=s'.heap.next
 far: ∀b,s'.heap.next<=b->s'.heap.get b=s.heap.get b
 how:(bd ops o s.tmps=false/\v=undef/\f= .v/\s'.heap.next=s.heap.next/\∀b,s'.heap.get b=s.heap.get b)\/
  (bd ops o s.tmps=true/\o.op.operands.toList.all (bC G)=true/\∃H1 H2,(∀b,H1.get b=s.heap.get b)/\H1.next=s.heap.next/\
   dV P cf (cP s.tmps) o H1=some (v,H2)/\(∀b,s'.heap.get b=H2.get b)/\s'.heap.next=H2.next/\
   ((f= .v/\(aX o.op=true\/NilCut (cP s.tmps) o))\/(f= .a s.heap.next/\dQ o.op=true)\/
    (∃b,f= .l b/\l5 (cP s.tmps) o b)\/
    (∃w,f= .x w/\(∀b,b∈w->b<s.heap.next)/\∀b,b<s.heap.next->b∉w->s'.heap.get b=s.heap.get b)))
theorem fy{n b:Nat}: ∀{l:List Nat},b∈cV n l↔b∈l/\b<n
 | []=>by simp[cV]
 |c::l=>by
  unfold cV;cases E:Nat.ble n c with
  |true=>
   have:=a06 E
   simp only[cond_true,a0m]
   rw[fy (l:=l)]
   constructor
   ·rintro⟨z,A⟩;exact⟨.inr z,A⟩
   rintro⟨rfl|z,A⟩
   ·omega
   exact⟨z,A⟩
  |false=>
   have T: ¬n<=c:=fun N=>by rw[a0w N]at E;cases E
   simp only[cond_false,a0m]
   rw[fy (l:=l)]
   constructor
   ·rintro(rfl|⟨z,A⟩)
    ·exact⟨.inl rfl,by omega⟩
    exact⟨.inr z,A⟩
   rintro⟨rfl|z,A⟩
   ·exact .inl rfl
   exact .inr ⟨z,A⟩
theorem loadV_spot{P:Program}{H:Heap}{t:TypeId}{p:Addr}{v:Value}(h:H.loadV P t p=some v):p.spot=none:=by
 obtain⟨b,o,z⟩:=p;cases z with
 |none=>rfl
 |some _=>
  unfold Heap.loadV at h
  split at h
  ·split at h
   ·simp[Heap.loadN]at h
   cases h
  ·simp[Heap.cellAt]at h
  cases h
theorem loadV_congr{H H':Heap}{t:TypeId}{b off:Nat}(h:H.get b=H'.get b):H.loadV P t ⟨b,off,none⟩=H'.loadV P t ⟨b,off,none⟩:=by unfold Heap.loadV Heap.loadN Heap.cellAt;simp only[h]
theorem loadV_some{H:Heap}{t:TypeId}{b off:Nat}{v:Value}(h:H.loadV P t ⟨b,off,none⟩=some v): ∃x,H.get b=some x:=by
 cases z:H.get b with
 |some x=>exact⟨x,rfl⟩
 |none=>
  unfold Heap.loadV Heap.loadN Heap.cellAt at h
  simp only[z]at h
  split at h
  ·split at h<;>cases h
  ·cases h
  cases h
theorem aSlice_spot{P:Program}{H:Heap}{t:TypeId}{p:Addr}{n k:Nat}{lo hi z:Option Value}{v:Value}(h:bx P t (.slice (some p) n k) lo hi z H=some v):p.spot=none:=by
 obtain⟨b,o,A⟩:=p;cases A with
 |none=>rfl
 |some _=>
  unfold bx at h
  split at h
  ·cases h
  split at h<;>simp_all
theorem aSlice_get{P:Program}{H:Heap}{t:TypeId}{b off n k:Nat}{lo hi E:Option Value}{v:Value}(h:bx P t (.slice (some ⟨b,off,none⟩) n k) lo hi E H=some v):
  ∃z,H.get b=some z/\∀A:Heap,A.get b=some z->bx P t (.slice (some ⟨b,off,none⟩) n k) lo hi E A=some v:=by
 cases T:H.get b with
 |some z=>
  refine⟨z,rfl,fun A N=>?_⟩
  rw[←h]
  unfold bx
  cases E with
  |some _=>rfl
  |none=>
   cases P.underlying t with
   |none=>rfl
   |some d=>cases d<;>first|rfl|simp only[N,T]
 |none=>
  exfalso
  unfold bx at h
  split at h
  ·cases h
  split at h<;>simp_all
theorem d7{P:Program}{ρ:Operand->Value}{o:Oper}{b:Nat}{H H':Heap}{r:AN}(hr:l5 ρ o b)(h:aop P ρ o H=some (r,H')):
  ∃v A,r= .val v/\H'=H/\H.get b=some A/\∀N:Heap,N.get b=some A->aop P ρ o N=some (.val v,N):=by
 rcases hr with⟨t,a,off,T,ha⟩|⟨t,x,lo,hi,mx,off,n,k,T,hx⟩
 ·have z: ∀H,aop P ρ o H=dU P t (ρ a) H:=fun H=>by unfold aop;rw[T]
  rw[z,ha]at h;unfold dU at h;simp only at h;obtain⟨rfl,v,U,rfl⟩:=cd h;obtain⟨A,E⟩:=loadV_some U;refine⟨v,A,rfl,rfl,E,fun N V=>?_⟩;rw[z,ha];unfold dU;simp only;rw[loadV_congr (H':=H') (by rw[V,E]),U];rfl
 have z: ∀H,aop P ρ o H=ovl (bx P t (ρ x) (lo.map ρ) (hi.map ρ) (mx.map ρ) H) H:=fun H=>by unfold aop;rw[T]
 rw[z,hx]at h
 obtain⟨rfl,v,U,rfl⟩:=cd h
 obtain⟨A,E,Z⟩:=aSlice_get U
 refine⟨v,A,rfl,rfl,E,fun N V=>?_⟩
 rw[z,hx,Z N V]
 rfl
theorem reads_sound{P:Program}{μ:Emb}{ρ ρ':Operand->Value}{o:Oper}{b:Nat}{H:Heap}{w:World}{v:Value}(hr:l5 ρ o b)(V: ∀x∈o.op.operands,VRel μ (ρ x) (ρ' x))(hw:WRel μ H w)
  (h:aop P ρ o H=some (.val v,H)): ∃v',(execOp ρ' o).run P w= .ok (.value v') w/\VRel μ v v':=by
 rcases hr with⟨t,a,off,z,ha⟩|⟨t,x,lo,hi,mx,off,n,k,z,hx⟩
 ·have E: ∀H,aop P ρ o H=dU P t (ρ a) H:=fun H=>by unfold aop;rw[z]
  rw[E,ha]at h;unfold dU at h;simp only at h;obtain⟨_,v1,hv,A⟩:=cd h;injection A with A;subst A;have ad:VRel μ (ρ a) (ρ' a):=V a (by rw[z];simp[Op.operands]);rw[ha]at ad;obtain⟨l,hμ,al⟩:=ad.ptr_inv;obtain⟨v',N,T⟩:=gv (P:=P) hw hμ hv;refine⟨v',?_,T⟩;obtain⟨ag,op,type,pos,after,Z⟩:=o;simp only at z;subst z;simp only[execOp,al,Instr.loadAt,Instr.sureAddr,Sem.run_bind,Sem.run_pure,Result.andThen_ok,N]
 have E: ∀H,aop P ρ o H=ovl (bx P t (ρ x) (lo.map ρ) (hi.map ρ) (mx.map ρ) H) H:=fun H=>by unfold aop;rw[z]
 rw[E]at h
 obtain⟨ag,op,type,pos,after,Z⟩:=o
 simp only at z
 subst z
 obtain⟨a1,a2⟩:=eX (μ:=μ) (ρ:=ρ) (ρ':=ρ') (x:=lo) fun y U=>V y (by subst U;simp[Op.operands])
 obtain⟨b1,b2⟩:=eX (μ:=μ) (ρ:=ρ) (ρ':=ρ') (x:=hi) fun y U=>V y (by subst U;simp[Op.operands])
 obtain⟨_,c2⟩:=eX (μ:=μ) (ρ:=ρ) (ρ':=ρ') (x:=mx) fun y U=>V y (by subst U;simp[Op.operands])
 obtain⟨v1,v',A,_,N,T⟩:=jA (P:=P) hw (V x (by simp[Op.operands])) a1 a2 b1 b2 c2 h
 injection A with A;subst A
 refine⟨v',?_,T⟩
 simp only[execOp,Sem.run_bind,N,Result.andThen_ok,Sem.run_pure]
theorem reads_loc{μ:Emb}{ρ ρ':Operand->Value}{o:Oper}{b:Nat}(U:l5 ρ o b)(N: ∀x∈o.op.operands,VRel μ (ρ x) (ρ' x)): ∃l,μ b=some l:=by
 rcases U with⟨t,a,off,A,T⟩|⟨t,x,lo,hi,Z,off,n,k,A,V⟩
 ·have z:VRel μ (ρ a) (ρ' a):=N a (by rw[A];simp[Op.operands]);rw[T]at z;obtain⟨l,E,_⟩:=z.ptr_inv;exact⟨l,E⟩
 have z:VRel μ (ρ x) (ρ' x):=N x (by rw[A];simp[Op.operands]);rw[V]at z;obtain⟨l,E,_⟩:=z.slice_inv;exact⟨l,E⟩
theorem stepD_fact{cf:cj}(a1:dM P G cf){ops:Array Oper}{o:Oper}{s s':St}{f:Inf}(hw:WF s.heap)(h:ga P G cf ops o s=some (s',f)):
  ∃v,OpFact P G cf ops o s s' v f:=by
 unfold ga at h
 split at h
 case h_2=>cases h
 rename_i t z
 simp only[a00,a03]at h
 obtain⟨rfl,rfl⟩:=h
 have a2:WF {s.heap with log:=[]}:=hw
 have ext:=i7 a1 (s:={s with heap:={s.heap with log:=[]}}) a2 z
 rw[step_eq]at z
 cases hq:bd ops o s.tmps with
 |false=>
  rw[hq]at z
  simp only[cond_false]at z
  obtain⟨h1,T,h3⟩:=gp z
  refine⟨undef,h1,?_,?_,by rw[T];exact a0a _,fun b _=>by rw[T];rfl,.inl ⟨hq,rfl,by unfold dw;rw[hq];rfl,by rw[T],fun b=>by rw[T];rfl⟩⟩
  ·intro k;rcases h3 with⟨E,h5⟩|⟨d,E,A,h5⟩
   ·simp[E,h5]
   rw[E];simp only[h5,fA,a00]
  intro d A
  rcases h3 with⟨E,_⟩|⟨d',E,ar,_⟩
  ·rw[E]at A;cases A
  rw[E]at A;injection A with A;subst A;exact ar
 |true=>
  rw[hq]at z
  cases aw:o.op.operands.toList.all (bC G) with
  |false=>rw[aw]at z;cases z
  |true=>
   rw[aw]at z
   simp only[cond_true]at z
   split at z
   case h_2=>cases z
   rename_i v H2 U
   obtain⟨h1,T,h3⟩:=gp z
   simp only at T
   have al:Ext {s.heap with log:=[]} H2:=kN a1 a2 U
   refine⟨v,h1,?_,?_,by simp only[T];exact al.next,fun b hb=>by simp only[T]at hb⊢;exact al.far b hb,.inr ⟨hq,aw,{s.heap with log:=[]},H2,fun _=>rfl,rfl,U,fun b=>by simp only[T];rfl,by simp only[T],?_⟩⟩
   ·intro k;rcases h3 with⟨E,h5⟩|⟨d,E,A,h5⟩
    ·simp[E,h5]
    rw[E];simp only[h5,fA,a00]
   ·intro d A;rcases h3 with⟨E,_⟩|⟨d',E,ar,_⟩
    ·rw[E]at A;cases A
    rw[E]at A;injection A with A;subst A;exact ar
   ·--which kind
    have hx:(∃w,Inf.x (cV s.heap.next t.heap.log)= .x w/\(∀b,b∈w->b<s.heap.next)/\∀b,b<s.heap.next->b∉w->t.heap.get b=s.heap.get b):=by
     refine⟨_,rfl,fun b hb=>(fy.1 hb).2,fun b hb hn=>?_⟩;obtain⟨d,A,ax⟩:=al.log;rw[T];refine ax b hb fun hm=>hn (fy.2 ⟨?_,hb⟩)
     rw[T,A,a0F];exact hm
    unfold dw;rw[hq];cases hv:aX o.op with
    |true=>exact .inl ⟨rfl,.inl rfl⟩
    |false=>
     simp only[a1y,a1L,cond_false]
     cases bl:dQ o.op with
     |true=>exact .inr (.inl ⟨rfl,rfl⟩)
     |false=>
      simp only[cond_false]
      split
      ·rename_i ty a N;split
       ·rename_i p V;have Z:p.spot=none:=by
         unfold dV at U;have ag:aop P (cP s.tmps) o {s.heap with log:=[]}=dU P ty (cP s.tmps a) {s.heap with log:=[]}:=by unfold aop;rw[N]
         rw[ag,V]at U;unfold dU at U;simp only at U;cases hl:Heap.loadV P {s.heap with log:=[]} ty p with
         |none=>rw[hl]at U;simp[ovl]at U
         |some u=>exact loadV_spot hl
        obtain⟨b,off,sp⟩:=p;simp only at Z;subst Z;exact .inr (.inr (.inl ⟨b,rfl,.inl ⟨ty,a,off,N,V⟩⟩))
       exact .inr (.inr (.inr hx))
      ·rename_i ty x lo hi mx N;split
       ·rename_i p n k V;have Z:p.spot=none:=by
         unfold dV at U;have ag:aop P (cP s.tmps) o {s.heap with log:=[]}=ovl (bx P ty (cP s.tmps x) (lo.map (cP s.tmps)) (hi.map (cP s.tmps)) (mx.map (cP s.tmps)) {s.heap with log:=[]}) {s.heap with log:=[]}:=by unfold aop;rw[N]
         rw[ag,V]at U;cases hl:bx P ty (.slice (some p) n k) (lo.map (cP s.tmps)) (hi.map (cP s.tmps)) (mx.map (cP s.tmps)) {s.heap with log:=[]} with
         |none=>rw[hl]at U;simp[ovl]at U
         |some u=>exact aSlice_spot hl
        obtain⟨b,off,sp⟩:=p;simp only at Z;subst Z;exact .inr (.inr (.inl ⟨b,rfl,.inr ⟨ty,x,lo,hi,mx,off,n,k,N,V⟩⟩))
       ·rename_i n k V;exact .inl ⟨rfl,.inr (.inl ⟨ty,x,lo,hi,mx,n,k,N,V⟩)⟩
       exact .inr (.inr (.inr hx))
      ·rename_i xs ts N;split
       ·rename_i a n k V;exact .inl ⟨rfl,.inr (.inr ⟨xs,ts,_,N,V,.inl ⟨a,n,k,rfl⟩⟩)⟩
       ·rename_i a6 V;exact .inl ⟨rfl,.inr (.inr ⟨xs,ts,_,N,V,.inr ⟨a6,rfl⟩⟩)⟩
       exact .inr (.inr (.inr hx))
      exact .inr (.inr (.inr hx))
theorem jE{ρ:Operand->Value}{o:Oper}{H H':Heap}{r:AN}(h:bw P ρ o H=some (r,H')):H'=H/\∃v,r= .val v:=by
 unfold bw at h;cases A:o.op.operands.toList.all fun x=>gE (ρ x) with
 |false=>rw[A]at h;cases h
 |true=>
  rw[A]at h
  simp only[cond_true]at h
  split at h
  ·rename_i v E;cases z:noA2 v with
   |false=>rw[z]at h;cases h
   |true=>
    rw[z]at h;simp only[cond_true,a00,a03]at h
    exact⟨h.2.symm,v,h.1.symm⟩
  cases h
theorem lift_val{s:Sem Value}{H H':Heap}{r:AN}(h:lift P s H=some (r,H')):H'=H/\∃v,r= .val v:=by obtain⟨z,v,A,_⟩:=jN h;exact⟨z,v,A⟩
theorem eW{x:Option Value}{H H':Heap}{r:AN}(h:ovl x H=some (r,H')):H'=H/\∃v,r= .val v:=by obtain⟨z,v,_,A⟩:=cd h;exact⟨z,v,A⟩
theorem eT{v:Value}{H H':Heap}{r:AN}(h:some (AN.val v,H)=some (r,H')):H'=H/\∃v,r= .val v:=by simp only[a00,a03]at h;exact⟨h.2.symm,v,h.1.symm⟩
theorem aop_value{ρ:Operand->Value}{o:Oper}{H H':Heap}{r:AN}(U:aX o.op=true)(h:aop P ρ o H=some (r,H')):H'=H/\∃v,r= .val v:=by
 obtain⟨E,op,type,pos,after,A⟩:=o;cases op<;>simp only[aX,a0K]at U
 case move x=>exact eT (v:=ρ x) h
 case assign x=>exact eT (v:=ρ x) h
 case pick c a b=>
  have z:fw ρ c a b H=some (r,H'):=h
  unfold fw at z
  split at z
  ·exact eT z
  cases z
 case build t parts=>
  have z:gt P t (parts.map fun p=>(p.1,ρ p.2)) H=some (r,H'):=h
  unfold gt at z
  split at z
  ·exact lift_val z
  cases z
 case nilCheck x=>
  have z:opNil (ρ x) H=some (r,H'):=h
  unfold opNil at z
  split at z
  ·exact eT z
  ·exact eT z
  cases z
 case binOp op t x y yt=>
  have z:aBin P ρ ⟨E,.binOp op t x y yt,type,pos,after,A⟩ op t (ρ x) y H=some (r,H'):=h
  unfold aBin at z
  split at z
  ·unfold binInt at z;split at z
   ·exact eW z
   cases z
  ·unfold binStr at z;split at z
   ·exact eW z
   cases z
  unfold lP at z;split at z
  ·exact jE z
  ·exact jE z
  obtain⟨T,b,_,hc⟩:=ii z
  rcases hc with⟨_,N⟩|⟨_,N⟩
  ·exact⟨T,_,N⟩
  exact⟨T,_,N⟩
 case unOp op t x=>
  have z:aUn P ρ ⟨E,.unOp op t x,type,pos,after,A⟩ op (ρ x) H=some (r,H'):=h
  unfold aUn at z
  split at z
  ·split at z
   ·exact eT z
   cases z
  exact jE z
 case makeFunc fn first captured=>exact eT (v:= .func fn (first.map ρ) (captured.map ρ)) h
 case fieldAddr s x f=>
  have z:ovl (hL P s (ρ x) f) H=some (r,H'):=h
  exact eW z
 case field t x f=>
  have z:ovl (gD P t (ρ x) f) H=some (r,H'):=h
  exact eW z
 case indexAddr t x i=>
  have z:ovl (cT P t (ρ x) (ρ i)) H=some (r,H'):=h
  exact eW z
 case index t x i=>
  have z:j5 P t (ρ x) (ρ i) H=some (r,H'):=h
  unfold j5 at z
  split at z
  ·exact eW z
  exact lift_val z
 case extract x i=>
  have z:ovl (fZ (ρ x) i) H=some (r,H'):=h
  exact eW z
theorem kj{ρ:Operand->Value}{o:Oper}{H H':Heap}{r:AN}(z:aX o.op=true)(h:aop P ρ o H=some (r,H')):H'=H:=by have:=aop_value z h;exact this.1
theorem jt{ρ:Operand->Value}{o:Oper}{H H':Heap}{r:AN}(z:aX o.op=true)(h:aop P ρ o H=some (r,H')): ∃v,r= .val v:=(aop_value z h).2
theorem eI{ρ:Operand->Value}{o:Oper}{H H':Heap}{r:AN}(Z:dQ o.op=true)(h:aop P ρ o H=some (r,H')):
  ∃v T,r= .val v/\H'=H.push T/\∀E:Heap,E.next=H.next->aop P ρ o E=some (.val v,E.push T):=by
 obtain⟨ag,op,type,pos,after,ad⟩:=o
 cases op<;>simp only[dQ,a0K]at Z
 case alloc e=>
  have A:ec P e H=some (r,H'):=h
  unfold ec at A
  split at A
  ·rename_i z V;simp only[a00,a03]at A;obtain⟨rfl,rfl⟩:=A;refine⟨_,_,rfl,rfl,fun E N=>?_⟩;show ec P e E=_;unfold ec;rw[V,N];rfl
  cases A
 case box e x=>
  have A:some (AN.val (ptrTo H.next),aP H (ρ x).cells.toList none)=some (r,H'):=h
  simp only[a00,a03]at A
  obtain⟨rfl,rfl⟩:=A
  refine⟨_,_,rfl,rfl,fun E N=>?_⟩
  show some (AN.val (ptrTo E.next),aP E (ρ x).cells.toList none)=_
  rw[N];rfl
 case buildSlice t n parts=>
  have A:bH P t n (eO (fun p=>(p.1,ρ p.2)) parts.toList) H=some (r,H'):=h
  unfold bH at A
  split at A
  ·rename_i sz z V;cases U:Nat.ble (n*sz) 16777216 with
   |false=>rw[U]at A;cases A
   |true=>
    rw[U]at A
    simp only[cond_true]at A
    split at A
    ·rename_i cells hc;simp only[a00,a03]at A;obtain⟨rfl,rfl⟩:=A;refine⟨_,_,rfl,rfl,fun E N=>?_⟩;show bH P t n (eO (fun p=>(p.1,ρ p.2)) parts.toList) E=_;unfold bH;rw[V];simp only[U,cond_true,hc,N];rfl
    cases A
  cases A
 case makeMap t rsv=>
  cases rsv with
  |some _=>simp at Z
  |none=>
   have A:some (AN.val (.map (some H.next)),H.push (.tab []))=some (r,H'):=h
   simp only[a00,a03]at A
   obtain⟨rfl,rfl⟩:=A
   refine⟨_,_,rfl,rfl,fun E N=>?_⟩
   show some (AN.val (.map (some E.next)),E.push (.tab []))=_
   rw[N]
def bare(n:Nat):Heap:={tr:= .nil,next:=n,log:=[]}
theorem d5(n b:Nat):(bare n).get b=none:=rfl
theorem jl(μ:Emb)(n:Nat)(w:World):WRel μ (bare n) w:=
 ⟨(fun b l o _ h=>by rw[d5]at h;cases h),(fun z A E N T U _ _ _ h=>by rw[d5]at h;cases h)⟩
theorem aSlice_nil{t:TypeId}{n k:Nat}{lo hi z:Option Value}(H A:Heap):bx P t (.slice none n k) lo hi z H=bx P t (.slice none n k) lo hi z A:=by
 unfold bx;cases z with
 |some _=>rfl
 |none=>
  cases P.underlying t with
  |none=>rfl
  |some d=>cases d<;>first|rfl|(cases n<;>cases k<;>rfl)
theorem ef{ρ:Operand->Value}{o:Oper}{H H':Heap}{r:AN}(E:NilCut ρ o)(h:aop P ρ o H=some (r,H')):H'=H/\∃v,r= .val v:=by
 rcases E with⟨t,x,lo,hi,T,n,k,A,N⟩|⟨xs,U,x,A,N,_⟩
 ·have z: ∀H,aop P ρ o H=ovl (bx P t (ρ x) (lo.map ρ) (hi.map ρ) (T.map ρ) H) H:=fun H=>by unfold aop;rw[A]
  rw[z]at h;exact eW h
 have z:aop P ρ o H=bLen P U (eO ρ xs.toList) H:=by unfold aop;rw[A];rfl
 rw[z]at h;unfold bLen at h;split at h
 ·exact eW h
 cases h
theorem aLen_any{t:TypeId}{x:Value}(A:(∃a n k,x= .slice a n k)\/∃s,x= .string s)(H z:Heap):aLen P t x H=aLen P t x z:=by
 rcases A with⟨a,n,k,rfl⟩|⟨s,rfl⟩<;>(unfold aLen;cases P.underlying t with
  |none=>rfl
  |some d=>cases d<;>rfl)
theorem nilcut_sound{μ:Emb}{ρ ρ':Operand->Value}{o:Oper}{H:Heap}{v:Value}(hr:NilCut ρ o)(Z: ∀x∈o.op.operands,VRel μ (ρ x) (ρ' x))(h:aop P ρ o H=some (.val v,H))(w:World):
  ∃v',(execOp ρ' o).run P w= .ok (.value v') w/\VRel μ v v':=by
 rcases hr with hr|⟨xs,ts,x,z,hxs,T⟩
 rotate_left
 ·have E:aop P ρ o H=bLen P ts (eO ρ xs.toList) H:=by unfold aop;rw[z];rfl
  rw[E,hxs]at h;obtain⟨ao,op,type,pos,after,ad⟩:=o;simp only at z;subst z;unfold bLen at h;split at h
  ·rename_i t x1 ht ai;simp only[List.cons.injEq,and_true]at ai;subst ai;obtain⟨_,v1,U,A⟩:=cd h;injection A with A;subst A;rw[aLen_any T H (bare 0)]at U;have ag:LRel μ (eO ρ xs.toList) (xs.map ρ').toList:=by
    rw[jL];have:=jm (μ:=μ) (ops:=xs) (ρ:=ρ) (ρ':=ρ') fun x T=>Z x (by simp[Op.operands,Call.operands];exact T)
    simpa using this
   obtain⟨x',aw,ax⟩:=one_of ag hxs;obtain⟨N,hn⟩:=len_sound (P:=P) (ty:=type) (jl μ 0 w) ax U;have ar:ts= #[t]:=a1d.1 (by rw[ht]);refine⟨v,?_,.atom v hn⟩;simp only[execOp,resolve,Sem.run_bind,Sem.run_pure,Result.andThen_ok,invoke,builtin,aw,ar,N]
  cases h
 obtain⟨t,x,lo,hi,mx,n,k,z,T⟩:=hr
 have E: ∀H,aop P ρ o H=ovl (bx P t (ρ x) (lo.map ρ) (hi.map ρ) (mx.map ρ) H) H:=fun H=>by unfold aop;rw[z]
 rw[E,T]at h
 obtain⟨_,v1,U,A⟩:=cd h
 rw[aSlice_nil H (bare 0)]at U
 have h2:ovl (bx P t (ρ x) (lo.map ρ) (hi.map ρ) (mx.map ρ) (bare 0)) (bare 0)=some (.val v,bare 0):=by rw[T,U,A];rfl
 obtain⟨ao,op,type,pos,after,ad⟩:=o
 simp only at z
 subst z
 obtain⟨a1,a2⟩:=eX (μ:=μ) (ρ:=ρ) (ρ':=ρ') (x:=lo) fun y V=>Z y (by subst V;simp[Op.operands])
 obtain⟨b1,b2⟩:=eX (μ:=μ) (ρ:=ρ) (ρ':=ρ') (x:=hi) fun y V=>Z y (by subst V;simp[Op.operands])
 obtain⟨_,c2⟩:=eX (μ:=μ) (ρ:=ρ) (ρ':=ρ') (x:=mx) fun y V=>Z y (by subst V;simp[Op.operands])
 obtain⟨v1,v',A,_,N,av⟩:=jA (P:=P) (jl μ 0 w) (Z x (by simp[Op.operands])) a1 a2 b1 b2 c2 h2
 injection A with A;subst A
 refine⟨v',?_,av⟩
 simp only[execOp,Sem.run_bind,N,Result.andThen_ok,Sem.run_pure]
theorem either_heap{ρ:Operand->Value}{o:Oper}{H H':Heap}{r:AN}(z:aX o.op=true\/NilCut ρ o)(h:aop P ρ o H=some (r,H')):H'=H:=by
 rcases z with z|z
 ·exact kj z h
 exact(ef z h).1
theorem kO{ρ:Operand->Value}{o:Oper}{H H':Heap}{r:AN}(z:aX o.op=true\/NilCut ρ o)(h:aop P ρ o H=some (r,H')): ∃v,r= .val v:=by
 rcases z with z|z
 ·exact jt z h
 exact(ef z h).2
structure Trace(P:Program)(G:Nat)(cf:cj)(ops:Array Oper)(st:Nat->St)(vl:Nat->Value)(nf:Nat->Inf):Prop where
 fact: ∀k o,ops[k]?=some o->OpFact P G cf ops o (st k) (st (k+1)) (vl k) (nf k)
 past: ∀k,ops.size<=k->st (k+1)=st k
 comp: ∀j k,j<k->k<ops.size->bo (cg ops) j k=true\/dW (nf j) (nf k)=true
 reg:RegFacts ops
 wf: ∀k,WF (st k).heap
section
variable {cf:cj} {ops:Array Oper} {st:Nat->St} {vl:Nat->Value} {nf:Nat->Inf}
theorem Trace.mono(T:Trace P G cf ops st vl nf)(k:Nat):(st k).heap.next<=(st (k+1)).heap.next:=by
 rcases a0k k ops.size with h|h
 ·exact(T.fact k ops[k] (a0J h)).next
 rw[T.past k h];exact a0a _
theorem Trace.monoL(T:Trace P G cf ops st vl nf){j k:Nat}(h:j<=k):(st j).heap.next<=(st k).heap.next:=by
 induction h with
 |refl=>exact a0a _
 |step _ ih=>exact a0c ih (T.mono _)
theorem Trace.sizeL(T:Trace P G cf ops st vl nf)(k:Nat):(st k).size=(st 0).size:=by
 induction k with
 |zero=>rfl
 |succ k ih=>
  rcases a0k k ops.size with h|h
  ·rw[(T.fact k ops[k] (a0J h)).size,ih]
  rw[T.past k h,ih]
theorem Trace.tm(T:Trace P G cf ops st vl nf)(k t:Nat):cC (st (k+1)).tmps t=if iX ops k=some t then vl k else cC (st k).tmps t:=by
 unfold iX;rcases a0k k ops.size with h|h
 ·have z:=a0J h;rw[(T.fact k ops[k] z).tm t,z];rfl
 rw[T.past k h,Array.getElem?_eq_none h];simp
theorem Trace.chg(T:Trace P G cf ops st vl nf){k b:Nat}(h:chg st k b):
  k<ops.size/\((st k).heap.next<=b/\b<(st (k+1)).heap.next\/∃w,nf k= .x w/\b∈w/\b<(st k).heap.next):=by
 have Z:k<ops.size:=by
  rcases a0k k ops.size with Z|Z
  ·exact Z
  exfalso;unfold R.chg at h;rw[T.past k Z]at h;exact h rfl
 refine⟨Z,?_⟩
 have F:=T.fact k ops[k] (a0J Z)
 have ar:b<(st (k+1)).heap.next:=by
  rcases a0k b (st (k+1)).heap.next with E|E
  ·exact E
  exact absurd (F.far b E) h
 rcases a0k b (st k).heap.next with hb|hb
 ·right;rcases F.how with⟨_,_,_,_,hs⟩|⟨_,_,H1,H2,ad,aw,A,U,ax,al⟩
  ·exact absurd (hs b) h
  rcases al with⟨hf,V⟩|⟨hf,V⟩|⟨b',hf,ag⟩|⟨w,hf,ay,ao⟩
  ·--a value operation changes nothing
   exfalso;unfold dV at A;split at A
   ·rename_i u E z;simp only[a00,a03]at A;have:=(either_heap V z)
    rw[←A.2,this]at U;exact h (by rw[U b,ad b])
   ·rename_i E z;have:=(kO V z)
    obtain⟨_,N⟩:=this;cases N
   ·rename_i f args E z;obtain⟨_,N⟩:=kO V z;cases N
   cases A
  ·exfalso;unfold dV at A;split at A
   ·rename_i u E z;simp only[a00,a03]at A;obtain⟨_,a0,_,an,_⟩:=eI V z;rw[←A.2,an]at U;exact h (by rw[U b,Heap.get_push_ne _ _ (by omega),ad b])
   ·rename_i E z;obtain⟨_,_,N,_⟩:=eI V z;cases N
   ·rename_i f args E z;obtain⟨_,_,N,_⟩:=eI V z;cases N
   cases A
  ·exfalso;unfold dV at A;split at A
   ·rename_i u E z;simp only[a00,a03]at A;obtain⟨_,_,_,hH,_,_⟩:=d7 ag z;rw[←A.2,hH]at U;exact h (by rw[U b,ad b])
   ·rename_i E z;obtain⟨_,_,N,_⟩:=d7 ag z;cases N
   ·rename_i f args E z;obtain⟨_,_,N,_⟩:=d7 ag z;cases N
   cases A
  rcases Classical.em (b∈w) with hm|hm
  ·exact⟨w,hf,hm,hb⟩
  exact absurd (ao b hb hm) h
 exact .inl ⟨hb,ar⟩
end
end
end Go.R
set_option linter.unusedVariables false
namespace Go.R
section
variable {P:Program} {G:Nat} {cf:cj} {ops:Array Oper} {st:Nat->St} {vl:Nat->Value} {nf:Nat->Inf}
variable {μ0 μ:Emb} {w0 w:World} {d0:List Deferred} {S:Nat->Bool} {a:Act} {i:Nat} {o:Oper}
structure Ready(ops:Array Oper)(S:Nat->Bool)(i:Nat)(o:Oper):Prop where
 at_:ops[i]?=some o
 new:S i=false
 edges: ∀e∈o.after.toList,Region.binds .any e=true->S e.on=true
theorem Ready.lt(R:Ready ops S i o):i<ops.size:=(a0E.1 R.at_).1
theorem Ready.dc(R:Ready ops S i o)(h:DC ops S):DC ops (iS S i):=by
 intro k x z hs e N E;by_cases A:k=i
 ·subst A;rw[R.at_]at z;injection z with z;subst z;have:=R.edges e N E;unfold iS;rw[this];simp
 rw[fM S A]at hs;have:=h k x z hs e N E;unfold iS;rw[this];simp
theorem Ready.ahead(R:Ready ops S i o)(h:DC ops S){k:Nat}(z:k≠i)(A:bo (cg ops) k i=true):S k=true:=by have:=(R.dc h).anc i (fK S i) A;rwa [fM S z]at this
theorem Ready.behind(R:Ready ops S i o)(h:DC ops S){k:Nat}(z:bo (cg ops) i k=true):S k=false:=by
 cases hs:S k with
 |false=>rfl
 |true=>have:=h.anc k hs z;rw[R.new]at this;cases this
theorem Ready.iff_(R:Ready ops S i o)(h:DC ops S){k:Nat}(z:k<i->bo (cg ops) k i=true)(A:i<k->bo (cg ops) i k=true):S k=true↔k<i:=by
 rcases a1i k i with hlt|rfl|hgt
 ·exact⟨fun _=>hlt,fun _=>R.ahead h (by omega) (z hlt)⟩
 ·rw[R.new];simp
 rw[R.behind h (A hgt)];simp;omega
theorem Ready.iffAdd(R:Ready ops S i o)(h:DC ops S){k:Nat}(A:k<i->bo (cg ops) k i=true)(E:i<k->bo (cg ops) i k=true):iS S i k=true↔k<i+1:=by
 by_cases z:k=i
 ·subst z;rw[fK];simp
 rw[fM S z,R.iff_ h A E];omega
theorem share(T:Trace P G cf ops st vl nf)(V:ops[i]?=some o){t:Tmp}(z:t∈o.looksAt ops\/o.dst=some t){k:Nat}(A:iX ops k=some t):
  (k<i->bo (cg ops) k i=true)/\(i<k->bo (cg ops) i k=true):=by
 unfold iX at A
 cases N:ops[k]? with
 |none=>rw[N]at A;simp at A
 |some x=>
  rw[N]at A
  simp only[a0q]at A
  constructor
  ·intro E;rcases T.reg.pair k i x o E N V with h|h
   ·exact h
   exfalso;obtain⟨Z,U,p3⟩:=Oper.apart_spec h;rcases z with z|z
   ·exact Z t A z
   exact U t A z
  intro E
  rcases T.reg.pair i k o x E V N with h|h
  ·exact h
  exfalso
  obtain⟨Z,U,p3⟩:=Oper.apart_spec h
  rcases z with z|z
  ·exact p3 t A z
  exact U t z A
theorem slot_here(T:Trace P G cf ops st vl nf)(I:Inv ops st vl μ0 w0 d0 S μ a w)(R:Ready ops S i o){t:Tmp}(A:t∈o.looksAt ops):
  VRel μ (cC (st i).tmps t) (a.tmps.getD t undef):=by
 have:=I.tm t
 rw[tv_eq st vl ops (i:=i) (fun k=>T.tm k t) ops.size (fun k _ z=>R.iff_ I.dc (share T R.at_ (.inl A) z).1 (share T R.at_ (.inl A) z).2)]at this
 rwa [a26 (a1C R.lt)]at this
theorem operand_here(T:Trace P G cf ops st vl nf)(I:Inv ops st vl μ0 w0 d0 S μ a w)(R:Ready ops S i o)(E:GRel μ G)(z:o.op.operands.toList.all (bC G)=true):
  ∀x∈o.op.operands,VRel μ (cP (st i).tmps x) (a.eval x):=by
 intro x A
 refine eval_of E (a0y.1 z x (by simpa using A)) fun t N=>?_
 subst N
 refine slot_here T I R ?_
 unfold Oper.looksAt
 rw[a07]
 left
 rw[List.mem_filterMap]
 exact⟨.tmp t,by simpa using A,rfl⟩
theorem wanted_here(T:Trace P G cf ops st vl nf)(I:Inv ops st vl μ0 w0 d0 S μ a w)(R:Ready ops S i o):bd ops o (st i).tmps=Region.wanted o (yielded ops a.tmps):=by
 refine wanted_eq (μ:=μ) fun j w A d z=>slot_here T I R ?_
 unfold Oper.looksAt;rw[a07];right;rw[A];simp only;rw[z];simp
theorem between(T:Trace P G cf ops st vl nf){j k b:Nat}(z:(st j).heap.next<=b)(A:b<(st (j+1)).heap.next)(E:(st k).heap.next<=b)(N:b<(st (k+1)).heap.next):j=k:=by
 rcases a1i j k with h|h|h
 ·have:=T.monoL (show j+1<=k from h);omega
 ·exact h
 have:=T.monoL (show k+1<=j from h);omega
theorem kH(T:Trace P G cf ops st vl nf)(I:Inv ops st vl μ0 w0 d0 S μ a w)(R:Ready ops S i o)(b:Nat)(z:(st i).heap.next<=b)(A:b<(st (i+1)).heap.next):μ b=none:=by
 cases E:μ b with
 |none=>rfl
 |some l=>
  exfalso
  rcases I.dom b l E with h|⟨k,_,hs,h3,h4⟩|h
  ·have:=T.monoL (a0D i);omega
  ·have:=between T z A h3 h4;subst this;rw[R.new]at hs;cases hs
  have:=T.monoL (show i+1<=ops.size from R.lt);omega
theorem cont_here(T:Trace P G cf ops st vl nf)(I:Inv ops st vl μ0 w0 d0 S μ a w)(R:Ready ops S i o){b:Nat}{l:Loc}(V:μ b=some l)(Z:b<(st i).heap.next)
  (U: ∀k w',nf k= .x w'->b∈w'->k<ops.size->(k<i->bo (cg ops) k i=true)/\(i<k->bo (cg ops) i k=true)):jj st S ops.size b=(st i).heap.get b:=by
 rw[jW st (i:=i) ops.size,a26 (a1C R.lt)]
 intro k E hc
 obtain⟨_,⟨z,A⟩|⟨w',z,A,h3⟩⟩:=T.chg hc
 ·--made there
  have N:k<i:=by
   rcases a0k k i with h|h
   ·exact h
   have:=T.monoL h;omega
  refine⟨fun _=>N,fun _=>?_⟩;rcases I.dom b l V with h|⟨k',_,hs,h4,h5⟩|h
  ·have:=T.monoL (a0D k);omega
  ·have:=between T z A h4 h5;subst this;exact hs
  have:=T.monoL (a1C R.lt);omega
 exact R.iff_ I.dc (U k w' z A E).1 (U k w' z A E).2
theorem ir(T:Trace P G cf ops st vl nf)(I:Inv ops st vl μ0 w0 d0 S μ a w)(R:Ready ops S i o){b:Nat}(hb:b<(st i).heap.next->∃l,μ b=some l)(ai:b<(st (i+1)).heap.next)
  (Z: ∀k w',nf k= .x w'->b∈w'->k<ops.size->(k<i->bo (cg ops) k i=true)/\(i<k->bo (cg ops) i k=true)):jj st (iS S i) ops.size b=(st (i+1)).heap.get b:=by
 rw[jW st (i:=i+1) ops.size,a26 R.lt]
 intro k U hc
 by_cases E:k=i
 ·subst E;rw[fK];simp
 obtain⟨_,⟨z,A⟩|⟨w',z,A,h3⟩⟩:=T.chg hc
 ·have V:k<i:=by
   rcases a0k k i with h|h
   ·exact h
   have:=T.monoL (show i+1<=k by omega);omega
  rw[fM S E];refine⟨fun _=>by omega,fun _=>?_⟩;have N:b<(st i).heap.next:=by have:=T.monoL (show k+1<=i from V);omega
  obtain⟨l,hl⟩:=hb N;rcases I.dom b l hl with h|⟨k',_,hs,h4,h5⟩|h
  ·have:=T.monoL (a0D k);omega
  ·have:=between T z A h4 h5;subst this;exact hs
  have:=T.monoL (a1C R.lt);omega
 exact R.iffAdd I.dc (Z k w' z A U).1 (Z k w' z A U).2
theorem jV(T:Trace P G cf ops st vl nf){b:Nat}(h: ¬chg st i b):jj st (iS S i) ops.size b=jj st S ops.size b:=by refine(kQ st ops.size fun k _ hc=>?_);exact fM S (fun e=>by subst e;exact h hc)
theorem jg{b:Nat}: ∀{l:List Nat},memB b l=true↔b∈l
 | []=>by simp[memB]
 |c::l=>by
  unfold memB;rw[a0G,jg (l:=l),a0m];constructor
  ·rintro(h|h)
   ·exact .inl (a09 h)
   exact .inr h
  rintro(rfl|h)
  ·exact .inl (a0Z b)
  exact .inr h
theorem ic(T:Trace P G cf ops st vl nf)(I:Inv ops st vl μ0 w0 d0 S μ a w)(R:Ready ops S i o):
  (∀t,o.dst=some t->tv st vl ops (iS S i) ops.size t=vl i)/\(∀t,o.dst≠some t->tv st vl ops (iS S i) ops.size t=tv st vl ops S ops.size t):=by
 constructor
 ·intro t A;rw[tv_eq st vl ops (i:=i+1) (fun k=>T.tm k t) ops.size (fun k _ z=>R.iffAdd I.dc (share T R.at_ (.inr A) z).1 (share T R.at_ (.inr A) z).2),a26 R.lt,T.tm];rw[if_pos (by unfold iX;rw[R.at_];exact A)]
 intro t A
 refine tv_congr st vl ops ops.size fun k _ z=>fM S ?_
 intro e
 subst e
 unfold iX at z
 rw[R.at_]at z
 exact A z
theorem fV(T:Trace P G cf ops st vl nf)(I:Inv ops st vl μ0 w0 d0 S μ a w)(R:Ready ops S i o)(z: ∀b,(st (i+1)).heap.get b=(st i).heap.get b){v':Value}(N:VRel μ (vl i) v'):
  Inv ops st vl μ0 w0 d0 (iS S i) μ (a.put o.dst v') w:=by
 obtain⟨U,V⟩:=ic T I R
 refine Inv.next (H:=bare (st i).heap.next) (Hn:=bare (st i).heap.next) I R.lt R.at_ (Post.refl (jl μ _ w)) N (fun k=>T.mono k) (a0a _) (T.mono i)
  (fun b l x _ h=>by rw[d5]at h;cases h) (fun b l x _ h=>by rw[d5]at h;cases h) (fun b l x A _ hc=>⟨A,rfl,?_⟩) (R.dc I.dc) (fun d E=>?_) U V
 ·rw[jV T (fun e=>e (z b))]at hc;exact hc
 have:=(T.fact i o R.at_).dlt d E
 rwa [T.sizeL i]at this
theorem inv_step(fd:dM P G cf)(T:Trace P G cf ops st vl nf)(I:Inv ops st vl μ0 w0 d0 S μ a w)(hG:GRel μ0 G)(R:Ready ops S i o){K:Act->World->Prop}{Q:Exit->Act->World->Prop}
  (hK: ∀μ' a' w',Inv ops st vl μ0 w0 d0 (iS S i) μ' a' w'->K a' w'):wpOp P ops Q i K a w:=by
 have dk:GRel μ G:=hG.mono I.ext0
 have F:=T.fact i o R.at_
 have bz:=wanted_here T I R
 unfold wpOp
 rw[R.at_]
 simp only
 rcases F.how with⟨hq,hv,hf,hn,hs⟩|⟨hq,ds,H1,H2,ai,ad,N,al,be,c7⟩
 ·rw[bz]at hq;rw[hq];simp only[a0K,if_false];exact hK μ _ w (fV T I R hs (by rw[hv];exact VRel.undef))
 rw[bz]at hq
 rw[hq]
 simp only[if_true]
 left
 have hρ:=operand_here T I R dk ds
 have a7:WF (st i).heap:=T.wf i
 rcases c7 with⟨hf,hk|hk⟩|⟨hf,hk⟩|⟨b,hf,a3⟩|⟨wr,hf,go,f2⟩
 rotate_left
 ·--a part of the nil slice
  unfold dV at N;split at N
  case h_2=>rename_i U z;obtain⟨_,_,A⟩:=ef hk z;cases A
  case h_3=>rename_i f args U z;obtain⟨_,_,A⟩:=ef hk z;cases A
  case h_4=>cases N
  rename_i u U z;simp only[a00,a03]at N;obtain⟨e1,_⟩:=ef hk z;subst e1;obtain⟨rfl,rfl⟩:=N;obtain⟨v',an,hr⟩:=nilcut_sound hk hρ z w;unfold Oper.wp;rw[an,Oper.upon_value];exact hK μ _ w (fV T I R (fun b=>by rw[al b,ai b]) hr)
 rotate_right
 ·--a value
  have z: ∃u,aop P (cP (st i).tmps) o H1=some (.val u,H1)/\u=vl i/\H2=H1:=by
   unfold dV at N;split at N
   ·rename_i u U z;simp only[a00,a03]at N;have:=kj hk z;subst this;exact⟨u,z,N.1,N.2.symm⟩
   ·rename_i U z;obtain⟨_,A⟩:=jt hk z;cases A
   ·rename_i f args U z;obtain⟨_,A⟩:=jt hk z;cases A
   cases N
  obtain⟨u,z,rfl,rfl⟩:=z;obtain⟨_,v,v',ch,an,hr⟩:=ju hk hρ z;injection ch with ch;subst ch;unfold Oper.wp;rw[an w,Oper.upon_value];exact hK μ _ w (fV T I R (fun b=>by rw[al b,ai b]) hr)
 ·--a new block
  unfold dV at N;split at N
  case h_2=>rename_i U z;obtain⟨_,_,A,_⟩:=eI hk z;cases A
  case h_3=>rename_i f args U z;obtain⟨_,_,A,_⟩:=eI hk z;cases A
  case h_4=>cases N
  rename_i u U z;simp only[a00,a03]at N;obtain⟨rfl,rfl⟩:=N;obtain⟨u,V,hu,c8,d1⟩:=eI hk z;injection hu with hu;subst hu c8;have b7:(st (i+1)).heap.next=(st i).heap.next+1:=by rw[be,Heap.next_push,ad]
  have e9:=d1 (bare (st i).heap.next) (by rw[ad];rfl);obtain⟨n,w',μ',an,hp,hr⟩:=hJ hρ (jl μ _ w) (fun b ao ar=>kH T I R b ao (by rw[b7];exact ar)) e9;unfold Oper.wp;rw[an];cases n with
  |value v'=>
   rw[Oper.upon_value]
   obtain⟨t1,t2⟩:=ic T I R
   have hw: ∀k w',nf k= .x w'->(st i).heap.next∈w'->k<ops.size->(k<i->bo (cg ops) k i=true)/\(i<k->bo (cg ops) i k=true):=by
    intro k w' A hm av;have f1:(st i).heap.next<(st k).heap.next:=by
     have Fk:=T.fact k ops[k] (a0J av);rcases Fk.how with⟨_,_,E,_⟩|⟨_,_,_,_,_,_,_,_,_,fz⟩
     ·rw[A]at E;cases E
     rcases fz with⟨E,_⟩|⟨E,_⟩|⟨_,E,_⟩|⟨w2,E,f0,_⟩
     ·rw[A]at E;cases E
     ·rw[A]at E;cases E
     ·rw[A]at E;cases E
     rw[A]at E;injection E with E;subst E;exact f0 _ hm
    constructor
    ·intro a1;have:=T.monoL (a1C a1);omega
    intro a0;rcases T.comp i k a0 av with h|h
    ·exact h
    rw[hf,A]at h;simp only[dW]at h;rw[jg.2 hm]at h;cases h
   have d2:jj st (iS S i) ops.size (st i).heap.next=some V:=by rw[ir T I R (fun h=>absurd h (Nat.lt_irrefl _)) (by rw[b7];omega) hw,al,←ad,Heap.get_push_same]
   have c5: ∀b x,((bare (st i).heap.next).push V).get b=some x->b=(st i).heap.next/\x=V:=by
    intro b x A;by_cases a8:(bare (st i).heap.next).next=b
    ·subst a8;rw[Heap.get_push_same]at A;injection A with A;exact⟨rfl,A.symm⟩
    rw[Heap.get_push_ne _ _ a8,d5]at A;cases A
   refine hK μ' _ w' (Inv.next (H:=bare (st i).heap.next) (Hn:=(bare (st i).heap.next).push V) I R.lt R.at_ hp hr (fun k=>T.mono k) (a0a _) (by rw[b7];exact a0a _)
    (fun b l x _ h=>by rw[d5]at h;cases h) (fun b l x _ h=>?_) (fun b l x Z hg hc=>?_) (R.dc I.dc) (fun d hd=>?_) t1 t2)
   ·obtain⟨rfl,rfl⟩:=c5 b x h;exact d2
   ·have a8:b≠(st i).heap.next:=by rintro rfl;have:((bare (st i).heap.next).push V).get (st i).heap.next=some V:=Heap.get_push_same (bare (st i).heap.next) V;rw[this]at hg;cases hg
    have b6: ¬chg st i b:=by intro b5;apply b5;rw[al,Heap.get_push_ne _ _ (by rw[ad];exact Ne.symm a8),ai]
    rw[jV T b6]at hc;rcases hp.dom b l Z with U|⟨U,h2⟩
    ·exact⟨U,rfl,hc⟩
    exfalso;have f9:(st i).heap.next<=b:=U;have gb:b<(st i).heap.next+1:=h2;omega
   have:=F.dlt d hd
   rwa [T.sizeL i]at this
  |_=>exact hr.elim
 ·--a load,or a part of a slice
  unfold dV at N;split at N
  case h_2=>rename_i U z;obtain⟨_,_,A,_⟩:=d7 a3 z;cases A
  case h_3=>rename_i f args U z;obtain⟨_,_,A,_⟩:=d7 a3 z;cases A
  case h_4=>cases N
  rename_i u U z;simp only[a00,a03]at N;obtain⟨rfl,rfl⟩:=N;obtain⟨u,V,hu,rfl,b9,c4⟩:=d7 a3 z;injection hu with hu;subst hu;obtain⟨l,hμ⟩:=reads_loc a3 hρ;have dt:b<(st i).heap.next:=a7.lt (by rw[←ai];exact b9);have c6:=cont_here T I R hμ dt (fun k w' a4 hm av=>by
   constructor
   ·intro a1;rcases T.comp k i a1 R.lt with h|h
    ·exact h
    rw[hf,a4]at h;simp only[dW]at h;rw[jg.2 hm]at h;cases h
   intro a0;rcases T.comp i k a0 av with h|h
   ·exact h
   rw[hf,a4]at h;simp only[dW]at h;rw[jg.2 hm]at h;cases h)
  have ea:WRel μ ((bare (st i).heap.next).put b V) w:=by
   refine⟨fun b' l' o' e6 ax=>?_,fun b1 b2 l1 l2 o1 o2 aw _ _ bk bl=>?_⟩
   ·by_cases dl:b=b'
    ·subst dl;rw[Heap.get_put_same]at ax;injection ax with ax;subst ax;exact I.obj b l' V e6 (by rw[c6,←ai];exact b9)
    rw[Heap.get_put_ne _ _ dl,d5]at ax;cases ax
   exfalso;by_cases U:b=b1
   ·by_cases h2:b=b2
    ·exact aw (U.symm.trans h2)
    rw[Heap.get_put_ne _ _ h2,d5]at bl;cases bl
   rw[Heap.get_put_ne _ _ U,d5]at bk;cases bk
  obtain⟨v',dd,hr⟩:=reads_sound a3 hρ ea (c4 _ (Heap.get_put_same _ _ _));unfold Oper.wp;rw[dd,Oper.upon_value];exact hK μ _ w (fV T I R (fun b=>by rw[al b,ai b]) hr)
 ·--any other
  have ck: ∀b k w',nf k= .x w'->b∈w'->k<ops.size->(k<i->bo (cg ops) k i=true)/\(i<k->bo (cg ops) i k=true):=by
   intro b k w' a4 hm av;have aw:isNilL w'=false:=by cases w' with
    |nil=>simp at hm
    |cons _ _=>rfl
   constructor
   ·intro a1;rcases T.comp k i a1 R.lt with h|h
    ·exact h
    rw[hf,a4]at h;simp only[dW,aw,a23]at h;cases h
   intro a0;rcases T.comp i k a0 av with h|h
   ·exact h
   rw[hf,a4]at h;simp only[dW,aw,a24]at h;cases h
  have a9: ∀b l x,μ b=some l->H1.get b=some x->jj st S ops.size b=some x:=by intro b l x Z A;rw[ai]at A;rw[cont_here T I R Z (a7.lt A) (ck b)];exact A
  have ci:WF H1:=fun b Z=>by rw[ai];exact a7 b (by rw[←ad];exact Z)
  have c9:WRel μ H1 w:=⟨fun b l x Z A=>I.obj b l x Z (a9 b l x Z A),fun b1 b2 l1 l2 o1 o2 aw ao ar bk bl=>I.inj b1 b2 l1 l2 o1 o2 aw ao ar (a9 b1 l1 o1 ao bk) (a9 b2 l2 o2 ar bl)⟩
  refine iL fd ci hρ dk c9 (fun b ao ar=>kH T I R b (by rw[←ad];exact ao) (by rw[be];exact ar)) N ?_;intro μ' w' v' hp hv;obtain⟨t1,t2⟩:=ic T I R;have bb: ∀b l,μ' b=some l->b<(st i).heap.next->∃l,μ b=some l:=by
   intro b l Z f1;rcases hp.dom b l Z with h|⟨h,_⟩
   ·exact⟨l,h⟩
   rw[ad]at h;omega
  refine hK μ' _ w' (Inv.next (H:=H1) (Hn:=H2) I R.lt R.at_ hp hv (fun k=>T.mono k) (by rw[ad];exact a0a _) (by rw[be];exact a0a _) a9 (fun b l x Z A=>?_) (fun b l x Z A hc=>?_) (R.dc I.dc) (fun d hd=>?_) t1 t2)
  ·rw[←al]at A;rw[ir T I R (bb b l Z) ((T.wf (i+1)).lt A) (ck b)];exact A
  ·rw[←al]at A;have dn:(st (i+1)).heap.next<=b:=by
    rcases a0k b (st (i+1)).heap.next with h|h
    ·rw[ir T I R (bb b l Z) h (ck b),A]at hc;cases hc
    exact h
   have b6: ¬chg st i b:=fun b5=>b5 (F.far b dn)
   rw[jV T b6]at hc;refine⟨?_,?_,hc⟩
   ·rcases hp.dom b l Z with h|⟨_,h⟩
    ·exact h
    rw[←be]at h;omega
   exact ci b (by rw[ad];exact a0c F.next dn)
  have:=F.dlt d hd;rwa [T.sizeL i]at this
end
end Go.R
namespace Go.R
section
variable {P:Program} {G:Nat} {cf:cj} {ops:Array Oper} {st:Nat->St} {vl:Nat->Value} {nf:Nat->Inf}
variable {μ0 μ:Emb} {w0 w:World} {d0:List Deferred} {a:Act}
def cnt(S:Nat->Bool):Nat->Nat
 |0=>0
 |n+1=>cnt S n+if S n=true then 0 else 1
theorem cnt_far{S:Nat->Bool}{i:Nat}: ∀n,n<=i->cnt (iS S i) n=cnt S n
 |0,_=>rfl
 |n+1,h=>by have:=cnt_far (S:=S) (i:=i) n (by omega);simp only[cnt,this,fM S (show n≠i by omega)]
theorem cnt_add{S:Nat->Bool}{i:Nat}(hs:S i=false): ∀n,i<n->cnt (iS S i) n+1=cnt S n
 |0,h=>by omega
 |n+1,h=>by
  by_cases hi:i=n
  ·subst hi;simp only[cnt,cnt_far i (a0a i),fK,hs,if_true,a0K,if_false]
  have:=cnt_add hs n (by omega);simp only[cnt,fM S (show n≠i by omega)];omega
theorem jk{S:Nat->Bool}: ∀n,cnt S n=0->∀k,k<n->S k=true
 |0,_,k,h=>by omega
 |n+1,h,k,hk=>by
  simp only[cnt]at h;by_cases hs:S n=true
  ·by_cases z:k=n
   ·subst z;exact hs
   exact jk n (by omega) k (by omega)
  rw[if_neg hs]at h;omega
theorem cnt_le{S:Nat->Bool}: ∀n,cnt S n<=n
 |0=>a0a _
 |n+1=>by have:=cnt_le (S:=S) n;simp only[cnt];split<;>omega
def gh(listed:Array Bool):Nat->Bool:=fun k=>listed.getD k false
theorem setOf_set{listed:Array Bool}{i:Nat}(hi:i<listed.size):gh (listed.setIfInBounds i true)=iS (gh listed) i:=by
 funext k;unfold gh iS;simp only[a0U,a1c];by_cases z:i=k
 ·subst z;simp[hi]
 have:Nat.beq k i=false:=by
  cases A:Nat.beq k i with
  |false=>rfl
  |true=>exact absurd (a09 A).symm z
 simp[z,this]
theorem jD{listed:Array Bool}(Z:listed.size=ops.size){i:Nat}:i∈Region.ready .any ops listed↔
  ∃o,Ready ops (gh listed) i o:=by
 unfold Region.ready
 rw[a1H,a22]
 constructor
 ·rintro⟨hi,h⟩;have z:ops[i]?=some ops[i]:=a0J hi;rw[z]at h;simp only[a0e,a0I,a1V,a0C]at h;refine⟨ops[i],z,?_,fun e E A=>?_⟩
  ·unfold gh;have T:=h.1;simp only[a0U,a0J (show i<listed.size by omega),a0C]at T⊢;exact T
  have U:=h.2;rw[Array.all_eq_true']at U;have:=U e (by simpa using E);rw[A]at this;simpa[gh] using this
 rintro⟨o,z,N,E⟩
 have hi:i<ops.size:=(a0E.1 z).1
 refine⟨hi,?_⟩
 rw[z]
 simp only[a0e,a0I,a1V,a0C]
 constructor
 ·unfold gh at N;simp only[a0U,a0J (show i<listed.size by omega),a0C]at N⊢;exact N
 rw[Array.all_eq_true']
 intro e V
 cases A:Region.binds .any e with
 |false=>rfl
 |true=>
  have:=E e (by simpa using V) A
  simpa[gh] using this
theorem all_of_none(T:Trace P G cf ops st vl nf){listed:Array Bool}(V:listed.size=ops.size)(h:Region.ready .any ops listed=[]): ∀k,k<ops.size->gh listed k=true:=by
 intro k;induction k using Nat.strongRecOn with
 |_ k ih=>
  intro U
  cases hs:gh listed k with
  |true=>rfl
  |false=>
   exfalso
   have A:=a0J U
   have:k∈Region.ready .any ops listed:=(jD V).2 ⟨ops[k],A,hs,fun e N E=>by
    have z:=T.reg.back k ops[k] A e N E;exact ih e.on z (by omega)⟩
   rw[h]at this;simp at this
theorem any_sound(E:dM P G cf)(T:Trace P G cf ops st vl nf)(U:GRel μ0 G){Q:Exit->Act->World->Prop}
  (N: ∀S μ a w,(∀k,k<ops.size->S k=true)->Inv ops st vl μ0 w0 d0 S μ a w->Q .normal a w):
  ∀(fuel:Nat) (listed:Array Bool) (μ:Emb) (a:Act) (w:World),listed.size=ops.size->cnt (gh listed) ops.size<=fuel->Inv ops st vl μ0 w0 d0 (gh listed) μ a w->
   wpAny P .any ops Q fuel listed a w
 |0,listed,μ,a,w,hl,hc,I=>by
  have z:=jk ops.size (by omega:cnt (gh listed) ops.size=0);refine⟨?_,N _ μ a w z I⟩;cases hr:Region.ready .any ops listed with
  |nil=>rfl
  |cons i t=>
   exfalso
   have hm:i∈Region.ready .any ops listed:=by rw[hr];simp
   obtain⟨o,R⟩:=(jD hl).1 hm
   have:=z i R.lt
   rw[R.new]at this;cases this
 |fuel+1,listed,μ,a,w,hl,hc,I=>by
  refine⟨fun h=>N _ μ a w (all_of_none T hl h) I,fun i hi=>?_⟩;obtain⟨o,R⟩:=(jD hl).1 hi;refine inv_step E T I U R fun μ' Z w' V=>?_
  have A:=setOf_set (listed:=listed) (i:=i) (by rw[hl];exact R.lt);refine any_sound E T U N fuel (listed.setIfInBounds i true) μ' Z w' (by simp[hl]) ?_ (by rw[A];exact V);rw[A];have:=cnt_add R.new ops.size R.lt;omega
theorem inv_start(T:Trace P G cf ops st vl nf)(ht:TRel μ0 (st 0).tmps (st 0).size a.tmps)(hw:WRel μ0 (st 0).heap w)(E: ∀b l,μ0 b=some l->b<(st 0).heap.next\/(st ops.size).heap.next<=b)(S:Nat->Bool)(A: ∀k,S k=false):
  Inv ops st vl μ0 w a.defers S μ0 a w:=by
 have hc: ∀b,jj st S ops.size b=(st 0).heap.get b:=by intro b;have:=jW st (S:=S) (b:=b) (i:=0) ops.size (fun k _ _=>by rw[A k];simp);rwa [Nat.min_zero]at this
 have ao: ∀t,tv st vl ops S ops.size t=cC (st 0).tmps t:=by intro t;have:=tv_eq st vl ops (S:=S) (t:=t) (i:=0) (fun k=>T.tm k t) ops.size (fun k _ _=>by rw[A k];simp);rwa [Nat.min_zero]at this
 refine⟨(fun k o _ Z=>by rw[A k]at Z;cases Z),fun b l z=>?_,fun b l o z N=>hw.obj b l o z (by rw[←hc];exact N),fun b1 b2 l1 l2 o1 o2 ag U V ai al=>hw.inj b1 b2 l1 l2 o1 o2 ag U V (by rw[←hc];exact ai) (by rw[←hc];exact al),
  ht.1,fun t=>by rw[ao];exact ht.2 t,rfl,fun _ _ h=>h,fun _ _ h=> .inl h,a0a _,rfl,rfl,rfl,fun _ _ _=>rfl,fun b l o z N ad=> .inr ⟨b,l,o,z,by rw[←hc];exact N,ad,id,rfl⟩⟩
 rcases E b l z with h|h
 ·exact .inl h
 exact .inr (.inr h)
theorem inv_end(T:Trace P G cf ops st vl nf){S:Nat->Bool}(z: ∀k,k<ops.size->S k=true)(I:Inv ops st vl μ0 w0 d0 S μ a w):
  Post μ0 (st 0).heap w0 μ (st ops.size).heap w/\TRel μ (st ops.size).tmps (st ops.size).size a.tmps/\a.defers=d0:=by
 have hc: ∀b,jj st S ops.size b=(st ops.size).heap.get b:=by intro b;have:=jW st (S:=S) (b:=b) (i:=ops.size) ops.size (fun k A _=>by rw[z k A];simp[A]);rwa [Nat.min_self]at this
 have al: ∀t,tv st vl ops S ops.size t=cC (st ops.size).tmps t:=by intro t;have:=tv_eq st vl ops (S:=S) (t:=t) (i:=ops.size) (fun k=>T.tm k t) ops.size (fun k A _=>by rw[z k A];simp[A]);rwa [Nat.min_self]at this
 refine⟨⟨I.ext0,I.dom0,I.grow0,I.os0,I.tape0,I.out0,I.keep0,fun b l o E N Z=>I.img0 b l o E (by rw[hc];exact N) Z,
  ⟨fun b l o E N=>I.obj b l o E (by rw[hc];exact N),fun b1 b2 l1 l2 o1 o2 ad U V ag ai=>I.inj b1 b2 l1 l2 o1 o2 ad U V (by rw[hc];exact ag) (by rw[hc];exact ai)⟩⟩,⟨?_,fun t=>?_⟩,I.defers⟩
 ·rw[I.size,T.sizeL ops.size]
 have:=I.tm t
 rwa [al]at this
end
section
variable {P:Program} {G:Nat} {cf:cj} {ops:Array Oper}
theorem gK(V:dM P G cf): ∀(l:List Oper) (k:Nat) (fs:List (Nat×Inf)) (s s':St),ops.toList.drop k=l->k+l.length=ops.size->bn P G cf ops k fs l s=some s'->WF s.heap->
  ∃(st:Nat->St) (vl:Nat->Value) (nf:Nat->Inf),st k=s/\st ops.size=s'/\(∀j,ops.size<=j->st (j+1)=st j)/\(∀j,k<=j->WF (st j).heap)/\
   (∀j o,k<=j->ops[j]?=some o->OpFact P G cf ops o (st j) (st (j+1)) (vl j) (nf j))/\
   (∀j,k<=j->j<ops.size->∀q∈fs,bo (cg ops) q.1 j=true\/dW q.2 (nf j)=true)/\
   (∀i j,k<=i->i<j->j<ops.size->bo (cg ops) i j=true\/dW (nf i) (nf j)=true)
 | [],k,fs,s,s',hd,hlen,h,hw=>by simp only[bn,a00]at h;subst h;simp only[a0f,a2g]at hlen;refine⟨fun _=>s,fun _=>undef,fun _=> .v,rfl,rfl,fun _ _=>rfl,fun _ _=>hw,fun j o E N=>?_,fun j E a6=>by omega,fun i j hi ad E=>by omega⟩;have:=(a0E.1 N).1;omega
 |x::os,k,fs,s,s',hd,hlen,h,hw=>by
  simp only[a08]at hlen;unfold bn at h;split at h
  case h_2=>cases h
  rename_i s1 f h1;cases A:bZ (cg ops) k f fs with
  |false=>rw[A]at h;cases h
  |true=>
   rw[A]at h
   simp only[cond_true]at h
   obtain⟨v,F⟩:=stepD_fact V hw h1
   have aw:WF s1.heap:=fun b hb=>by rw[F.far b hb];exact hw b (a0c F.next hb)
   have hk:k<ops.toList.length:=by simp;omega
   have Z:=a0T hk
   rw[hd]at Z
   injection Z with e1 e2
   have av:ops[k]?=some x:=by rw[←Array.getElem?_toList,a05 hk,←e1]
   obtain⟨st,vl,nf,g1,g2,g3,g4,g5,g6,g7⟩:=gK V os (k+1) ((k,f)::fs) s1 s' e2.symm (by omega) h aw
   have U: ∀(l:List (Nat×Inf)),bZ (cg ops) k f l=true->∀q∈l,bo (cg ops) q.1 k=true\/dW q.2 f=true:=by
    intro l;induction l with
    |nil=>intro _ q A;simp at A
    |cons p l ih=>
     intro hl q A
     obtain⟨pj,pg⟩:=p
     simp only[bZ,a0e,a0G]at hl
     rcases a0m.1 A with rfl|A
     ·exact hl.1
     exact ih hl.2 q A
   refine⟨fun j=>if j<=k then s else st j,fun j=>if j<=k then v else vl j,fun j=>if j<=k then f else nf j,by simp,?_,fun j E=>?_,fun j E=>?_,fun j o E N=>?_,fun j E T q ag=>?_,fun i j hi ad T=>?_⟩
   ·simp only[show ¬(ops.size<=k) by omega,if_false];exact g2
   ·simp only[show ¬(j<=k) by omega,show ¬(j+1<=k) by omega,if_false];exact g3 j E
   ·by_cases z:j<=k
    ·simp only[z,if_true];exact hw
    simp only[z,if_false];exact g4 j (by omega)
   ·by_cases z:j=k
    ·subst z;rw[av]at N;injection N with N;subst N;simp only[a0a,if_true,show ¬(j+1<=j) by omega,if_false,g1];exact F
    simp only[show ¬(j<=k) by omega,show ¬(j+1<=k) by omega,if_false];exact g5 j o (by omega) N
   ·by_cases z:j=k
    ·subst z;simp only[a0a,if_true];exact U fs A q ag
    simp only[show ¬(j<=k) by omega,if_false];exact g6 j (by omega) T q (a0h _ ag)
   by_cases ao:i=k
   ·subst ao;simp only[a0a,if_true,show ¬(j<=i) by omega,if_false];exact g6 j (by omega) T (i,f) (by simp)
   simp only[show ¬(i<=k) by omega,show ¬(j<=k) by omega,if_false]
   exact g7 i j (by omega) ad T
def Dom(μ:Emb)(H:Heap):Prop:= ∀b l,μ b=some l->b<H.next
theorem region_sound(U:dM P G cf){id:Nat}{A:Bool}{s z:St}(h:bR P G cf ops A s=some z){μ:Emb}{a:Act}{w:World}{Q:Exit->Act->World->Prop}
  (al:WF s.heap) (ht:TRel μ s.tmps s.size a.tmps) (hG:GRel μ G) (hw:WRel μ s.heap w) (V: ∀b l,μ b=some l->b<s.heap.next\/z.heap.next<=b)
  (hQ: ∀μ' w' E,Post μ s.heap w μ' z.heap w'->TRel μ' z.tmps z.size E.tmps->E.defers=a.defers->Q .normal E w'):(Code.region id ops A).wp P Q a w:=by
 have Z: ∀b,s.heap.next<=b->b<z.heap.next->μ b=none:=by
  intro b h1 h2;cases hb:μ b with
  |none=>rfl
  |some l=>rcases V b l hb with h3|h3<;>omega
 unfold bR at h
 cases A with
 |false=>
  simp only[cond_false]at h
  refine wp_region ?_
  rw[List.range_eq_range']
  have:=iE U ops.toList 0 s z rfl h μ a w al ht hG hw Z (Q:=Q) hQ
  simpa using this
 |true=>
  simp only[cond_true]at h
  cases hq:(aO ops&&P.follows .mixedOrders) with
  |false=>rw[hq]at h;cases h
  |true=>
   rw[hq]at h
   simp only[cond_true]at h
   simp only[a0e]at hq
   obtain⟨st,vl,nf,N,g2,g3,g4,g5,_,g7⟩:=gK U ops.toList 0 [] s z rfl (by simp) h al
   have T:Trace P G cf ops st vl nf:=⟨fun k o ho=>g5 k o (a0D _) ho,g3,fun j k aw hk=>g7 j k (a0D _) aw hk,regOK_facts hq.1,fun k=>g4 k (a0D _)⟩
   refine wp_region_any hq.2 ?_
   rw[World.drew_eq]
   have I:=inv_start (a:=a) (w:=w.drew) (μ0:=μ) T (by rw[N];exact ht) (by rw[N];exact hw.drew) (by rw[N,g2];exact V) (gh (Array.replicate ops.size false)) (fun k=>by
    unfold gh;simp[a0U,Array.getElem?_replicate];split<;>rfl)
   refine any_sound U T hG (fun S μ' E w' hS I'=>?_) ops.size _ μ a w.drew (by simp) (cnt_le _) I
   obtain⟨hp,ai,av⟩:=inv_end T hS I'
   rw[N,g2]at hp
   rw[g2]at ai
   refine hQ μ' w' E ((Post.drew hw).trans hp (a0a _) ?_) ai av
   have:=T.monoL (a0D ops.size)
   rwa [N,g2]at this
end
end Go.R
namespace Go.R
open Go.RowKit
def Ex.toExit:Ex->Exit
 | .normal=> .normal
 | .exit id=> .exit id
 | .ret=> .ret
def LoopWp(P:Program)(c:Code)(Q:Exit->Act->World->Prop)(a:Act)(w:World):Prop:=
 ∀(b:Frame) (k:List Item) (cs:List Frame),∃e z w',Q e z w'/\Arrives P (lone (b.at a (.code c:: .inLoop c::k)) cs w) b k cs e z w'
theorem LoopWp.wp{P:Program}{c:Code}{Q:Exit->Act->World->Prop}{a:Act}{w:World}(h:LoopWp P c Q a w):(Code.loop c).wp P Q a w:=
 fun b k cs=>let⟨e,a',w',q,r⟩:=h b k cs;⟨e,a',w',q,.of_steps (.one step_loop) r⟩
theorem LoopWp.round{P:Program}{c:Code}{Q:Exit->Act->World->Prop}{a:Act}{w:World}(h:c.wp P (Exit.then (LoopWp P c Q) Q) a w):LoopWp P c Q a w:=by
 intro b k cs;obtain⟨e,E,N,A,z⟩:=h b (.inLoop c::k) cs;cases e with
 |normal=>
  obtain⟨Z,V,w₂,U,T⟩:=A b k cs
  exact⟨Z,V,w₂,U,.of_steps (Steps.trans z (.one step_inLoop)) T⟩
 |exit id=>exact⟨_,E,N,A,.pass (x:= .inLoop c) rfl (fun _ _=> .inl (by simp)) z⟩
 |goto l=>exact⟨_,E,N,A,.pass (x:= .inLoop c) rfl (fun _ _=> .inl (by simp)) z⟩
 |ret=>exact⟨_,E,N,A,.pass (x:= .inLoop c) rfl (fun _ _=> .inl (by simp)) z⟩
 |panic ch=>exact⟨_,E,N,A,.pass (x:= .inLoop c) rfl (fun _ _=> .inl (by simp)) z⟩
 |outgrown=>exact⟨_,E,N,A,.pass (x:= .inLoop c) rfl (fun _ _=> .inl (by simp)) z⟩
def Wp(P:Program)(c:Code)(Q:Exit->Act->World->Prop)(a:Act)(w:World):Prop:=
 match c with
 | .loop b=>LoopWp P b Q a w
 |c=>c.wp P Q a w
theorem Wp.wp{P:Program}{c:Code}{Q:Exit->Act->World->Prop}{a:Act}{w:World}(h:Wp P c Q a w):c.wp P Q a w:=by cases c<;>first|exact LoopWp.wp h|exact h
def After(μ:Emb)(s:St)(w:World)(e:Ex)(z:St):Exit->Act->World->Prop:=fun E A N=>
 E=e.toExit/\A.defers=[]/\∃μ',Post μ s.heap w μ' z.heap N/\TRel μ' z.tmps z.size A.tmps
def ExOK(P:Program)(G:Nat)(ex:Code->St->Option (Ex×St)):Prop:= ∀c s e z,ex c s=some (e,z)->WF s.heap->Ext s.heap z.heap/\
 ∀μ a w,a.defers=[]->TRel μ s.tmps s.size a.tmps->GRel μ G->WRel μ s.heap w->(∀b,s.heap.next<=b->b<z.heap.next->μ b=none)->Wp P c (After μ s w e z) a w
section
variable {P:Program} {G:Nat}
theorem kG{μ z:Emb}{H H1 A:Heap}{w w1:World}(Z:Post μ H w z H1 w1)(E:H.next<=H1.next)(V: ∀b,H.next<=b->b<A.next->μ b=none): ∀b,H1.next<=b->b<A.next->z b=none:=by
 intro b N T;cases U:z b with
 |none=>rfl
 |some l=>
  rcases Z.dom b l U with h|⟨_,h⟩
  ·rw[V b (a0c E N) T]at h;cases h
  omega
theorem After.trans{μ V:Emb}{s z N:St}{w U:World}{e:Ex}(hp:Post μ s.heap w V z.heap U)(Z:s.heap.next<=z.heap.next)(h2:z.heap.next<=N.heap.next):
  ∀E A T,After V z U e N E A T->After μ s w e N E A T:=by
 rintro E A T ⟨he,hd,μ2,hp2,ht⟩
 exact⟨he,hd,μ2,hp.trans hp2 Z h2,ht⟩
theorem region_ext{cf:cj}(U:dM P G cf){ops:Array Oper}{A:Bool}{s z:St}(T:WF s.heap)(h:bR P G cf ops A s=some z):Ext s.heap z.heap:=by
 unfold bR at h;cases A with
 |false=>exact ig U _ _ _ T h
 |true=>
  simp only[cond_true]at h
  cases N:(aO ops&&P.follows .mixedOrders) with
  |false=>rw[N]at h;cases h
  |true=>
   rw[N]at h
   simp only[cond_true]at h
   have key: ∀(l:List Oper) (k:Nat) (fs:List (Nat×Inf)) (s z:St),WF s.heap->bn P G cf ops k fs l s=some z->Ext s.heap z.heap:=by
    intro l;induction l with
    |nil=>intro k fs s z _ h;simp only[bn,a00]at h;subst h;exact Ext.refl _
    |cons o os ih=>
     intro k fs s z T h
     unfold bn at h
     split at h
     case h_2=>cases h
     rename_i s1 f E
     cases N:bZ (cg ops) k f fs with
     |false=>rw[N]at h;cases h
     |true=>
      rw[N]at h
      simp only[cond_true]at h
      have Z:Ext s.heap s1.heap:=by
       unfold ga at E;split at E
       case h_2=>cases E
       rename_i t ag;simp only[a00,a03]at E;obtain⟨rfl,_⟩:=E;have V:=i7 U (s:={s with heap:={s.heap with log:=[]}}) T ag;obtain⟨d,hd,hs⟩:=V.log;refine⟨V.next,⟨cV s.heap.next t.heap.log,rfl,fun b hb hn=>?_⟩,V.far⟩;refine hs b hb fun hm=>hn (fy.2 ⟨?_,hb⟩)
       rw[hd,a0F];exact hm
      exact Z.trans (ih _ _ _ _ (T.ext Z) h)
   exact key _ _ _ _ _ T h
theorem execC_ok{rec_:Code->St->Option (Ex×St)}{cf:cj}(a1:ExOK P G rec_)(ay:dM P G cf):ExOK P G (ek P G rec_ cf):=by
 intro c;induction c with
 |skip=>
  intro s e Z h hw
  rw[kJ]at h
  simp only[a00,a03]at h
  obtain⟨rfl,rfl⟩:=h
  exact⟨Ext.refl _,fun μ a w T A E U _=>wp_skip ⟨rfl,T,μ,Post.refl U,A⟩⟩
 |region id ops draw=>
  intro s e Z h hw
  rw[fC]at h
  unfold dD at h
  split at h
  ·rename_i s1 h1;simp only[a00,a03]at h;obtain⟨rfl,rfl⟩:=h;refine⟨region_ext ay hw h1,fun μ a w T A E U V=>?_⟩;refine region_sound ay h1 hw A E U (fun b l hb=>?_) fun μ' w' a' hp a5 a4=>⟨rfl,a4.trans T,μ',hp,a5⟩
   rcases a0k b s.heap.next with h2|h2
   ·exact .inl h2
   right;rcases a0k b s1.heap.next with h3|h3
   ·rw[V b h2 h3]at hb;cases hb
   exact h3
  cases h
 |seq x y ihx ihy=>
  intro s e Z h hw
  rw[jS]at h
  cases hx:ek P G rec_ cf x s with
  |none=>rw[hx]at h;cases h
  |some p=>
   obtain⟨e1,s1⟩:=p
   obtain⟨z,N⟩:=ihx s e1 s1 hx hw
   rw[hx]at h
   cases e1 with
   |normal=>
    simp only[fD]at h
    obtain⟨ag,av⟩:=ihy s1 e Z h (hw.ext z)
    refine⟨z.trans ag,fun μ a w T A E U V=>wp_seq ?_⟩
    refine wp_mono (N μ a w T A E U (fun b h1 h2=>V b h1 (a0V h2 ag.next))).wp ?_
    rintro e2 a2 w2 ⟨rfl,hd2,μ2,hp2,ht2⟩
    exact wp_mono (av μ2 a2 w2 hd2 ht2 (E.mono hp2.ext) hp2.wrel (kG hp2 z.next V)).wp (After.trans hp2 z.next ag.next)
   |exit i=>
    simp only[fD,a00,a03]at h
    obtain⟨rfl,rfl⟩:=h
    refine⟨z,fun μ a w T A E U V=>wp_seq ?_⟩
    refine wp_mono (N μ a w T A E U V).wp ?_
    rintro e2 a2 w2 ⟨rfl,hrest⟩
    exact⟨rfl,hrest⟩
   |ret=>
    simp only[fD,a00,a03]at h
    obtain⟨rfl,rfl⟩:=h
    refine⟨z,fun μ a w T A E U V=>wp_seq ?_⟩
    refine wp_mono (N μ a w T A E U V).wp ?_
    rintro e2 a2 w2 ⟨rfl,hrest⟩
    exact⟨rfl,hrest⟩
 |cond c x y ihx ihy=>
  intro s e Z h hw
  rw[ip]at h
  cases hq:bC G c with
  |false=>rw[hq]at h;cases h
  |true=>
   rw[hq]at h
   simp only[cond_true]at h
   unfold kM at h
   split at h
   ·rename_i t hv;have aw: ∀(μ:Emb) (a:Act),TRel μ s.tmps s.size a.tmps->GRel μ G->a.eval c= .bool t:=by
     intro μ a A E;have:=eval_of E hq (tm:=s.tmps) (a:=a) fun k _=>A.2 k
     rw[hv]at this;exact this.bool_inv
    cases t with
    |true=>
     obtain⟨z,N⟩:=ihx s e Z h hw
     exact⟨z,fun μ a w T A E U V=>wp_cond_true (aw μ a A E) (N μ a w T A E U V).wp⟩
    |false=>
     obtain⟨z,N⟩:=ihy s e Z h hw
     exact⟨z,fun μ a w T A E U V=>wp_cond_false (aw μ a A E) (N μ a w T A E U V).wp⟩
   cases h
 |block id x ih=>
  intro s e Z h hw
  rw[gy]at h
  cases hx:ek P G rec_ cf x s with
  |none=>rw[hx]at h;cases h
  |some p=>
   obtain⟨e1,s1⟩:=p
   obtain⟨z,N⟩:=ih s e1 s1 hx hw
   rw[hx]at h
   cases e1 with
   |normal=>
    simp only[cN,a00,a03]at h
    obtain⟨rfl,rfl⟩:=h
    refine⟨z,fun μ a w T A E U V=>wp_block ?_⟩
    refine wp_mono (N μ a w T A E U V).wp ?_
    rintro e2 a2 w2 ⟨rfl,hrest⟩
    exact⟨rfl,hrest⟩
   |exit i=>
    simp only[cN]at h
    cases hb:Nat.beq i id with
    |true=>
     rw[hb]at h
     simp only[cond_true,a00,a03]at h
     obtain⟨rfl,rfl⟩:=h
     have hi:i=id:=a09 hb
     subst hi
     refine⟨z,fun μ a w T A E U V=>wp_block ?_⟩
     refine wp_mono (N μ a w T A E U V).wp ?_
     rintro e2 a2 w2 ⟨rfl,hrest⟩
     simp only[Ex.toExit,Exit.inBlock,if_true]
     exact⟨rfl,hrest⟩
    |false=>
     rw[hb]at h
     simp only[cond_false,a00,a03]at h
     obtain⟨rfl,rfl⟩:=h
     have hi: ¬i=id:=fun e=>by subst e;rw[a0Z]at hb;cases hb
     refine⟨z,fun μ a w T A E U V=>wp_block ?_⟩
     refine wp_mono (N μ a w T A E U V).wp ?_
     rintro e2 a2 w2 ⟨rfl,hrest⟩
     simp only[Ex.toExit,Exit.inBlock,hi,if_false]
     exact⟨rfl,hrest⟩
   |ret=>
    simp only[cN,a00,a03]at h
    obtain⟨rfl,rfl⟩:=h
    refine⟨z,fun μ a w T A E U V=>wp_block ?_⟩
    refine wp_mono (N μ a w T A E U V).wp ?_
    rintro e2 a2 w2 ⟨rfl,hrest⟩
    exact⟨rfl,hrest⟩
 |loop x ih=>
  intro s e Z h hw
  rw[io]at h
  cases hx:ek P G rec_ cf x s with
  |none=>rw[hx]at h;cases h
  |some p=>
   obtain⟨e1,s1⟩:=p
   obtain⟨z,N⟩:=ih s e1 s1 hx hw
   rw[hx]at h
   cases e1 with
   |normal=>
    simp only[fD]at h
    obtain⟨ag,av⟩:=a1 (.loop x) s1 e Z h (hw.ext z)
    refine⟨z.trans ag,fun μ a w T A E U V=>LoopWp.round ?_⟩
    refine wp_mono (N μ a w T A E U (fun b h1 h2=>V b h1 (a0V h2 ag.next))).wp ?_
    rintro e2 a2 w2 ⟨rfl,hd2,μ2,hp2,ht2⟩
    have hl:LoopWp P x (After μ2 s1 w2 e Z) a2 w2:=av μ2 a2 w2 hd2 ht2 (E.mono hp2.ext) hp2.wrel (kG hp2 z.next V)
    intro b k cs
    obtain⟨e3,a3,w3,q,r⟩:=hl b k cs
    exact⟨e3,a3,w3,After.trans hp2 z.next ag.next _ _ _ q,r⟩
   |exit i=>
    simp only[fD,a00,a03]at h
    obtain⟨rfl,rfl⟩:=h
    refine⟨z,fun μ a w T A E U V=>LoopWp.round ?_⟩
    refine wp_mono (N μ a w T A E U V).wp ?_
    rintro e2 a2 w2 ⟨rfl,hrest⟩
    exact⟨rfl,hrest⟩
   |ret=>
    simp only[fD,a00,a03]at h
    obtain⟨rfl,rfl⟩:=h
    refine⟨z,fun μ a w T A E U V=>LoopWp.round ?_⟩
    refine wp_mono (N μ a w T A E U V).wp ?_
    rintro e2 a2 w2 ⟨rfl,hrest⟩
    exact⟨rfl,hrest⟩
 |exit id=>
  intro s e Z h hw
  rw[kK]at h
  simp only[a00,a03]at h
  obtain⟨rfl,rfl⟩:=h
  exact⟨Ext.refl _,fun μ a w T A E U _=>wp_exit ⟨rfl,T,μ,Post.refl U,A⟩⟩
 |ret=>
  intro s e Z h hw
  rw[execC_ret]at h
  simp only[a00,a03]at h
  obtain⟨rfl,rfl⟩:=h
  exact⟨Ext.refl _,fun μ a w T A E U _=>wp_ret ⟨rfl,T,μ,Post.refl U,A⟩⟩
 |rangeFunc f ps x y _ _=>intro s e Z h;cases h
 |scope x _=>intro s e Z h;cases h
 |label l=>intro s e Z h;cases h
 |goto l=>intro s e Z h;cases h
 |refuse m=>intro s e Z h;cases h
theorem gA: ∀(args:List Value) (i:Nat) (t:Tr Value) (k:Nat),cC (eB i args t) k=if i<=k/\k<i+args.length then args.getD (k-i) undef else cC t k
 | [],i,t,k=>by rw[if_neg (by simp only[a0f];omega)];rfl
 |v::l,i,t,k=>by
  simp only[eB];rw[gA l (i+1) _ k];by_cases z:i+1<=k/\k<i+1+l.length
  ·rw[if_pos z,if_pos (by simp only[a08];omega),show k-i=(k-(i+1))+1 by omega];rfl
  rw[if_neg z,fA];by_cases A:i=k
  ·subst A;rw[if_pos rfl,if_pos (by simp only[a08];omega)];simp
  rw[if_neg A,if_neg (by simp only[a08];omega)]
theorem args_rel{μ:Emb}{args:List Value}{z:Array Value}(h:LRel μ args z.toList)(n:Nat):
  TRel μ (eB 0 args .nil) (Nat.max args.length n) (z++Array.replicate (n-z.size) undef):=by
 have N:args.length=z.size:=by rw[h.1];simp
 refine⟨by simp only[Array.size_append,Array.size_replicate];rw[N];show _=max _ _;omega,fun i=>?_⟩
 rw[gA]
 simp only[a0D,true_and,a1u,Nat.sub_zero,lget_nil,a0U,Array.getElem?_append]
 by_cases hi:i<args.length
 ·rw[if_pos hi,if_pos (by omega)];have A:args[i]?=some args[i]:=a05 hi;obtain⟨v',E,T⟩:=h.get A;have:z[i]?=some v':=by simpa using E
  rw[this,a01,A];exact T
 rw[if_neg hi,if_neg (by omega)]
 rw[Array.getElem?_replicate]
 split
 ·exact VRel.undef
 exact VRel.undef
theorem gm{μ:Emb}{s:St}{a:Array Value}{w:World}(A:TRel μ s.tmps s.size a)(U:WRel μ s.heap w): ∀(rs:List ResultVar) (l:List Value),cy P s rs=some l->
  ∃l',(rs.mapM (m:=Sem) fun| .tmp t=>Pure.pure (a.getD t undef)| .cell x t=>do loadVar t (←asAddr (a.getD x undef))).run P w= .ok l' w/\LRel μ l l'
 | [],l,h=>by simp only[cy,a00]at h;subst h;exact⟨[],by simp,.nil⟩
 | .tmp t::rs,l,h=>by
  unfold cy at h;split at h
  ·rename_i Z N;injection h with h;subst h;obtain⟨l',z,T⟩:=gm A U rs Z N;exact⟨a.getD t undef::l',by simp only[List.mapM_cons,Sem.run_bind,Sem.run_pure,Result.andThen_ok,z],.cons (A.2 t) T⟩
  cases h
 | .cell x t::rs,l,h=>by
  unfold cy at h;split at h
  ·rename_i p hp;split at h
   ·rename_i v Z hv N;injection h with h;subst h;obtain⟨l',z,T⟩:=gm A U rs Z N;have V:=A.2 x;rw[hp]at V;obtain⟨b,o,sp⟩:=p;have ag:sp=none:=V.ptr_some.1;subst ag;obtain⟨E,hμ,al⟩:=V.ptr_inv;obtain⟨v',ad,ai⟩:=gv (P:=P) U hμ hv;exact⟨v'::l',by simp only[List.mapM_cons,Sem.run_bind,al,show(asAddr (Value.pointer (some ⟨E.c,E.sh+o,none⟩))).run P w= .ok ⟨E.c,E.sh+o,none⟩ w from rfl,Sem.run_pure,Result.andThen_ok,ad,z],.cons ai T⟩
   cases h
  cases h
theorem result_rel{μ:Emb}{l l':List Value}(h:LRel μ l l'):VRel μ (dZ l) (if h:l'.toArray.size=1 then l'.toArray[0] else .tuple l'.toArray):=by
 match l,l',h with
 | [],l',h=>
  have:=h.nil_left
  subst this
  exact .tuple _ _ rfl (fun i v v' h=>by simp at h)
 | [v],l',h=>
  obtain⟨v',t,rfl,A,z⟩:=h.cons_left
  have:=z.nil_left
  subst this
  exact A
 |v::u::r,l',h=>
  obtain⟨v',t,rfl,A,z⟩:=h.cons_left
  obtain⟨U,T,rfl,N,E⟩:=z.cons_left
  simp only[List.size_toArray,a08,show ¬(T.length+1+1=1) by omega,dite_false]
  have:=LRel.cons A (LRel.cons N E)
  exact .tuple _ _ (by simpa[dZ] using this.1) (by simpa[dZ] using this.2)
theorem lz{μ:Emb}{s:St}{fn:Func}{a:Array Value}{w:World}(N:TRel μ s.tmps s.size a)(T:WRel μ s.heap w){l:List Value}(h:cy P s fn.results.toList=some l):
  ∃v',(results fn a).run P w= .ok v' w/\VRel μ (dZ l) v':=by
 obtain⟨l',A,z⟩:=gm (P:=P) N T _ l h
 refine⟨_,?_,result_rel z⟩
 unfold results
 rw[Array.mapM_eq_mapM_toList]
 simp only[Sem.run_bind,Sem.run_map]
 have e: ∀(r:Result (List Value)),r= .ok l' w->((r.andThen fun a w'=>(.ok a.toArray w':Result (Array Value))).andThen fun E w'=>((Pure.pure (if h:E.size=1 then E[0] else Value.tuple E):Sem Value).run P w'))=
   .ok (if h:l'.toArray.size=1 then l'.toArray[0] else .tuple l'.toArray) w:=by
  intro r z;subst z;rfl
 exact e _ A
theorem callC_ok{ex:Code->St->Option (Ex×St)}(U:ExOK P G ex):dM P G (lM P ex):=by
 intro f args H v H' h ad;unfold lM at h;split at h
 case h_2=>cases h
 rename_i fn V;split at h
 case h_2=>cases h
 rename_i c hc;have T: ∀e s,(e=Ex.normal\/e=Ex.ret)->ex c {tmps:=eB 0 args .nil,size:=Nat.max args.length fn.ntmps,heap:=H}=some (e,s)->
   (match cy P s fn.results.toList with|some l=>some (dZ l,s.heap)|none=>none)=some (v,H')->Ext H H'/\
   ∀μ w (z:Array Value),LRel μ args z.toList->GRel μ G->WRel μ H w->(∀b,H.next<=b->b<H'.next->μ b=none)->
    Calls P f z w fun e w'=> ∃μ' v',e= .returned v'/\VRel μ' v v'/\Post μ H w μ' H' w':=by
  intro e s he N A
  split at A
  ·rename_i l hl;simp only[a00,a03]at A;obtain⟨rfl,rfl⟩:=A;obtain⟨ext,ag⟩:=U c _ e s N ad;refine⟨ext,fun μ w z ha hG hw hf=>?_⟩;refine calls_of_wp V hc ?_;refine wp_mono (ag μ {tmps:=z++Array.replicate (fn.ntmps-z.size) undef,defers:=[]} w rfl (args_rel ha fn.ntmps) hG hw hf).wp ?_;rintro e2 a2 w2 ⟨rfl,hd,μ',hp,ht⟩;obtain⟨v',E,Z⟩:=lz (P:=P) (fn:=fn) ht hp.wrel hl;rcases he with rfl|rfl
   ·exact⟨hd,v',E,μ',v',rfl,Z,hp⟩
   exact⟨hd,v',E,μ',v',rfl,Z,hp⟩
  cases A
 split at h
 ·rename_i s N;exact T .normal s (.inl rfl) N h
 ·rename_i s N;exact T .ret s (.inr rfl) N h
 cases h
def KnownOK(P:Program)(G:Nat)(K:bM):Prop:= ∀f args H v,K f args H=some v->args.all noA2=true/\noA2 v=true/\∀(μ:Emb) (z:Array Value) (w:World),z.toList=args->GRel μ G->WRel μ H w->
 Calls P f z w fun e w'=>e= .returned v/\Below w.heap.size w w'
theorem LRel.eq2{μ:Emb}{l l':List Value}(h:LRel μ l l')(z:l.all noA2=true):l'=l:=by
 induction l generalizing l' with
 |nil=>exact h.nil_left
 |cons v l ih=>
  obtain⟨v',N,rfl,E,A⟩:=h.cons_left
  simp only[a1k,a0e]at z
  rw[E.eq2 z.1,ih A z.2]
theorem callK_ok{K:bM}{cf:cj}(hK:KnownOK P G K)(T:dM P G cf):dM P G (ka K cf):=by
 intro f args H v H' h Z;unfold ka at h;split at h
 ·rename_i u hu;simp only[a00,a03]at h;obtain⟨rfl,rfl⟩:=h;obtain⟨h1,h2,h3⟩:=hK f args H u hu;refine⟨Ext.refl _,fun μ w z ha hG N hf=>?_⟩;refine(h3 μ z w (ha.eq2 h1) hG N).mono ?_;rintro e w' ⟨rfl,hb⟩;refine⟨μ,u,rfl,VRel.refl2 h2,⟨fun _ _ h=>h,fun _ _ h=> .inl h,hb.size,hb.os,hb.tape,hb.output,fun c hc _=>hb.block c hc,fun b l o A E h6=> .inr ⟨b,l,o,A,E,h6,id,rfl⟩,⟨fun b l o A E=>?_,N.inj⟩⟩⟩;have V:=N.obj b l o A E;exact V.keep (fun _ _ h=>h) hb.size (fun U=>hb.block l.c (V.lt U))
 exact T f args H v H' h Z
theorem exec_ok{K:bM}(z:KnownOK P G K): ∀n,ExOK P G (kL P G K n)
 |0=>fun c s e A h=>by cases h
 |n+1=>execC_ok (exec_ok z n) (callK_ok z (callC_ok (exec_ok z n)))
theorem call_ok{K:bM}(z:KnownOK P G K)(n:Nat):dM P G (call P G K n):=callK_ok z (callC_ok (exec_ok z n))
theorem none_ok:KnownOK P G noneKnown:=fun f args H v h=>by cases h
end
end Go.R
namespace Go.R
open Go.RowKit
open Go.WideShapes Go.ChangeShapes in
theorem lB{H:Type}{enc:TypeId×Value->H}{P:Program}{f:Func}{s:ChangeSpec}{N ar ad ao:Bool}{W Z:World}{args:Array Value}{v:Value}{ds gs:List (DataW H)}{z pa pv:List MemPlace}
  (hW:DataW.Whole enc P f.params.toList s.vars N W args.toList ds gs z)
  (an: ∀(b:Nat) (E:Nat->Bool) (hd:Bool),DataW.TrodAll enc P Z b E hd f.resultTypes.toList (v.resultList f.resultTypes.size) (s.fn H (ds++gs)).results [])
  (T: ∀E:Nat->Bool,(∀p∈z,E p.block=true)->DataW.TrodAll enc P Z 0 E true f.params.toList args.toList (s.fn H (ds++gs)).args pa)
  (V: ∀E:Nat->Bool,(∀p∈z,E p.block=true)->DataW.TrodVars enc P Z E s.vars (s.fn H (ds++gs)).vars pv)
  (U:z=pa++pv) (hb:Below W.heap.size W Z)
  (a2: ∀(j:Nat) (t:TypeId) (r:Value),f.resultTypes[j]?=some t->(v.resultList f.resultTypes.size)[j]?=some r->Value.okWide P Z .any 0 t r):
  s.post enc P f N ar ad ao W args v Z:=by
 have al: ∀p∈z,(fun b=>decide (b<W.heap.size)) p.block=true:=fun p A=>by simpa using hW.lt p A
 have a1: ∀p∈z,p.block<W.heap.size:=fun p A=>by simpa using hW.lt p A
 refine⟨ds,gs,z,[],pa,pv,hW,an _ _ _,T _ al,V _ al,World.keptBut_mono (fun p A=>⟨A,?_⟩) (hb.frame (· ∈z)),fun _=>?_⟩
 ·rw[U,a07]at A;exact Or.inr A
 obtain⟨_,_,_,_,_,hz,hn⟩:=hW
 refine⟨a2,_,_,([]++pa)++pv,⟨[]++pa,pv,trodAll_append (T _ (fun _ _=>rfl)) (an _ _ _),V _ (fun _ _=>rfl),rfl,?_,?_⟩,?_⟩
 ·intro b off A;have aw:MemPlace.cell b off∈z:=by rw[U];simpa using A
  have h1:=hb.frozen (p:=⟨b,off,none⟩) (a1 _ aw);have h2:=hz b off aw;first|(rw[h1];exact h2)|(exact h1.trans h2)|(simp_all)
 ·intro ha;have:=hn ha;rw[U]at this;simpa using this
 intro p A _
 rw[U]
 simpa using A
end Go.R
noncomputable section
namespace Go.R
open Go.RowKit
section
variable {P:Program} {w:World} {base:Nat} {held:Bool} {enc:TypeId×Value->Unit}
def lit1(P:Program)(t:TypeId)(d:DataW Unit):Option Value:=
 match P.underlying t,d with
 |some .bool,.lit (.bool b)=>some (.bool b)
 |some (.int k),.lit (.int _ n)=>some (.int k n)
 |some .string,.lit (.string l)=>some (.string ⟨⟨l⟩⟩)
 |_,_=>none
theorem cells_lit1{N:Nat->Bool}{fuel:Nat}{t:TypeId}{cs:List Value}{d:DataW Unit}{p:List MemPlace}{v:Value}(h:DataW.trod enc P w base N held fuel t cs=some (d,p))(z:lit1 P t d=some v):cs=[v]:=by
 unfold lit1 at z;split at z
 ·rename_i E;obtain⟨b,rfl,A⟩:=DataW.trod_bool E h;simp only[a03,DataW.lit.injEq,Lit.bool.injEq]at A;injection z with z;subst z;rw[A.1]
 ·rename_i E;obtain⟨n,rfl,A,_⟩:=DataW.trod_int E h;simp only[a03,DataW.lit.injEq,Lit.int.injEq]at A;injection z with z;subst z;rw[A.1.2]
 ·rename_i E;obtain⟨s,rfl,A,_⟩:=DataW.trod_string E h;simp only[a03,DataW.lit.injEq,Lit.string.injEq]at A;injection z with z;subst z;rw[A.1]
 cases z
def flatFs(P:Program):Nat->List Field->Bool
 |_,[]=>true
 |i,f::fs=>Nat.beq f.offset i&&Nat.beq (P.cellsOf f.type) 1&&flatFs P (i+1) fs
theorem flatFs_at: ∀(fs:List Field) (i j:Nat) (f:Field),flatFs P i fs=true->fs[j]?=some f->f.offset=i+j/\P.cellsOf f.type=1
 | [],_,_,_,_,h=>by simp at h
 |g::fs,i,0,f,h,hf=>by simp only[flatFs,a0e]at h;simp only[a0X,a00]at hf;subst hf;exact⟨a09 h.1.1,a09 h.1.2⟩
 |g::fs,i,j+1,f,h,hf=>by simp only[flatFs,a0e]at h;have:=flatFs_at fs (i+1) j f h.2 (by simpa using hf);exact⟨by omega,this.2⟩
def litFs(P:Program):List Field->List (DataW Unit)->Option (List Value)
 | [],[]=>some []
 |f::fs,d::ds=>
  match lit1 P f.type d,litFs P fs ds with
  |some v,some l=>some (v::l)
  |_,_=>none
 |_,_=>none
theorem lE: ∀(fs:List Field) (ds:List (DataW Unit)) (l:List Value),litFs P fs ds=some l->l.length=fs.length/\ds.length=fs.length/\∀(i:Nat) f d,fs[i]?=some f->ds[i]?=some d->∃v,l[i]?=some v/\lit1 P f.type d=some v
 | [],[],l,h=>by simp only[litFs,a00]at h;subst h;exact⟨rfl,rfl,fun i f d h=>by simp at h⟩
 | [],_::_,l,h=>by cases h
 |_::_,[],l,h=>by cases h
 |f::fs,d::ds,l,h=>by
  simp only[litFs]at h;split at h
  ·rename_i v Z V U;injection h with h;subst h;obtain⟨E,N,T⟩:=lE fs ds Z U;refine⟨by simp[E],by simp[N],fun i g e A z=>?_⟩;cases i with
   |zero=>simp only[a0X,a00]at A z;subst A z;exact⟨v,rfl,V⟩
   |succ i=>exact T i g e (by simpa using A) (by simpa using z)
  cases h
theorem cells_struct{z:Nat->Bool}{fuel:Nat}{t:TypeId}{fs:Array Field}{cs:List Value}{N:List (DataW Unit)}{p:List MemPlace}{vs:List Value}(ht:P.underlying t=some (.struct fs))(an:flatFs P 0 fs.toList=true)(hc:P.cellsOf t=fs.size)
  (h:DataW.trod enc P w base z held fuel t cs=some (.agg N,p)) (hv:litFs P fs.toList N=some vs):cs=vs:=by
 obtain⟨xs,n,_,hx,U,a4,T⟩:=DataW.trod_struct ht h
 simp only[a03,DataW.agg.injEq]at hx
 obtain⟨Z,h2,h3⟩:=lE _ _ _ hv
 have a0:=Z
 apply a1A
 intro i
 by_cases hi:i<fs.size
 ·have hf:fs[i]?=some fs[i]:=a0J hi;have A:fs.toList[i]?=some fs[i]:=by simp[hf]
  obtain⟨ho,ad⟩:=flatFs_at _ 0 i _ an A;have hr:=T i _ hf;have E:xs[i]?=some (xs[i]'(by omega)):=a05 (by omega);have ai:N[i]?=some (xs[i]'(by omega)).1:=by rw[hx.1];simp[E]
  obtain⟨v,av,ao⟩:=h3 i _ _ A ai;rw[E]at hr;have ag:=cells_lit1 (p:=(xs[i]'(by omega)).2) hr ao;rw[av];have V:((cs.drop fs[i].offset).take (P.cellsOf fs[i].type))[0]?=some v:=by rw[ag];rfl
  rw[ad,ho,a0x,if_pos (by omega),a0H]at V;simpa using V
 rw[a0Q (by rw[U,hc];omega),a0Q (by rw[Z];simpa using hi)]
def litRows(P:Program)(fs:List Field):List (DataW Unit)->Option (List (List Value))
 | []=>some []
 | .agg ds::r=>
  match litFs P fs ds,litRows P fs r with
  |some l,some m=>some (l::m)
  |_,_=>none
 |_::_=>none
theorem kC{fs:List Field}: ∀(ds:List (DataW Unit)) (m:List (List Value)),litRows P fs ds=some m->m.length=ds.length/\∀(i:Nat) l,m[i]?=some l->∃es,ds[i]?=some (.agg es)/\litFs P fs es=some l
 | [],m,h=>by simp only[litRows,a00]at h;subst h;exact⟨rfl,fun i l h=>by simp at h⟩
 |d::r,m,h=>by
  cases d<;>first|(cases h;done)|skip
  rename_i es;simp only[litRows]at h;split at h
  ·rename_i l m1 N T;injection h with h;subst h;obtain⟨A,E⟩:=kC r m1 T;refine⟨by simp[A],fun i l' z=>?_⟩;cases i with
   |zero=>simp only[a0X,a00]at z;subst z;exact⟨es,rfl,N⟩
   |succ i=>exact E i l' (by simpa using z)
  cases h
theorem cells?_at{a:Addr}: ∀{n:Nat} {l:List Value},w.cells? base a n=some l->∀i,i<n->l[i]?=w.cell? (a.add i)/\(w.cell? (a.add i)).isSome:=by
 intro n l h i hi;unfold World.cells? at h;split at h
 ·have key: ∀(r:List Nat) (l:List Value),r.mapM (fun i=>w.cell? (a.add i))=some l->∀(j:Nat) k,r[j]?=some k->l[j]?=w.cell? (a.add k)/\(w.cell? (a.add k)).isSome:=by
   intro r;induction r with
   |nil=>intro l _ j k z;simp at z
   |cons x r ih=>
    intro l A j k z
    simp only[List.mapM_cons,Option.bind_eq_bind,Option.bind_eq_some_iff]at A
    obtain⟨v,E,m,N,A⟩:=A
    cases A
    cases j with
    |zero=>simp only[a0X,a00]at z;subst z;exact⟨by rw[E];rfl,by rw[E];rfl⟩
    |succ j=>exact ih m N j k (by simpa using z)
  exact key _ _ h i i (by rw[List.getElem?_range hi])
 cases h
theorem kI(k:Nat)(z:0<k): ∀(m:List (List Value)),(∀l∈m,l.length=k)->∀(i:Nat) v,m.flatten[i]?=some v->∃l,m[i/k]?=some l/\l[i%k]?=some v
 | [],_,i,v,h=>by simp at h
 |l::m,hm,i,v,h=>by
  have U:=hm l (a0r ..);rw[a0L]at h;by_cases hi:i<k
  ·rw[a0S (by omega)]at h;exact⟨l,by rw[Nat.div_eq_of_lt hi];rfl,by rw[Nat.mod_eq_of_lt hi];exact h⟩
  rw[a17 (by omega),U]at h;obtain⟨l',N,T⟩:=kI k z m (fun x V=>hm x (a0h _ V)) (i-k) v h;have A:i/k=(i-k)/k+1:=by rw[Nat.div_eq_sub_div z (by omega)]
  have E:i%k=(i-k)%k:=by rw[Nat.mod_eq_sub_mod (by omega)]
  exact⟨l',by rw[A];exact N,by rw[E];exact T⟩
theorem cells_table{fuel:Nat}{t e:TypeId}{fs:Array Field}{cs:List Value}{E:List (DataW Unit)}{p:List MemPlace}{m:List (List Value)}(ht:P.underlying t=some (.slice e))(he:P.underlying e=some (.struct fs))(bk:flatFs P 0 fs.toList=true)
  (hc:P.cellsOf e=fs.size) (U:0<fs.size) (ck:0<E.length) (h:DataW.trod enc P w base (fun _=>true) held fuel t cs=some (.slice E [],p)) (hv:litRows P fs.toList E=some m):
  ∃c o,cs=[.slice (some ⟨c,o,none⟩) E.length E.length]/\∀i v,m.flatten[i]?=some v->w.cell? ⟨c,o+i,none⟩=some v:=by
 rcases DataW.trod_slice ht h with⟨_,hx⟩|⟨a,len,N,A,a1,n,_,a6,hx,_,hl,_,ax,be,b2,_⟩
 ·simp at hx
 simp only[a03,DataW.slice.injEq]at hx
 obtain⟨⟨hd,hr⟩,_⟩:=hx
 have c0:a1.length=0:=by have:=congrArg List.length hr;simpa using this.symm
 have b6:=(b2 rfl).1
 have a9:E.length=len:=by rw[hd];simpa using ax
 have a5:N=len:=by omega
 subst a5
 obtain⟨co,b1⟩:=kC _ _ hv
 obtain⟨c,o,sp⟩:=a
 have cell: ∀j,j<N->∃l,m[j]?=some l/\l.length=fs.size/\∀q,q<fs.size->w.cell? ((Addr.mk c o sp).add (j*fs.size)|>.add q)=l[q]?/\(w.cell? ((Addr.mk c o sp).add (j*fs.size)|>.add q)).isSome:=by
  intro j V;have ao:m[j]?=some (m[j]'(by omega)):=a05 (by omega);obtain⟨es,bb,an⟩:=b1 j _ ao;have hE:=be j V;rw[hc]at hE;have hy:A[j]?=some (A[j]'(by omega)):=a05 (by omega);rw[hy]at hE;simp only[Option.bind_eq_some_iff]at hE;obtain⟨c1,a4,b4⟩:=hE;have a8:(A[j]'(by omega)).1= .agg es:=by
   have e0:E[j]?=some (A[j]'(by omega)).1:=by rw[show E[j]?=(List.map (fun x=>x.fst) A)[j]? from by rw[←hd],a1h,hy];rfl
   rw[bb]at e0;exact(Option.some.inj e0).symm
  have ay:=cells_struct (p:=(A[j]'(by omega)).2) he bk hc (by rw[b4,←a8]) an;subst ay;refine⟨_,ao,(lE _ _ _ an).1.trans (by simp),fun q hq=>?_⟩;have:=cells?_at a4 q hq;exact⟨this.1.symm,this.2⟩
 have a0:sp=none:=by
  obtain⟨l,_,_,Z⟩:=cell 0 (by omega);have:=(Z 0 U).2;cases sp with
  |none=>rfl
  |some z=>
   exfalso
   simp only[Addr.add,World.cell?,if_true]at this
   split at this<;>simp at this
 subst a0
 refine⟨c,o,by rw[a6,a9],fun i v bl=>?_⟩
 have aw: ∀l∈m,l.length=fs.size:=by intro l hl;obtain⟨j,V,rfl⟩:=a0B.1 hl;obtain⟨l',T,h2,_⟩:=cell j (by omega);rw[a05 V]at T;rw[Option.some.inj T];exact h2
 obtain⟨l,T,h2⟩:=kI fs.size U m aw i v bl
 have V:i/fs.size<N:=by have:=(a0v.1 T).1;omega
 obtain⟨l',Z,h4,h5⟩:=cell _ V
 rw[T]at Z
 obtain rfl:=Option.some.inj Z
 have h6:=(h5 (i%fs.size) (Nat.mod_lt _ U)).1
 rw[h2]at h6
 have e:o+i/fs.size*fs.size+i%fs.size=o+i:=by rw[a1t,Nat.mul_comm,Nat.div_add_mod]
 have ad: ∀x k:Nat,(Addr.mk c x none).add k=⟨c,x+k,none⟩:=by
  intro x k;unfold Addr.add;by_cases hk:k=0
  ·subst hk;rfl
  simp[hk]
 rw[ad,ad,e]at h6
 exact h6
end
theorem ct(n:Nat)(cells:List Value)(b:Nat):(tabHeap n cells).get b=if b=1 then some (.cells cells none true) else if b=0 then some (.cells [.slice (some ⟨1,0,none⟩) n n] none true) else none:=by
 show((Tr.nil.set 0 _).set 1 _).get b=_;by_cases A:b=1
 ·subst A;rw[if_pos rfl,Tr.get_set_same]
 rw[if_neg A,Tr.get_set_ne _ _ (Ne.symm A)];by_cases z:b=0
 ·subst z;rw[if_pos rfl,Tr.get_set_same]
 rw[if_neg z,Tr.get_set_ne _ _ (Ne.symm z)];rfl
theorem ble_pos(n:Nat)(h:Nat.ble 1 n=true):0<n:=a06 h
theorem iV{P:Program}{K:bM}(hK:KnownOK P 1 K){n m:Nat}{f:FuncId}{cells:List Value}(h:saysTrue (call P 1 K n f [] (tabHeap m cells))=true)(av:cells.all noA0=true){w:World}{c o:Nat}
  (h0:w.cell? ⟨0,0,none⟩=some (.slice (some ⟨c,o,none⟩) m m)) (ax:cells≠ []) (h1: ∀i v,cells[i]?=some v->w.cell? ⟨c,o+i,none⟩=some v):
  Calls P f #[] w fun e w'=>e= .returned (.bool true)/\Below w.heap.size w w':=by
 have V: ∀{a:Addr} {v:Value},w.cell? a=some v->a.block<w.heap.size:=by
  intro a v A;unfold World.cell? at A;split at A
  ·rename_i N;exact(a0E.1 N).1
  cases A
 revert h
 cases aw:call P 1 K n f [] (tabHeap m cells) with
 |none=>intro h;cases h
 |some r=>
  obtain⟨v,H'⟩:=r
  intro h
  have A:v= .bool true:=by
   unfold saysTrue at h;split at h
   ·rename_i N;simp only[a00,a03]at N;exact N.1
   cases h
  subst A
  have ay:WF (tabHeap m cells):=fun b T=>by have E:2<=b:=T;rw[ct,if_neg (by omega),if_neg (by omega)]
  obtain⟨_,U⟩:=call_ok (G:=1) hK n f [] (tabHeap m cells) (.bool true) H' aw ay
  let μ:Emb:=fun b=>if b=1 then some ⟨c,o,none,0⟩ else if b=0 then some ⟨0,0,none,0⟩ else none
  have Z: ∀b x,(tabHeap m cells).get b=some x->x.rw=false:=by
   intro b x z;rw[ct]at z;split at z
   ·injection z with z;subst z;rfl
   split at z
   ·injection z with z;subst z;rfl
   cases z
  have ag:WRel μ (tabHeap m cells) w:=by
   refine⟨fun b l x T z=>?_,fun b1 b2 l1 l2 o1 o2 _ _ _ h3 _ h5 _=>?_⟩
   ·rw[ct]at z;by_cases e1:b=1
    ·subst e1;rw[if_pos rfl]at z;injection z with z;subst z;have E:l=⟨c,o,none,0⟩:=(Option.some.inj T).symm;subst E;refine⟨rfl,rfl,?_,fun i v A=>⟨v,h1 i v A,.atom v (a0y.1 av v (a0l A))⟩⟩;cases cells with
     |nil=>exact absurd rfl ax
     |cons v r=>exact V (h1 0 v rfl)
    rw[if_neg e1]at z;by_cases e0:b=0
    ·subst e0;rw[if_pos rfl]at z;injection z with z;subst z;have E:l=⟨0,0,none,0⟩:=(Option.some.inj T).symm;subst E;refine⟨rfl,rfl,V h0,fun i v A=>?_⟩;cases i with
     |zero=>
      simp only[a0X,a00]at A;subst A
      exact⟨_,h0,.sliceC 1 0 m m ⟨c,o,none,0⟩ rfl rfl⟩
     |succ i=>simp at A
    rw[if_neg e0]at z;cases z
   rw[Z b1 o1 h3]at h5;cases h5
  refine(U μ w #[] LRel.nil (fun g hg=>?_) ag (fun b T _=>?_)).mono ?_
  ·have:g=0:=by omega
   subst this;exact⟨⟨0,0,none,0⟩,rfl,rfl,rfl⟩
  ·have E:2<=b:=T;show(if b=1 then _ else if b=0 then _ else none)=none;rw[if_neg (by omega),if_neg (by omega)]
  rintro e w' ⟨μ',v',rfl,hr,hp⟩
  rw[hr.eq2 rfl]
  refine⟨rfl,hp.os,hp.tape,hp.out,hp.grow,fun k hk=>hp.keep k hk fun b l x _ z ad=>?_⟩
  rw[Z b x z]at ad;cases ad
end Go.R
end
namespace Go.R
def CfLe(cf cf':cj):Prop:= ∀f a H r,cf f a H=some r->cf' f a H=some r
def ExLe(ex z:Code->St->Option (Ex×St)):Prop:= ∀c s r,ex c s=some r->z c s=some r
section
variable {P:Program} {G:Nat} {cf cf':cj} {ops:Array Oper}
theorem step_mono(h:CfLe cf cf'){o:Oper}{s E:St}(hs:step P G cf ops o s=some E):step P G cf' ops o s=some E:=by
 unfold step at hs⊢;cases A:bd ops o s.tmps with
 |false=>rw[A]at hs;exact hs
 |true=>
  rw[A]at hs
  cases z:o.op.operands.toList.all (bC G) with
  |false=>rw[z]at hs;cases hs
  |true=>
   rw[z]at hs
   simp only[cond_true]at hs⊢
   split at hs
   ·exact hs
   ·exact hs
   ·split at hs
    ·rename_i v N hc;rw[h _ _ _ _ hc];exact hs
    cases hs
   cases hs
theorem gj(h:CfLe cf cf'): ∀(l:List Oper) (s z:St),fj P G cf ops l s=some z->fj P G cf' ops l s=some z
 | [],_,_,hs=>hs
 |o::l,s,z,hs=>by
  rw[bW]at hs⊢;split at hs
  ·rename_i t A;rw[step_mono h A];exact gj h l _ _ hs
  cases hs
theorem stepD_mono(h:CfLe cf cf'){o:Oper}{s:St}{r:St×Inf}(hs:ga P G cf ops o s=some r):ga P G cf' ops o s=some r:=by
 unfold ga at hs⊢;split at hs
 ·rename_i t z;rw[step_mono h z];exact hs
 cases hs
theorem dG(h:CfLe cf cf'): ∀(l:List Oper) (i:Nat) (fs:List (Nat×Inf)) (s s':St),bn P G cf ops i fs l s=some s'->bn P G cf' ops i fs l s=some s'
 | [],_,_,_,_,hs=>by unfold bn at hs⊢;exact hs
 |o::l,i,fs,s,s',hs=>by
  unfold bn at hs⊢;split at hs
  ·rename_i t f A;rw[stepD_mono h A];simp only;cases z:bZ (cg ops) i f fs with
   |false=>rw[z]at hs;cases hs
   |true=>rw[z]at hs;simp only[cond_true]at hs⊢;exact dG h l _ _ _ _ hs
  cases hs
theorem j8(h:CfLe cf cf'){z:Bool}{s E:St}(hs:bR P G cf ops z s=some E):bR P G cf' ops z s=some E:=by
 unfold bR at hs⊢;cases z with
 |false=>exact gj h _ _ _ hs
 |true=>
  simp only[cond_true]at hs⊢
  cases A:aO ops&&P.follows .mixedOrders with
  |false=>rw[A]at hs;cases hs
  |true=>rw[A]at hs;simp only[cond_true]at hs⊢;exact dG h _ _ _ _ _ hs
theorem fW{r E:Option (Ex×St)}{k A:St->Option (Ex×St)}(T: ∀x,r=some x->E=some x)(N: ∀s x,k s=some x->A s=some x){x:Ex×St}(h:fD r k=some x):fD E A=some x:=by
 cases z:r with
 |none=>rw[z]at h;cases h
 |some y=>
  rw[T y z]
  rw[z]at h
  obtain⟨e,s⟩:=y
  cases e with
  |normal=>exact N _ _ h
  |exit i=>exact h
  |ret=>exact h
theorem iK{id:Nat}{r A:Option (Ex×St)}(E: ∀x,r=some x->A=some x){x:Ex×St}(h:cN id r=some x):cN id A=some x:=by
 cases z:r with
 |none=>rw[z]at h;cases h
 |some y=>rw[E y z];rw[z]at h;exact h
theorem execC_mono(h:CfLe cf cf'){ex E:Code->St->Option (Ex×St)}(N:ExLe ex E)(c:Code): ∀(s:St) (x:Ex×St),ek P G ex cf c s=some x->ek P G E cf' c s=some x:=by
 induction c with
 |skip=>intro s x z;exact z
 |region id ops draw=>
  intro s x z
  rw[fC]at z⊢
  cases A:bR P G cf ops draw s with
  |none=>rw[A]at z;cases z
  |some t=>rw[j8 h A];rw[A]at z;exact z
 |seq a b iha ihb=>
  intro s x z
  rw[jS]at z⊢
  exact fW (iha s) ihb z
 |cond c t e iht ihe=>
  intro s x z
  rw[ip]at z⊢
  cases A:bC G c with
  |false=>rw[A]at z;cases z
  |true=>
   rw[A]at z
   simp only[cond_true]at z⊢
   unfold kM at z⊢
   split at z
   ·rename_i b T;cases b with
    |true=>exact iht s x z
    |false=>exact ihe s x z
   cases z
 |block id b ih=>
  intro s x z
  rw[gy]at z⊢
  exact iK (ih s) z
 |loop b ih=>
  intro s x z
  rw[io]at z⊢
  exact fW (ih s) (N _) z
 |exit id=>intro s x z;exact z
 |ret=>intro s x z;exact z
 |_=>intro s x z;cases z
theorem kS{ex z:Code->St->Option (Ex×St)}(A:ExLe ex z):CfLe (lM P ex) (lM P z):=by
 intro f a H r h;unfold lM at h⊢;split at h
 ·split at h
  ·split at h
   ·rename_i s E;rw[A _ _ _ E];exact h
   ·rename_i s E;rw[A _ _ _ E];exact h
   cases h
  cases h
 cases h
theorem kR{K:bM}(h:CfLe cf cf'):CfLe (ka K cf) (ka K cf'):=by
 intro f a H r z;unfold ka at z⊢;split at z
 ·exact z
 exact h _ _ _ _ z
theorem gV{K:bM}: ∀n,ExLe (kL P G K n) (kL P G K (n+1))
 |0=>fun c s r h=>by cases h
 |n+1=>fun c s r h=>execC_mono (kR (kS (gV n))) (gV n) c s r h
theorem gW{K:bM}{n m:Nat}(h:n<=m):ExLe (kL P G K n) (kL P G K m):=by
 induction h with
 |refl=>exact fun _ _ _ h=>h
 |step _ ih=>exact fun c s r h=>gV _ c s r (ih c s r h)
theorem dK{K:bM}{n m:Nat}(h:n<=m):CfLe (call P G K n) (call P G K m):=kR (kS (gW h))
end
end Go.R
