/-
The evaluator is sound: regions, code, calls, laws.
-/
import Derived.Test.YtkpgbdkkgcdhmaaGreatZPRA
import Derived.Below
import Derived.ChangeSame
import Derived.ChangeArms
namespace Go.R
structure Ext(H H':Heap):Prop where
 next:H.next<=H'.next
 log: ∃d,H'.log=d++H.log/\∀b,b<H.next->b∉d->H'.get b=H.get b
 far: ∀b,H'.next<=b->H'.get b=H.get b
theorem Ext.refl(H:Heap):Ext H H:=⟨a06 _,⟨[],rfl,fun _ _ _=>rfl⟩,fun _ _=>rfl⟩
theorem Ext.trans{H H1 E:Heap}(h:Ext H H1)(k:Ext H1 E):Ext H E:=by
 obtain⟨O,U,Y⟩:=h.log;obtain⟨T,V,Z⟩:=k.log;refine⟨a0m h.next k.next,⟨T++O,by rw[V,U,a0a],fun b hb A=>?_⟩,fun b hb=>?_⟩
 ·rw[a0e,not_or]at A;rw[Z b (a0X hb h.next) A.1,Y b hb A.2]
 rw[k.far b hb,h.far b (a0m k.next hb)]
theorem Ext.push(H:Heap)(o:AObj):Ext H (H.push o):=by refine⟨by simp,⟨[],rfl,fun b hb _=>Heap.get_push_ne H o (by omega)⟩,fun b hb=>Heap.get_push_ne H o ?_⟩;simp at hb;omega
theorem Ext.put{H:Heap}{b:Nat}(o:AObj)(hb:b<H.next):Ext H (H.put b o):=by refine⟨a06 _,⟨[b],rfl,fun k _ A=>Heap.get_put_ne H o (fun e=>A (by simp[e]))⟩,fun k A=>Heap.get_put_ne H o ?_⟩;simp at A;omega
def WF(H:Heap):Prop:= ∀b,H.next<=b->H.get b=none
theorem WF.ext{H H':Heap}(h:WF H)(e:Ext H H'):WF H':=fun b hb=>by rw[e.far b hb];exact h b (a0m e.next hb)
theorem WF.lt{H:Heap}(h:WF H){b:Nat}{o:AObj}(A:H.get b=some o):b<H.next:=by
 rcases a0k b H.next with hl|hl
 ·exact hl
 rw[h b hl]at A;cases A
section ext
variable {P:Program} {H H':Heap}
def ER(H:Heap){α:Type}(r:Option (α×Heap)):Prop:= ∀a H',r=some (a,H')->Ext H H'
theorem ER.none_{α:Type}:ER H (none:Option (α×Heap)):=fun _ _ h=>by cases h
theorem ER.some_{α:Type}{a:α}{H1:Heap}(h:Ext H H1):ER H (some (a,H1)):=fun _ _ e=>by injection e with e;injection e with _ e;subst e;exact h
theorem ER.same{α:Type}{a:α}:ER H (some (a,H)):=ER.some_ (Ext.refl H)
theorem ER.bif_{α:Type}{c:Bool}{x y:Option (α×Heap)}(h:ER H x)(k:ER H y):ER H (bif c then x else y):=by cases c<;>assumption
def EO(H:Heap)(r:Option Heap):Prop:= ∀H',r=some H'->Ext H H'
theorem EO.none_:EO H none:=fun _ h=>by cases h
theorem EO.some_{H1:Heap}(h:Ext H H1):EO H (some H1):=fun _ e=>by injection e with e;subst e;exact h
theorem EO.bif_{c:Bool}{x y:Option Heap}(h:EO H x)(k:EO H y):EO H (bif c then x else y):=by cases c<;>assumption
theorem ER.ovl_(r:Option Value):ER H (ovl r H):=by unfold ovl;split;exact ER.same;exact ER.none_
theorem ER.ovh_{r:Option (Value×Heap)}(h:ER H r):ER H (ovh r):=by
 unfold ovh;split
 ·rename_i v A;exact ER.some_ (h v A rfl)
 exact ER.none_
theorem ER.osk_{r:Option Heap}(h:EO H r):ER H (osk r):=by
 unfold osk;split
 ·rename_i A;exact ER.some_ (h A rfl)
 exact ER.none_
theorem ER.lift_(s:Sem Value):ER H (lift P s H):=by unfold lift;split;exact ER.same;exact ER.none_
theorem ER.plain_(ρ:Operand->Value)(o:Oper):ER H (bj P ρ o H):=by
 unfold bj;refine ER.bif_ ?_ ER.none_;split
 ·exact ER.bif_ ER.same ER.none_
 exact ER.none_
theorem iE(E:WF H)(a:Addr)(vs:List Value):EO H (H.storeL a vs):=by
 unfold Heap.storeL;split
 ·split
  ·rename_i A;exact EO.bif_ (EO.some_ (Ext.put _ (E.lt A))) EO.none_
  exact EO.none_
 exact EO.none_
theorem append_ext(E:WF H)(types:Array TypeId)(s x:Value):ER H (fB P types s x H):=by
 unfold fB;split
 case h_2=>exact ER.none_
 split
 case h_2=>exact ER.none_
 split
 ·exact ER.none_
 split
 case h_2=>exact ER.none_
 split
 ·exact ER.none_
 split
 ·exact ER.bif_ ER.same (ER.bif_ (ER.some_ (Ext.push _ _)) ER.none_)
 ·split
  ·rename_i T;refine ER.bif_ (ER.bif_ ER.same ?_) (ER.bif_ ?_ ER.none_)
   ·split
    ·rename_i O A;exact ER.some_ (iE E _ _ O A)
    exact ER.none_
   split
   ·exact ER.none_
   split
   ·exact ER.some_ (Ext.push _ _)
   exact ER.bif_ (ER.some_ ((Ext.put .dead (E.lt T)).trans (Ext.push _ _))) ER.none_
  exact ER.none_
 exact ER.none_
theorem copy_ext(O:WF H)(types:Array TypeId)(d s:Value):ER H (aCopy P types d s H):=by
 unfold aCopy;split
 case h_2=>exact ER.none_
 split
 case h_2=>exact ER.none_
 split
 case h_2=>exact ER.none_
 refine ER.bif_ ER.same ?_;split
 ·split
  ·rename_i E A;exact ER.some_ (iE O _ _ E A)
  exact ER.none_
 exact ER.none_
theorem kP(E:WF H)(t:TypeId)(m k v:Value):EO H (dW P t m k v H):=by
 unfold dW;split
 ·split
  ·split
   ·rename_i A;exact EO.bif_ (EO.some_ (Ext.put _ (E.lt A))) EO.none_
   exact EO.none_
  exact EO.none_
 exact EO.none_
theorem aop_er(A:WF H)(ρ:Operand->Value)(o:Oper):ER H (aop P ρ o H):=by
 unfold aop;split
 ·exact ER.same
 ·exact ER.same
 ·unfold fW;split;exact ER.same;exact ER.none_
 ·unfold ew;split;exact ER.some_ (Ext.push _ _);exact ER.none_
 ·exact ER.some_ (Ext.push _ _)
 ·unfold gP;split;exact ER.lift_ _;exact ER.none_
 ·unfold bm;split
  ·refine ER.bif_ ?_ ER.none_;split
   ·exact ER.some_ (Ext.push _ _)
   exact ER.none_
  exact ER.none_
 ·unfold dY;split;exact ER.ovl_ _;exact ER.none_
 ·unfold gO;split
  ·split
   ·exact ER.bif_ (ER.osk_ (iE A _ _)) ER.none_
   exact ER.none_
  exact ER.none_
 ·unfold opNil;split;exact ER.same;exact ER.same;exact ER.none_
 ·unfold aBin;split
  ·unfold binInt;split;exact ER.ovl_ _;exact ER.none_
  ·unfold binStr;split;exact ER.ovl_ _;exact ER.none_
  unfold mq;split
  ·exact ER.plain_ _ _
  ·exact ER.plain_ _ _
  intro a H' h;rw[(iK h).1];exact Ext.refl _
 ·unfold eP;split;exact ER.ovl_ _;exact ER.ovl_ _;exact ER.plain_ _ _
 ·exact ER.same
 ·exact ER.some_ (Ext.push _ _)
 ·refine ER.ovh_ ?_;unfold aMake;split
  ·split
   ·exact ER.bif_ (ER.some_ (Ext.push _ _)) ER.none_
   exact ER.none_
  exact ER.none_
 ·exact ER.ovl_ _
 ·exact ER.ovl_ _
 ·exact ER.ovl_ _
 ·exact ER.ovl_ _
 ·unfold ku;split;exact ER.ovl_ _;exact ER.lift_ _
 ·exact ER.ovl_ _
 ·exact ER.osk_ (kP A _ _ _ _)
 ·exact ER.osk_ (kP A _ _ _ _)
 ·refine ER.ovh_ ?_;unfold aRange;split;exact ER.some_ (Ext.push _ _);exact ER.none_
 ·refine ER.ovh_ ?_;unfold aNext;split
  ·split
   ·rename_i E;exact ER.bif_ (ER.some_ (Ext.put _ (A.lt E))) ER.same
   exact ER.none_
  exact ER.none_
 ·exact ER.ovl_ _
 ·unfold opCall;split
  ·unfold mC;split
   ·unfold bLen;split;exact ER.ovl_ _;exact ER.none_
   ·unfold bAppend;split;exact ER.ovh_ (append_ext A _ _ _);exact ER.none_
   ·unfold bCopy;split;exact ER.ovh_ (copy_ext A _ _ _);exact ER.none_
   ·exact ER.plain_ _ _
   ·exact ER.plain_ _ _
   exact ER.none_
  ·unfold fv;split;exact ER.same;exact ER.none_
  exact ER.none_
 ·unfold aUn;split
  ·split;exact ER.same;exact ER.none_
  exact ER.plain_ _ _
 exact ER.none_
theorem mw(A:WF H){ρ:Operand->Value}{o:Oper}{r:AN}(h:aop P ρ o H=some (r,H')):Ext H H':=aop_er A ρ o r H' h
end ext
section
variable {P:Program} {μ:Emb} {H H':Heap} {w:World}
theorem two_of{l:List Value}{a b:Value}{A:Array Value}(h:LRel μ l A.toList)(Y:l=[a,b]): ∃E O,A= #[E,O]/\VRel μ a E/\VRel μ b O:=by subst Y;obtain⟨E,t,U,ha,Z⟩:=h.cons_left;obtain⟨O,t2,V,hb,T⟩:=Z.cons_left;have:=T.nil_left;subst this V;exact⟨E,O,a19.1 (by rw[U]),ha,hb⟩
theorem kV{l:List Value}{a:Value}{A:Array Value}(h:LRel μ l A.toList)(T:l=[a]): ∃E,A= #[E]/\VRel μ a E:=by subst T;obtain⟨E,t,O,ha,U⟩:=h.cons_left;have:=U.nil_left;subst this;exact⟨E,a19.1 (by rw[O]),ha⟩
theorem OpOK.of_value{s:Sem Next}{v v':Value}(h: ∀w,s.run P w= .ok (.value v') w)(E:WRel μ H w)(A:VRel μ v v'):OpOK P μ H w s (.val v) H:=
 ⟨.value v',w,μ,h w,Post.refl E,A⟩
theorem ft{ρ ρ':Operand->Value}{x:Option Operand}(h: ∀y,x=some y->VRel μ (ρ y) (ρ' y)):
  (∀v,x.map ρ=some v->∃v',x.map ρ'=some v'/\VRel μ v v')/\(x.map ρ=none->x.map ρ'=none):=by
 cases x with
 |none=>exact⟨fun v A=>by simp at A,fun _=>rfl⟩
 |some y=>exact⟨fun v A=>by simp at A;subst A;exact⟨_,rfl,h y rfl⟩,fun E=>by simp at E⟩
set_option maxHeartbeats 4000000 in
theorem iu{ρ ρ':Operand->Value}{o:Oper}{r:AN}(T: ∀x∈o.op.operands,VRel μ (ρ x) (ρ' x))(U:WRel μ H w)
  (hf: ∀b,H.next<=b->b<H'.next->μ b=none) (h:aop P ρ o H=some (r,H')):OpOK P μ H w (execOp ρ' o) r H':=by
 cases hk:aT o.op with
 |true=>
  obtain⟨rfl,v,v',rfl,A,hr⟩:=jM hk T h
  exact OpOK.of_value A U hr
 |false=>
  obtain⟨ar,op,type,pos,after,V⟩:=o
  cases op<;>simp only[aT,reduceCtorEq]at hk
  case alloc e=>
   have E:ew P e H=some (r,H'):=h
   have:=alloc_sound U hf E
   exact this
  case box e x=>
   have E:some (AN.val (ptrTo H.next),aJ H (ρ x).cells.toList none)=some (r,H'):=h
   simp only[a00,a04]at E
   obtain⟨rfl,rfl⟩:=E
   have:=box_sound (P:=P) (e:=e) U (hf H.next (a06 _) (by simp[aJ])) (T x (by simp[Op.operands]))
   exact this
  case buildSlice t n parts=>
   have E:bm P t n (eW (fun p=>(p.1,ρ p.2)) parts.toList) H=some (r,H'):=h
   rw[iL]at E
   have:=jq (ps':=parts.map fun(i,x)=>(i,ρ' x)) U hf (by simp) (fun i x x' h1 h2=>?_) E
   ·exact this
   simp only[Array.toList_map,a1C,a1G]at h1 h2
   obtain⟨y,hy,rfl⟩:=h1
   obtain⟨z,hz,rfl⟩:=h2
   rw[hy]at hz;injection hz with hz;subst hz
   refine⟨rfl,T _ ?_⟩
   have:=a0q hy
   simp only[Op.operands,List.mem_toArray,a0w]
   exact⟨y,this,rfl⟩
  case load t a=>
   have E:dY P t (ρ a) H=some (r,H'):=h
   have:=load_sound U (T a (by simp[Op.operands])) E
   exact this
  case store t a x=>
   have E:gO P t (ρ a) (ρ x) H=some (r,H'):=h
   have:=store_sound U (T a (by simp[Op.operands])) (T x (by simp[Op.operands])) E
   exact this
  case convert s d x=>
   have E:eP P ρ ⟨ar,.convert s d x,type,pos,after,V⟩ s d (ρ x) H=some (r,H'):=h
   exact me (o:=⟨ar,.convert s d x,type,pos,after,V⟩) U rfl T E
  case makeMap t rsv=>
   cases rsv with
   |some _=>simp[aop]at h
   |none=>
    have E:some (AN.val (.map (some H.next)),H.push (.tab []))=some (r,H'):=h
    simp only[a00,a04]at E
    obtain⟨rfl,rfl⟩:=E
    have:=lY (P:=P) t U (hf H.next (a06 _) (by simp))
    exact this
  case makeSlice t l c=>
   have E:ovh (aMake P t (ρ l) (ρ c) H)=some (r,H'):=h
   have:=make_sound U hf (T l (by simp[Op.operands])) (T c (by simp[Op.operands])) E
   exact this
  case slice t x lo hi mx=>
   obtain⟨a1,a2⟩:=ft (μ:=μ) (ρ:=ρ) (ρ':=ρ') (x:=lo) fun y hy=>T y (by subst hy;simp[Op.operands])
   obtain⟨b1,b2⟩:=ft (μ:=μ) (ρ:=ρ) (ρ':=ρ') (x:=hi) fun y hy=>T y (by subst hy;simp[Op.operands])
   obtain⟨_,c2⟩:=ft (μ:=μ) (ρ:=ρ) (ρ':=ρ') (x:=mx) fun y hy=>T y (by subst hy;simp[Op.operands])
   have E:ovl (be P t (ρ x) (lo.map ρ) (hi.map ρ) (mx.map ρ) H) H=some (r,H'):=h
   have:=slice_sound U (T x (by simp[Op.operands])) a1 a2 b1 b2 c2 E
   exact this
  case lookup t m k ok=>
   have E:ovl (cP P t (ρ m) (ρ k) ok H) H=some (r,H'):=h
   obtain⟨rfl,v,hv,rfl⟩:=ce E
   obtain⟨v',A,hr⟩:=lookup_sound (P:=P) U (T m (by simp[Op.operands])) (T k (by simp[Op.operands])) hv
   have:=OpOK.value A (Post.refl U) hr
   exact this
  case mapUpdate t m k x=>
   have E:osk (dW P t (ρ m) (ρ k) (ρ x) H)=some (r,H'):=h
   obtain⟨hu,rfl⟩:=osk_inv E
   obtain⟨w',A,hp⟩:=iT (P:=P) U (T m (by simp[Op.operands])) (T k (by simp[Op.operands])) (T x (by simp[Op.operands])) hu
   have:=OpOK.skip A hp
   exact this
  case insert t m k x=>
   have E:osk (dW P t (ρ m) (ρ k) (ρ x) H)=some (r,H'):=h
   obtain⟨hu,rfl⟩:=osk_inv E
   obtain⟨w',A,hp⟩:=iT (P:=P) U (T m (by simp[Op.operands])) (T k (by simp[Op.operands])) (T x (by simp[Op.operands])) hu
   have:=OpOK.skip A hp
   exact this
  case range t x=>
   have E:ovh (aRange P t (ρ x) H)=some (r,H'):=h
   have:=range_sound U hf (T x (by simp[Op.operands])) E
   exact this
  case next it isS=>
   cases isS with
   |false=>simp[aop]at h
   |true=>
    have E:ovh (aNext H (ρ it))=some (r,H'):=h
    have:=next_sound (P:=P) (type:=type) U (T it (by simp[Op.operands])) E
    exact this
  case call c=>
   obtain⟨Z,args,O⟩:=c
   have Y:LRel μ (eW ρ args.toList) (args.map ρ').toList:=by
    rw[iL];have:=jE (μ:=μ) (ops:=args) (ρ:=ρ) (ρ':=ρ') fun x hx=>T x (by simp[Op.operands,Call.operands];exact .inr hx)
    simpa using this
   have h:opCall P ρ ⟨ar,.call ⟨Z,args,O⟩,type,pos,after,V⟩ ⟨Z,args,O⟩ H=some (r,H'):=h
   unfold opCall at h
   cases Z with
   |invoke rv nm=>simp at h
   |value f=>
    simp only at h
    unfold fv at h
    split at h
    ·rename_i n hn;simp only[a00,a04]at h;obtain⟨rfl,rfl⟩:=h;obtain⟨i,b5,rfl,bb,A,hr⟩:=callee_sound (P:=P) (T f (by simp[Op.operands,Call.operands])) Y hn;refine⟨.enter i bb,w,μ,?_,Post.refl U,rfl,hr⟩;have:=A w;simpa only[execOp,resolve] using this
    cases h
   |builtin b=>
    simp only at h
    unfold mC at h
    have ax:bj P ρ ⟨ar,.call ⟨.builtin b,args,O⟩,type,pos,after,V⟩ H=some (r,H')->OpOK P μ H w (execOp ρ' ⟨ar,.call ⟨.builtin b,args,O⟩,type,pos,after,V⟩) r H':=by intro hp;obtain⟨rfl,v,v',rfl,A,hr⟩:=dr hp (fun _ _=>by simp) T;exact OpOK.of_value A U hr
    split at h
    ·--len
     unfold bLen at h;split at h
     ·rename_i t x ht hx;obtain⟨x',a3,ba⟩:=kV Y hx;obtain⟨rfl,v,hv,rfl⟩:=ce h;obtain⟨A,hn⟩:=len_sound (P:=P) (ty:=type) U ba hv;have a8:O= #[t]:=a19.1 (by rw[ht]);refine⟨.value v,w,μ,?_,Post.refl U,.atom v hn⟩;simp only[execOp,resolve,Sem.run_bind,Sem.run_pure,Result.andThen_ok,invoke,builtin,a3,a8,A]
     cases h
    ·unfold bAppend at h;split at h
     ·rename_i t1 t2 s x ht hx;obtain⟨s',x',a3,a9,ba⟩:=two_of Y hx;obtain⟨v,hv,rfl⟩:=jZ h;have a8:O= #[t1,t2]:=a19.1 (by rw[ht]);obtain⟨v',w',μ',A,hp,hr⟩:=append_sound (P:=P) (ty:=type) U hf a9 ba (by rw[a8];rfl) hv;refine⟨.value v',w',μ',?_,hp,hr⟩;simp only[execOp,resolve,Sem.run_bind,Sem.run_pure,Result.andThen_ok,invoke,builtin,a3,A]
     cases h
    ·unfold bCopy at h;split at h
     ·rename_i d s hx;obtain⟨d',s',a3,b0,a9⟩:=two_of Y hx;obtain⟨v,hv,rfl⟩:=jZ h;obtain⟨v',w',A,hp,hr⟩:=copy_sound (P:=P) (ty:=type) U b0 a9 hv;refine⟨.value v',w',μ,?_,hp,hr⟩;simp only[execOp,resolve,Sem.run_bind,Sem.run_pure,Result.andThen_ok,invoke,builtin,a3,A]
     cases h
    ·exact ax h
    ·exact ax h
    cases h
  all_goals simp[aop]at h
end
end Go.R
namespace Go.R
@[simp] theorem lget_nil(i:Nat):cy .nil i=undef:=rfl
@[simp] theorem lget_lset_same(t:Tr Value)(d:Nat)(v:Value):cy (lset t d v) d=v:=by simp[cy,lset]
theorem lget_lset_ne(t:Tr Value){d k:Nat}(v:Value)(h:d≠k):cy (lset t d v) k=cy t k:=by simp[cy,lset,Tr.get_set_ne _ _ h]
theorem fZ(t:Tr Value)(d k:Nat)(v:Value):cy (lset t d v) k=if d=k then v else cy t k:=by
 by_cases h:d=k
 ·subst h;simp
 rw[if_neg h,lget_lset_ne t v h]
def TRel(μ:Emb)(t:Tr Value)(n:Nat)(a:Array Value):Prop:=a.size=n/\∀i,VRel μ (cy t i) (a.getD i undef)
def GRel(μ:Emb)(G:Nat):Prop:= ∀g,g<G->∃l,μ g=some l/\l.c=g/\l.sh=0
section
variable {P:Program} {G:Nat} {μ μ':Emb}
theorem TRel.mono(h: ∀b l,μ b=some l->μ' b=some l){t:Tr Value}{n:Nat}{a:Array Value}(A:TRel μ t n a):TRel μ' t n a:=⟨A.1,fun i=>(A.2 i).mono h⟩
theorem GRel.mono(h: ∀b l,μ b=some l->μ' b=some l)(U:GRel μ G):GRel μ' G:=fun g A=>by obtain⟨l,E,O,T⟩:=U g A;exact⟨l,h _ _ E,O,T⟩
theorem getD_set(a:Array Value)(d i:Nat)(v:Value):(a.setIfInBounds d v).getD i undef=if d=i/\d<a.size then v else a.getD i undef:=by
 simp only[a0K,a12];by_cases h:d=i
 ·subst h;by_cases A:d<a.size
  ·simp[A]
  simp[A]
 simp[h]
theorem TRel.put{t:Tr Value}{n:Nat}{a:Array Value}(h:TRel μ t n a){d:Nat}(hd:d<n){v v':Value}(A:VRel μ v v'):TRel μ (lset t d v) n (a.setIfInBounds d v'):=by
 refine⟨by simp[h.1],fun i=>?_⟩;rw[fZ,getD_set];by_cases hi:d=i
 ·rw[if_pos hi,if_pos ⟨hi,by rw[h.1];exact hd⟩];exact A
 rw[if_neg hi,if_neg (fun e=>hi e.1)];exact h.2 i
theorem eval_of(U:GRel μ G){tm:Tr Value}{a:Act}{x:Operand}(A:bg G x=true)(h: ∀t,x= .tmp t->VRel μ (cy tm t) (a.tmps.getD t undef)):
  VRel μ (cW tm x) (a.eval x):=by
 cases x with
 |tmp t=>exact h t rfl
 |const v=>exact VRel.refl2 A
 |global g=>
  obtain⟨l,E,O,T⟩:=U g (a0d A)
  have:=VRel.ptr (μ:=μ) g 0 l E
  rw[O,T]at this;exact this
 |func f=>exact .atom _ rfl
theorem yield_eq{ops:Array Oper}{tm:Tr Value}{a:Array Value}{j:Nat}(h: ∀d,(ops[j]?).bind (·.dst)=some d->VRel μ (cy tm d) (a.getD d undef)):
  kK ops tm j=yielded ops a j:=by
 unfold kK yielded
 cases hd:(ops[j]?).bind (·.dst) with
 |none=>rfl
 |some d=>
  have A:=h d hd
  simp only[a0l]
  simp only[a0K]at A
  cases ha:a[d]? with
  |none=>
   rw[ha]at A
   simp only[Option.getD_none]at A
   have: ∀b,cy tm d≠ .bool b:=by intro b e;rw[e]at A;have:=A.bool_inv;cases this
   cases E:cy tm d<;>first|rfl|exact absurd E (this _)
  |some x=>
   rw[ha]at A
   simp only[a1m]at A
   cases x with
   |bool b=>
    have:cy tm d= .bool b:=by generalize cy tm d=y at A;cases A;rfl
    rw[this]
   |_=>
    have: ∀b,cy tm d≠ .bool b:=by intro b e;rw[e]at A;have:=A.bool_inv;cases this
    cases E:cy tm d<;>first|rfl|exact absurd E (this _)
theorem wanted_eq{ops:Array Oper}{o:Oper}{tm:Tr Value}{a:Array Value}(h: ∀j w,o.guard=some (j,w)->∀d,(ops[j]?).bind (·.dst)=some d->VRel μ (cy tm d) (a.getD d undef)):
  aW ops o tm=Region.wanted o (yielded ops a):=by
 unfold aW Region.wanted
 cases A:o.guard with
 |none=>rfl
 |some p=>
  obtain⟨j,w⟩:=p
  simp only
  rw[yield_eq (h j w A)]
def dR(P:Program)(G:Nat)(cf:ck):Prop:= ∀f args H v H',cf f args H=some (v,H')->WF H->Ext H H'/\
 ∀μ w (cargs:Array Value),LRel μ args cargs.toList->GRel μ G->WRel μ H w->(∀b,H.next<=b->b<H'.next->μ b=none)->
  Calls P f cargs w fun e w'=> ∃μ' v',e= .returned v'/\VRel μ' v v'/\Post μ H w μ' H' w'
noncomputable def dZ (P : Program) (cf : ck) (ρ : Operand -> Value) (o : Oper) (H : Heap) : Option (Value × Heap) :=
 match aop P ρ o H with
 |some (.val v,h)=>some (v,h)
 |some (.skip,h)=>some (undef,h)
 |some (.enter f args,h)=>cf f args h
 |none=>none
theorem step_eq(cf:ck)(ops:Array Oper)(o:Oper)(s:St):step P G cf ops o s=
  bif aW ops o s.tmps then
   bif o.op.operands.toList.all (bg G) then
    match dZ P cf (cW s.tmps) o s.heap with
    |some (v,h)=>{s with heap:=h}.put o.dst v
    |none=>none
   else none
  else s.put o.dst undef:=by
 unfold step dZ
 cases aW ops o s.tmps with
 |false=>rfl
 |true=>
  cases o.op.operands.toList.all (bg G) with
  |false=>rfl
  |true=>
   simp only[cond_true]
   cases aop P (cW s.tmps) o s.heap with
   |none=>rfl
   |some p=>
    obtain⟨r,h⟩:=p
    cases r with
    |val v=>rfl
    |skip=>rfl
    |enter f args=>
     simp only
     cases cf f args h with
     |none=>rfl
     |some q=>rfl
theorem gM{s E:St}{A:Option Tmp}{v:Value}(h:s.put A v=some E):
  E.size=s.size/\E.heap=s.heap/\((A=none/\E.tmps=s.tmps)\/∃d,A=some d/\d<s.size/\E.tmps=lset s.tmps d v):=by
 unfold St.put at h
 split at h
 ·rename_i d;cases O:Nat.ble (d+1) s.size with
  |false=>rw[O]at h;cases h
  |true=>
   rw[O]at h;simp only[cond_true,a00]at h;subst h
   exact⟨rfl,rfl,.inr ⟨d,rfl,a0d O,rfl⟩⟩
 injection h with h;subst h;exact⟨rfl,rfl,.inl ⟨rfl,rfl⟩⟩
theorem lq{cf:ck}(T:dR P G cf){ρ:Operand->Value}{o:Oper}{H H':Heap}{v:Value}(A:WF H)(h:dZ P cf ρ o H=some (v,H')):Ext H H':=by
 unfold dZ at h;split at h
 ·rename_i u E ha;simp only[a00,a04]at h;rw[←h.2];exact mw A ha
 ·rename_i E ha;simp only[a00,a04]at h;rw[←h.2];exact mw A ha
 ·rename_i f args E ha;have O:=mw A ha;exact O.trans (T f args E v H' h (A.ext O)).1
 cases h
theorem i6{cf:ck}(a5:dR P G cf){ρ:Operand->Value}{o:Oper}{a:Act}{H H':Heap}{v:Value}{w:World}(an:WF H)(hρ: ∀x∈o.op.operands,VRel μ (ρ x) (a.eval x))
  (hG:GRel μ G) (hw:WRel μ H w) (hf: ∀b,H.next<=b->b<H'.next->μ b=none) (h:dZ P cf ρ o H=some (v,H')) {K:Act->World->Prop} {Q:Exit->Act->World->Prop}
  (hK: ∀μ' w' v',Post μ H w μ' H' w'->VRel μ' v v'->K (a.put o.dst v') w'):o.wp P a w K Q:=by
 unfold dZ at h
 unfold Oper.wp
 split at h
 ·rename_i u h1 ha;simp only[a00,a04]at h;obtain⟨rfl,rfl⟩:=h;obtain⟨n,w1,T,A,E,O⟩:=iu hρ hw hf ha;rw[A];cases n<;>first|exact hK T w1 _ E O|exact O.elim
 ·rename_i h1 ha;simp only[a00,a04]at h;obtain⟨rfl,rfl⟩:=h;obtain⟨n,w1,T,A,E,O⟩:=iu hρ hw hf ha;rw[A];cases n<;>first|exact hK T w1 _ E VRel.undef|exact O.elim
 ·rename_i f args h1 ha;have e1:=mw an ha;obtain⟨e2,Z⟩:=a5 f args h1 v H' h (an.ext e1);obtain⟨n,w1,T,A,E,O⟩:=iu hρ hw (fun b U V=>hf b U (a0X V e2.next)) ha;rw[A];cases n with
  |enter f' cargs=>
   obtain⟨rfl,Y⟩:=O
   rw[Oper.upon_enter]
   refine(Z T w1 cargs Y (hG.mono E.ext) E.wrel (fun b U V=>?_)).mono ?_
   ·cases hb:T b with
    |none=>rfl
    |some l=>
     rcases E.dom b l hb with hb0|⟨_,hb3⟩
     ·rw[hf b (a0m e1.next U) V]at hb0;cases hb0
     omega
   rintro e w2 ⟨μ2,v',rfl,hv,hp2⟩
   exact hK μ2 w2 v' (E.trans hp2 e1.next e2.next) hv
  |_=>exact O.elim
 cases h
theorem ju{cf:ck}(E:dR P G cf){ops:Array Oper}{o:Oper}{s T:St}(V:WF s.heap)(h:step P G cf ops o s=some T):Ext s.heap T.heap:=by
 rw[step_eq]at h;cases O:aW ops o s.tmps with
 |false=>rw[O]at h;rw[(gM h).2.1];exact Ext.refl _
 |true=>
  rw[O]at h
  cases A:o.op.operands.toList.all (bg G) with
  |false=>rw[A]at h;cases h
  |true=>
   rw[A]at h
   simp only[cond_true]at h
   split at h
   ·rename_i v Y U;rw[(gM h).2.1];exact lq E V U
   cases h
theorem eV(a:Act)(A:Option Tmp)(v:Value):(a.put A v).defers=a.defers:=by cases A<;>rfl
theorem put_rel{s O:St}{A:Option Tmp}{v v':Value}{a:Act}(h:s.put A v=some O)(U:TRel μ s.tmps s.size a.tmps)(V:VRel μ v v'):
  TRel μ O.tmps O.size (a.put A v').tmps:=by
 obtain⟨T,_,⟨rfl,E⟩|⟨d,rfl,hd,E⟩⟩:=gM h
 ·rw[T,E];exact U
 rw[T,E];exact U.put hd V
theorem step_sound{cf:ck}(al:dR P G cf){ops:Array Oper}{i:Nat}{o:Oper}(ho:ops[i]?=some o){s O:St}{a:Act}{w:World}(a2:WF s.heap)(T:TRel μ s.tmps s.size a.tmps)
  (Y:GRel μ G) (hw:WRel μ s.heap w) (hf: ∀b,s.heap.next<=b->b<O.heap.next->μ b=none) (h:step P G cf ops o s=some O) {K:Act->World->Prop} {Q:Exit->Act->World->Prop}
  (Z: ∀μ' w' V,Post μ s.heap w μ' O.heap w'->TRel μ' O.tmps O.size V.tmps->V.defers=a.defers->K V w'):wpOp P ops Q i K a w:=by
 unfold wpOp
 rw[ho]
 simp only
 have U:aW ops o s.tmps=Region.wanted o (yielded ops a.tmps):=wanted_eq (μ:=μ) fun _ _ _ d _=>T.2 d
 rw[step_eq,U]at h
 cases hq:Region.wanted o (yielded ops a.tmps) with
 |false=>
  rw[hq]at h
  simp only[cond_false]at h
  simp only[a0g,if_false]
  have A:=(gM h).2.1
  exact Z μ w _ (by rw[A];exact Post.refl hw) (put_rel h T VRel.undef) (eV _ _ _)
 |true=>
  rw[hq]at h
  simp only[if_true]
  left
  cases E:o.op.operands.toList.all (bg G) with
  |false=>rw[E]at h;cases h
  |true=>
   rw[E]at h
   simp only[cond_true]at h
   split at h
   ·rename_i v h1 he;have A:=(gM h).2.1;simp only at A;refine i6 al a2 (fun x hx=>eval_of Y (a0j.1 E x (by simpa using hx)) fun t _=>T.2 t) Y hw (by rw[←A];exact hf) he ?_;intro μ' w' v' hp hv;have ax:TRel μ' s.tmps s.size a.tmps:=T.mono hp.ext;exact Z μ' w' _ (by rw[A];exact hp) (put_rel (s:={s with heap:=h1}) h ax hv) (eV _ _ _)
   cases h
theorem iH{cf:ck}(E:dR P G cf){ops:Array Oper}: ∀(l:List Oper) (s A:St),WF s.heap->fC P G cf ops l s=some A->Ext s.heap A.heap
 | [],s,A,_,h=>by rw[iG]at h;injection h with h;subst h;exact Ext.refl _
 |o::os,s,A,hw,h=>by
  rw[bP]at h;split at h
  ·rename_i U T;have O:=ju E hw T;exact O.trans (iH E os U A (hw.ext O) h)
  cases h
theorem iV{cf:ck}(E:dR P G cf){ops:Array Oper}{Q:Exit->Act->World->Prop}: ∀(l:List Oper) (k:Nat) (s A:St),ops.toList.drop k=l->fC P G cf ops l s=some A->
  ∀(μ:Emb) (a:Act) (w:World),WF s.heap->TRel μ s.tmps s.size a.tmps->GRel μ G->WRel μ s.heap w->(∀b,s.heap.next<=b->b<A.heap.next->μ b=none)->
  (∀μ' w' Z,Post μ s.heap w μ' A.heap w'->TRel μ' A.tmps A.size Z.tmps->Z.defers=a.defers->Q .normal Z w')->wpOps P ops Q (List.range' k l.length) a w
 | [],k,s,A,_,h,μ,a,w,hwf,ht,hG,hw,hf,hQ=>by rw[iG]at h;injection h with h;subst h;simp only[a05,List.range'_zero,wpOps];exact hQ μ w a (Post.refl hw) ht rfl
 |o::os,k,s,A,hd,h,μ,a,w,hwf,ht,hG,hw,hf,hQ=>by
  rw[bP]at h;split at h
  ·rename_i s1 h1;have U:=ju E hwf h1;have e2:=iH E os s1 A (hwf.ext U) h;have hk:k<ops.toList.length:=by
    rcases a0k k ops.toList.length with hl|hl
    ·exact hl
    rw[a0T hl]at hd;cases hd
   have Y:=a0G hk;rw[hd]at Y;injection Y with h2 h3;have ho:ops[k]?=some o:=by
    have:ops.toList[k]?=some o:=by rw[a08 hk,←h2]
    simpa using this
   simp only[a03,List.range'_succ];rw[wpOps_cons];refine step_sound E ho hwf ht hG hw (fun b O T=>hf b O (a0X T e2.next)) h1 ?_;intro μ1 w1 a1 V a5 ar;refine iV E os (k+1) s1 A h3.symm h μ1 a1 w1 (hwf.ext U) a5 (hG.mono V.ext) V.wrel (fun b O T=>?_) ?_
   ·cases hb:μ1 b with
    |none=>rfl
    |some l=>
     rcases V.dom b l hb with hb0|⟨_,hb3⟩
     ·rw[hf b (a0m U.next O) T]at hb0;cases hb0
     omega
   intro μ2 w2 a2 a4 a6 ax;exact hQ μ2 w2 a2 (V.trans a4 U.next e2.next) a6 (ax.trans ar)
  cases h
end
end Go.R
set_option linter.unusedVariables false
set_option linter.unusedSimpArgs false
namespace Go.R
def kH(l:List Nat)(o:Oper):Nat:=o.after.toList.foldl (fun s e=>bif Region.binds .any e then s|||2^e.on|||l.getD e.on 0 else s) 0
theorem gY: ∀(os:List Oper) (A:List Nat),∃t,ancs os A=A++t/\t.length=os.length
 | [],A=>⟨[],by simp[ancs],rfl⟩
 |o::os,A=>by obtain⟨t,h,E⟩:=gY os (A++[kH A o]);refine⟨kH A o::t,?_,by simp[E]⟩;show ancs os (A++[kH A o])=_;rw[h];simp
theorem ancs_at: ∀(os:List Oper) (A:List Nat) (k:Nat) (o:Oper),os[k]?=some o->
  (ancs os A).getD (A.length+k) 0=kH ((ancs os A).take (A.length+k)) o
 | [],A,k,o,h=>by simp at h
 |x::os,A,0,o,h=>by
  simp at h;subst h;obtain⟨t,h,_⟩:=gY os (A++[kH A x]);have e:ancs (x::os) A=A++([kH A x]++t):=by show ancs os (A++[kH A x])=_;rw[h];simp
  rw[e];simp
 |x::os,A,k+1,o,h=>by have ih:=ancs_at os (A++[kH A x]) k o (by simpa using h);have e:ancs (x::os) A=ancs os (A++[kH A x]):=rfl;rw[e];simp only[a01,a0u]at ih;rw[show A.length+(k+1)=A.length+1+k by omega];exact ih
theorem fold_bit(l:List Nat)(j:Nat): ∀(es:List Edge) (s:Nat),(es.foldl (fun s e=>bif Region.binds .any e then s|||2^e.on|||l.getD e.on 0 else s) s).testBit j=true->
  s.testBit j=true\/∃e∈es,Region.binds .any e=true/\(e.on=j\/(l.getD e.on 0).testBit j=true)
 | [],s,h=> .inl h
 |e::es,s,h=>by
  simp only[a1Q]at h;rcases fold_bit l j es _ h with h1|⟨e',he,h2⟩
  ·cases hb:Region.binds .any e with
   |false=>rw[hb]at h1;exact .inl h1
   |true=>
    rw[hb]at h1
    simp only[cond_true,Nat.testBit_or,a0P]at h1
    rcases h1 with(h1|h1)|h1
    ·exact .inl h1
    ·rw[Nat.testBit_two_pow]at h1;exact .inr ⟨e,by simp,hb,.inl (by simpa using h1)⟩
    exact .inr ⟨e,by simp,hb,.inr h1⟩
  exact .inr ⟨e',by simp[he],h2⟩
theorem ordered_edge{ops:Array Oper}{j k:Nat}(h:aZ (cj ops) j k=true):
  ∃o,ops[k]?=some o/\∃e∈o.after.toList,Region.binds .any e=true/\(e.on=j\/(e.on<k/\aZ (cj ops) j e.on=true)):=by
 unfold aZ at h
 have E:k<ops.toList.length:=by
  obtain⟨t,O,T⟩:=gY ops.toList [];rcases a0k k ops.toList.length with hlt|hge
  ·exact hlt
  have:(cj ops).getD k 0=0:=by unfold cj;rw[O,a0z,a09,a1g (by omega)];rfl
  rw[this]at h;simp at h
 have A:ops.toList[k]?=some ops.toList[k]:=a08 E
 have ha:=ancs_at ops.toList [] k _ A
 simp only[a05,a0R]at ha
 change (cj ops).getD k 0=kH ((cj ops).take k) _ at ha
 rw[ha]at h
 rcases fold_bit _ j _ 0 h with h1|⟨e,he,hb,h2⟩
 ·simp at h1
 refine⟨ops.toList[k],by rw[←Array.getElem?_toList];exact A,e,he,hb,?_⟩
 rcases h2 with h2|h2
 ·exact .inl h2
 right
 rcases a0k e.on k with hlt|hge
 ·refine⟨hlt,?_⟩;unfold aZ;rw[a09,a0x,if_pos hlt,←a09]at h2;exact h2
 rw[a09,a0x,if_neg (by omega)]at h2
 simp at h2
def DC(ops:Array Oper)(S:Nat->Bool):Prop:= ∀(k:Nat) o,ops[k]?=some o->S k=true->∀e∈o.after.toList,Region.binds .any e=true->S e.on=true
theorem DC.anc{ops:Array Oper}{S:Nat->Bool}(h:DC ops S){j:Nat}: ∀(k:Nat),S k=true->aZ (cj ops) j k=true->S j=true:=by
 intro k;induction k using Nat.strongRecOn with
 |_ k ih=>
  intro T U
  obtain⟨o,A,e,O,hb,E⟩:=ordered_edge U
  have hs:=h k o A T e O hb
  rcases E with rfl|⟨hlt,h2⟩
  ·exact hs
  exact ih e.on hlt hs h2
structure RegFacts(ops:Array Oper):Prop where
 back: ∀(j:Nat) o,ops[j]?=some o->∀e∈o.after.toList,Region.binds .any e=true->e.on<j
 pair: ∀(i j:Nat) x o,i<j->ops[i]?=some x->ops[j]?=some o->aZ (cj ops) i j=true\/x.apart ops o=true
theorem regOK_facts{ops:Array Oper}(h:jV ops=true):RegFacts ops:=by
 unfold jV at h;simp only[a0j,List.mem_range]at h;refine⟨fun j o E e U hb=>?_,fun i j x o T V E=>?_⟩
 ·have O:j<ops.size:=(a0L.1 E).1;have:=h j O;rw[E]at this;simp only[a02,a0j]at this;have A:=this.1.1 e U;rw[hb]at A;simp only[a1q,a0Y]at A;exact a0d A
 have O:j<ops.size:=(a0L.1 E).1;have:=h j O;rw[E]at this;simp only[a02,a0j,List.mem_range]at this;have A:=this.2 i T;rw[V]at A;simpa using A
section
variable (st:Nat->St) (vl:Nat->Value) (ops:Array Oper)
def chg(k b:Nat):Prop:=(st (k+1)).heap.get b≠(st k).heap.get b
open Classical in
noncomputable def jB (S : Nat -> Bool) : Nat -> Nat -> Option AObj
 |0,b=>(st 0).heap.get b
 |k+1,b=>if S k=true/\chg st k b then(st (k+1)).heap.get b else jB S k b
def jo(k:Nat):Option Tmp:=(ops[k]?).bind (·.dst)
open Classical in
noncomputable def tv (S : Nat -> Bool) : Nat -> Nat -> Value
 |0,t=>cy (st 0).tmps t
 |k+1,t=>if S k=true/\jo ops k=some t then vl k else tv S k t
theorem kh{S:Nat->Bool}{b i:Nat}: ∀m,(∀k,k<m->chg st k b->(S k=true↔k<i))->jB st S m b=(st (min m i)).heap.get b
 |0,_=>by simp[jB]
 |m+1,h=>by
  have ih:=kh m fun k E=>h k (by omega)
  unfold jB;by_cases A:m<i
  ·rw[show min (m+1) i=m+1 by omega];rw[show min m i=m by omega]at ih;by_cases hc:chg st m b
   ·rw[if_pos ⟨(h m (by omega) hc).2 A,hc⟩]
   rw[if_neg (fun e=>hc e.2),ih];unfold chg at hc;exact(Classical.not_not.1 hc).symm
  rw[show min (m+1) i=i by omega];rw[show min m i=i by omega]at ih;rw[if_neg (fun e=>A ((h m (by omega) e.2).1 e.1)),ih]
theorem ly{S S':Nat->Bool}{b:Nat}: ∀m,(∀k,k<m->chg st k b->S k=S' k)->jB st S m b=jB st S' m b
 |0,_=>rfl
 |m+1,h=>by
  have ih:=ly m fun k A=>h k (by omega)
  unfold jB;by_cases hc:chg st m b
  ·rw[h m (by omega) hc,ih]
  rw[if_neg (fun e=>hc e.2),if_neg (fun e=>hc e.2),ih]
theorem tv_eq{S:Nat->Bool}{t i:Nat}(A: ∀k,cy (st (k+1)).tmps t=if jo ops k=some t then vl k else cy (st k).tmps t):
  ∀m,(∀k,k<m->jo ops k=some t->(S k=true↔k<i))->tv st vl ops S m t=cy (st (min m i)).tmps t
 |0,_=>by simp[tv]
 |m+1,h=>by
  have ih:=tv_eq A m fun k O=>h k (by omega)
  unfold tv;by_cases E:m<i
  ·rw[show min (m+1) i=m+1 by omega];rw[show min m i=m by omega]at ih;by_cases hc:jo ops m=some t
   ·rw[if_pos ⟨(h m (by omega) hc).2 E,hc⟩,A,if_pos hc]
   rw[if_neg (fun e=>hc e.2),ih,A,if_neg hc]
  rw[show min (m+1) i=i by omega];rw[show min m i=i by omega]at ih;rw[if_neg (fun e=>E ((h m (by omega) e.2).1 e.1)),ih]
theorem tv_congr{S S':Nat->Bool}{t:Nat}: ∀m,(∀k,k<m->jo ops k=some t->S k=S' k)->tv st vl ops S m t=tv st vl ops S' m t
 |0,_=>rfl
 |m+1,h=>by
  have ih:=tv_congr m fun k A=>h k (by omega)
  unfold tv;by_cases hc:jo ops m=some t
  ·rw[h m (by omega) hc,ih]
  rw[if_neg (fun e=>hc e.2),if_neg (fun e=>hc e.2),ih]
end
structure Inv(ops:Array Oper)(st:Nat->St)(vl:Nat->Value)(μ0:Emb)(w0:World)(d0:List Deferred)(S:Nat->Bool)(μ:Emb)(a:Act)(w:World):Prop where
 dc:DC ops S
 dom: ∀b l,μ b=some l->b<(st 0).heap.next\/(∃k,k<ops.size/\S k=true/\(st k).heap.next<=b/\b<(st (k+1)).heap.next)\/(st ops.size).heap.next<=b
 obj: ∀b l o,μ b=some l->jB st S ops.size b=some o->ObjRel μ w l o
 inj: ∀b1 b2 l1 l2 o1 o2,b1≠b2->μ b1=some l1->μ b2=some l2->jB st S ops.size b1=some o1->jB st S ops.size b2=some o2->o1.rw=true->o2.live=true->l1.c≠l2.c
 size:a.tmps.size=(st 0).size
 tm: ∀t,VRel μ (tv st vl ops S ops.size t) (a.tmps.getD t undef)
 defers:a.defers=d0
 ext0: ∀b l,μ0 b=some l->μ b=some l
 dom0: ∀b l,μ b=some l->μ0 b=some l\/((st 0).heap.next<=b/\b<(st ops.size).heap.next)
 grow0:w0.heap.size<=w.heap.size
 os0:w.os=w0.os
 tape0:w.tape=w0.tape
 out0:w.output=w0.output
 keep0: ∀c,c<w0.heap.size->(∀b l o,μ0 b=some l->(st 0).heap.get b=some o->o.rw=true->l.c≠c)->w.heap[c]?=w0.heap[c]?
 img0: ∀b l o,μ b=some l->jB st S ops.size b=some o->o.live=true->
  w0.heap.size<=l.c\/∃b0 l0 o0,μ0 b0=some l0/\(st 0).heap.get b0=some o0/\o0.live=true/\(o.rw=true->o0.rw=true)/\l0.c=l.c
def jh(S:Nat->Bool)(i:Nat):Nat->Bool:=fun k=>Nat.beq k i||S k
theorem gi(S:Nat->Bool)(i:Nat):jh S i i=true:=by simp[jh]
theorem gj(S:Nat->Bool){i k:Nat}(h:k≠i):jh S i k=S k:=by
 have:Nat.beq k i=false:=by
  cases hb:Nat.beq k i with
  |false=>rfl
  |true=>exact absurd (a07 hb) h
 simp[jh,this]
theorem Inv.next{ops:Array Oper}{st:Nat->St}{vl:Nat->Value}{μ0 μ μ':Emb}{w0 w w':World}{d0:List Deferred}{S:Nat->Bool}{a:Act}{i:Nat}{H Hn:Heap}{o:Oper}{v':Value}
  (I:Inv ops st vl μ0 w0 d0 S μ a w) (hi:i<ops.size) (ho:ops[i]?=some o) (E:Post μ H w μ' Hn w') (hv:VRel μ' (vl i) v') (a7: ∀k,(st k).heap.next<=(st (k+1)).heap.next)
  (c0:(st i).heap.next<=H.next) (c4:Hn.next<=(st (i+1)).heap.next)
  (c1: ∀b l x,μ b=some l->H.get b=some x->jB st S ops.size b=some x)
  (c2: ∀b l x,μ' b=some l->Hn.get b=some x->jB st (jh S i) ops.size b=some x)
  (c3: ∀b l x,μ' b=some l->Hn.get b=none->jB st (jh S i) ops.size b=some x->μ b=some l/\H.get b=none/\jB st S ops.size b=some x)
  (b7:DC ops (jh S i)) (b8: ∀d,o.dst=some d->d<(st 0).size)
  (ci: ∀t,o.dst=some t->tv st vl ops (jh S i) ops.size t=vl i) (bw: ∀t,o.dst≠some t->tv st vl ops (jh S i) ops.size t=tv st vl ops S ops.size t):
  Inv ops st vl μ0 w0 d0 (jh S i) μ' (a.put o.dst v') w':=by
 have bl: ∀k,(st 0).heap.next<=(st k).heap.next:=by
  intro k;induction k with
  |zero=>exact a06 _
  |succ k ih=>exact a0m ih (a7 k)
 have monoL: ∀j k,j<=k->(st j).heap.next<=(st k).heap.next:=by
  intro j k h;induction h with
  |refl=>exact a06 _
  |step _ ih=>exact a0m ih (a7 _)
 have cl:=monoL (i+1) ops.size hi
 have b6: ∀b l x,μ b=some l->H.get b=none->jB st S ops.size b=some x->x.live=true->w'.heap[l.c]?=w.heap[l.c]?:=by
  intro b l x hb hh hc al;refine E.keep l.c ((I.obj b l x hb hc).lt al) fun T l2 o2 U bf an=>?_
  exact I.inj T b l2 l o2 x (fun e=>by subst e;rw[hh]at bf;cases bf) U hb (c1 T l2 o2 U bf) hc an al
 refine⟨b7,fun b l hb=>?_,fun b l x hb hc=>?_,fun b1 T l1 l2 o1 o2 bt a5 U a1 O ar an=>?_,?_,fun t=>?_,?_,fun b l hb=>E.ext b l (I.ext0 b l hb),fun b l hb=>?_,a0m I.grow0 E.grow,
  E.os.trans I.os0,E.tape.trans I.tape0,E.out.trans I.out0,fun c hc bb=>?_,fun b l x hb hc al=>?_⟩
 ·rcases E.dom b l hb with A|⟨A,Y⟩
  ·rcases I.dom b l A with Y|⟨k,hk,hs,V,h4⟩|Y
   ·exact .inl Y
   ·refine .inr (.inl ⟨k,hk,?_,V,h4⟩);unfold jh;rw[hs];simp
   exact .inr (.inr Y)
  exact .inr (.inl ⟨i,hi,gi S i,by omega,by omega⟩)
 ·cases hg:Hn.get b with
  |some y=>
   have:=c2 b l y hb hg
   rw[this]at hc;injection hc with hc;subst hc
   exact E.wrel.obj b l y hb hg
  |none=>
   obtain⟨A,Y,V⟩:=c3 b l x hb hg hc
   exact(I.obj b l x A V).keep E.ext E.grow (fun al=>b6 b l x A Y V al)
 ·--no two blocks at one place
  cases a6:Hn.get b1 with
  |some y1=>
   have e1:=c2 b1 l1 y1 a5 a6
   rw[e1]at a1;injection a1 with a1;subst a1
   cases Z:Hn.get T with
   |some y2=>
    have e2:=c2 T l2 y2 U Z
    rw[e2]at O;injection O with O;subst O
    exact E.wrel.inj b1 T l1 l2 y1 y2 bt a5 U a6 Z ar an
   |none=>
    obtain⟨A,Y,V⟩:=c3 T l2 o2 U Z O
    have b9:=(I.obj T l2 o2 A V).lt an
    rcases E.img b1 l1 y1 a5 a6 (gI ar) with hh|⟨b0,l0,o0,g1,g2,g3,g4,g5⟩
    ·omega
    rw[←g5]
    exact I.inj b0 T l0 l2 o0 o2 (fun e=>by subst e;rw[Y]at g2;cases g2) g1 A (c1 b0 l0 o0 g1 g2) V (g4 ar) an
  |none=>
   obtain⟨A,Y,V⟩:=c3 b1 l1 o1 a5 a6 a1
   cases Z:Hn.get T with
   |some y2=>
    have e2:=c2 T l2 y2 U Z
    rw[e2]at O;injection O with O;subst O
    have b9:=(I.obj b1 l1 o1 A V).lt (gI ar)
    rcases E.img T l2 y2 U Z an with hh|⟨b0,l0,o0,g1,g2,g3,g4,g5⟩
    ·omega
    rw[←g5]
    exact I.inj b1 b0 l1 l0 o1 o0 (fun e=>by subst e;rw[Y]at g2;cases g2) A g1 V (c1 b0 l0 o0 g1 g2) ar g3
   |none=>
    obtain⟨k1,k2,k3⟩:=c3 T l2 o2 U Z O
    exact I.inj b1 T l1 l2 o1 o2 bt A k1 V k3 ar an
 ·cases hd:o.dst with
  |none=>exact I.size
  |some d=>simp only[Act.put,Array.size_setIfInBounds];exact I.size
 ·have bk:=(I.tm t).mono E.ext;cases hd:o.dst with
  |none=>rw[bw t (by rw[hd];simp)];exact bk
  |some d=>
   simp only[Act.put,getD_set]
   by_cases ba:d=t
   ·subst ba;rw[ci d hd,if_pos ⟨rfl,by rw[I.size];exact b8 d hd⟩];exact hv
   rw[bw t (by rw[hd];simpa using ba),if_neg (fun e=>ba e.1)];exact bk
 ·rw[eV];exact I.defers
 ·rcases E.dom b l hb with A|⟨A,Y⟩
  ·exact I.dom0 b l A
  exact .inr ⟨by have:=bl i;omega,by omega⟩
 ·rw[E.keep c (a0X hc I.grow0) ?_,I.keep0 c hc bb];intro b l x hb hx hr he;rcases I.img0 b l x hb (c1 b l x hb hx) (gI hr) with hh|⟨b0,l0,o0,g1,g2,g3,g4,g5⟩
  ·omega
  exact bb b0 l0 o0 g1 g2 (g4 hr) (g5.trans he)
 cases hg:Hn.get b with
 |some y=>
  have:=c2 b l y hb hg
  rw[this]at hc;injection hc with hc;subst hc
  rcases E.img b l y hb hg al with hh|⟨b0,l0,o0,g1,g2,g3,g4,g5⟩
  ·exact .inl (a0m I.grow0 hh)
  rcases I.img0 b0 l0 o0 g1 (c1 b0 l0 o0 g1 g2) g3 with hh|⟨b3,l3,o3,e1,e2,e3,e4,e5⟩
  ·exact .inl (g5▸hh)
  exact .inr ⟨b3,l3,o3,e1,e2,e3,fun hx=>e4 (g4 hx),e5.trans g5⟩
 |none=>
  obtain⟨A,Y,V⟩:=c3 b l x hb hg hc
  exact I.img0 b l x A V al
end Go.R
namespace Go.R
section
variable {P:Program} {G:Nat}
def mD(ρ:Operand->Value)(o:Oper)(b:Nat):Prop:=
 (∃t a off,o.op= .load t a/\ρ a= .pointer (some ⟨b,off,none⟩))\/
 (∃t x lo hi A off n k,o.op= .slice t x lo hi A/\ρ x= .slice (some ⟨b,off,none⟩) n k)
def NilCut(ρ:Operand->Value)(o:Oper):Prop:=(∃t x lo hi A n k,o.op= .slice t x lo hi A/\ρ x= .slice none n k)\/
 (∃xs ts x,o.op= .call ⟨.builtin .len,xs,ts⟩/\eW ρ xs.toList=[x]/\((∃a n k,x= .slice a n k)\/∃s,x= .string s))
structure OpFact(P:Program)(G:Nat)(cf:ck)(ops:Array Oper)(o:Oper)(s s':St)(v:Value)(f:Inf):Prop where
 size:s'.size=s.size
 tm: ∀t,cy s'.tmps t=if o.dst=some t then v else cy s.tmps t
 dlt: ∀d,o.dst=some d->d<s.size
 next:s.heap.next<=s'.heap.next
 far: ∀b,s'.heap.next<=b->s'.heap.get b=s.heap.get b
 how:(aW ops o s.tmps=false/\v=undef/\f= .v/\s'.heap.next=s.heap.next/\∀b,s'.heap.get b=s.heap.get b)\/
  (aW ops o s.tmps=true/\o.op.operands.toList.all (bg G)=true/\∃H1 H2,(∀b,H1.get b=s.heap.get b)/\H1.next=s.heap.next/\
   dZ P cf (cW s.tmps) o H1=some (v,H2)/\(∀b,s'.heap.get b=H2.get b)/\s'.heap.next=H2.next/\
   ((f= .v/\(aT o.op=true\/NilCut (cW s.tmps) o))\/(f= .a s.heap.next/\dU o.op=true)\/
    (∃b,f= .l b/\mD (cW s.tmps) o b)\/
    (∃w,f= .x w/\(∀b,b∈w->b<s.heap.next)/\∀b,b<s.heap.next->b∉w->s'.heap.get b=s.heap.get b)))
theorem fY{n b:Nat}: ∀{l:List Nat},b∈dy n l↔b∈l/\b<n
 | []=>by simp[dy]
 |c::l=>by
  unfold dy;cases O:Nat.ble n c with
  |true=>
   have:=a0d O
   simp only[cond_true,a0n]
   rw[fY (l:=l)]
   constructor
   ·rintro⟨A,E⟩;exact⟨.inr A,E⟩
   rintro⟨rfl|A,E⟩
   ·omega
   exact⟨A,E⟩
  |false=>
   have U: ¬n<=c:=fun T=>by rw[a0r T]at O;cases O
   simp only[cond_false,a0n]
   rw[fY (l:=l)]
   constructor
   ·rintro(rfl|⟨A,E⟩)
    ·exact⟨.inl rfl,by omega⟩
    exact⟨.inr A,E⟩
   rintro⟨rfl|A,E⟩
   ·exact .inl rfl
   exact .inr ⟨A,E⟩
theorem loadV_spot{P:Program}{H:Heap}{t:TypeId}{p:Addr}{v:Value}(h:H.loadV P t p=some v):p.spot=none:=by
 obtain⟨b,o,sp⟩:=p;cases sp with
 |none=>rfl
 |some _=>
  unfold Heap.loadV at h
  split at h
  ·split at h
   ·simp[Heap.loadN]at h
   cases h
  ·simp[Heap.cellAt]at h
  cases h
theorem loadV_congr{H H':Heap}{t:TypeId}{b off:Nat}(h:H.get b=H'.get b):H.loadV P t ⟨b,off,none⟩=H'.loadV P t ⟨b,off,none⟩:=by unfold Heap.loadV Heap.loadN Heap.cellAt;simp only[h]
theorem loadV_some{H:Heap}{t:TypeId}{b off:Nat}{v:Value}(h:H.loadV P t ⟨b,off,none⟩=some v): ∃x,H.get b=some x:=by
 cases A:H.get b with
 |some x=>exact⟨x,rfl⟩
 |none=>
  unfold Heap.loadV Heap.loadN Heap.cellAt at h
  simp only[A]at h
  split at h
  ·split at h<;>cases h
  ·cases h
  cases h
theorem aSlice_spot{P:Program}{H:Heap}{t:TypeId}{p:Addr}{n k:Nat}{lo hi A:Option Value}{v:Value}(h:be P t (.slice (some p) n k) lo hi A H=some v):p.spot=none:=by
 obtain⟨b,o,sp⟩:=p;cases sp with
 |none=>rfl
 |some _=>
  unfold be at h
  split at h
  ·cases h
  split at h<;>simp_all
theorem aSlice_get{P:Program}{H:Heap}{t:TypeId}{b off n k:Nat}{lo hi O:Option Value}{v:Value}(h:be P t (.slice (some ⟨b,off,none⟩) n k) lo hi O H=some v):
  ∃A,H.get b=some A/\∀E:Heap,E.get b=some A->be P t (.slice (some ⟨b,off,none⟩) n k) lo hi O E=some v:=by
 cases U:H.get b with
 |some A=>
  refine⟨A,rfl,fun E T=>?_⟩
  rw[←h]
  unfold be
  cases O with
  |some _=>rfl
  |none=>
   cases P.underlying t with
   |none=>rfl
   |some d=>cases d<;>first|rfl|simp only[T,U]
 |none=>
  exfalso
  unfold be at h
  split at h
  ·cases h
  split at h<;>simp_all
theorem en{P:Program}{ρ:Operand->Value}{o:Oper}{b:Nat}{H H':Heap}{r:AN}(hr:mD ρ o b)(h:aop P ρ o H=some (r,H')):
  ∃v E,r= .val v/\H'=H/\H.get b=some E/\∀T:Heap,T.get b=some E->aop P ρ o T=some (.val v,T):=by
 rcases hr with⟨t,a,off,U,ha⟩|⟨t,x,lo,hi,mx,off,n,k,U,hx⟩
 ·have A: ∀H,aop P ρ o H=dY P t (ρ a) H:=fun H=>by unfold aop;rw[U]
  rw[A,ha]at h;unfold dY at h;simp only at h;obtain⟨rfl,v,V,rfl⟩:=ce h;obtain⟨E,O⟩:=loadV_some V;refine⟨v,E,rfl,rfl,O,fun T Y=>?_⟩;rw[A,ha];unfold dY;simp only;rw[loadV_congr (H':=H') (by rw[Y,O]),V];rfl
 have A: ∀H,aop P ρ o H=ovl (be P t (ρ x) (lo.map ρ) (hi.map ρ) (mx.map ρ) H) H:=fun H=>by unfold aop;rw[U]
 rw[A,hx]at h
 obtain⟨rfl,v,V,rfl⟩:=ce h
 obtain⟨E,O,Z⟩:=aSlice_get V
 refine⟨v,E,rfl,rfl,O,fun T Y=>?_⟩
 rw[A,hx,Z T Y]
 rfl
theorem reads_sound{P:Program}{μ:Emb}{ρ ρ':Operand->Value}{o:Oper}{b:Nat}{H:Heap}{w:World}{v:Value}(hr:mD ρ o b)(Y: ∀x∈o.op.operands,VRel μ (ρ x) (ρ' x))(hw:WRel μ H w)
  (h:aop P ρ o H=some (.val v,H)): ∃v',(execOp ρ' o).run P w= .ok (.value v') w/\VRel μ v v':=by
 rcases hr with⟨t,a,off,A,ha⟩|⟨t,x,lo,hi,mx,off,n,k,A,hx⟩
 ·have O: ∀H,aop P ρ o H=dY P t (ρ a) H:=fun H=>by unfold aop;rw[A]
  rw[O,ha]at h;unfold dY at h;simp only at h;obtain⟨_,v1,hv,E⟩:=ce h;injection E with E;subst E;have al:VRel μ (ρ a) (ρ' a):=Y a (by rw[A];simp[Op.operands]);rw[ha]at al;obtain⟨l,hμ,ar⟩:=al.ptr_inv;obtain⟨v',T,U⟩:=gR (P:=P) hw hμ hv;refine⟨v',?_,U⟩;obtain⟨an,op,type,pos,after,Z⟩:=o;simp only at A;subst A;simp only[execOp,ar,Instr.loadAt,Instr.sureAddr,Sem.run_bind,Sem.run_pure,Result.andThen_ok,T]
 have O: ∀H,aop P ρ o H=ovl (be P t (ρ x) (lo.map ρ) (hi.map ρ) (mx.map ρ) H) H:=fun H=>by unfold aop;rw[A]
 rw[O]at h
 obtain⟨an,op,type,pos,after,Z⟩:=o
 simp only at A
 subst A
 obtain⟨a1,a2⟩:=ft (μ:=μ) (ρ:=ρ) (ρ':=ρ') (x:=lo) fun y V=>Y y (by subst V;simp[Op.operands])
 obtain⟨b1,b2⟩:=ft (μ:=μ) (ρ:=ρ) (ρ':=ρ') (x:=hi) fun y V=>Y y (by subst V;simp[Op.operands])
 obtain⟨_,c2⟩:=ft (μ:=μ) (ρ:=ρ) (ρ':=ρ') (x:=mx) fun y V=>Y y (by subst V;simp[Op.operands])
 obtain⟨v1,v',E,_,T,U⟩:=jS (P:=P) hw (Y x (by simp[Op.operands])) a1 a2 b1 b2 c2 h
 injection E with E;subst E
 refine⟨v',?_,U⟩
 simp only[execOp,Sem.run_bind,T,Result.andThen_ok,Sem.run_pure]
theorem reads_loc{μ:Emb}{ρ ρ':Operand->Value}{o:Oper}{b:Nat}(U:mD ρ o b)(T: ∀x∈o.op.operands,VRel μ (ρ x) (ρ' x)): ∃l,μ b=some l:=by
 rcases U with⟨t,a,off,E,ha⟩|⟨t,x,lo,hi,Y,off,n,k,E,V⟩
 ·have A:VRel μ (ρ a) (ρ' a):=T a (by rw[E];simp[Op.operands]);rw[ha]at A;obtain⟨l,O,_⟩:=A.ptr_inv;exact⟨l,O⟩
 have A:VRel μ (ρ x) (ρ' x):=T x (by rw[E];simp[Op.operands]);rw[V]at A;obtain⟨l,O,_⟩:=A.slice_inv;exact⟨l,O⟩
theorem stepD_fact{cf:ck}(a7:dR P G cf){ops:Array Oper}{o:Oper}{s s':St}{f:Inf}(hw:WF s.heap)(h:gG P G cf ops o s=some (s',f)):
  ∃v,OpFact P G cf ops o s s' v f:=by
 unfold gG at h
 split at h
 case h_2=>cases h
 rename_i t A
 simp only[a00,a04]at h
 obtain⟨rfl,rfl⟩:=h
 have a8:WF {s.heap with log:=[]}:=hw
 have ext:=ju a7 (s:={s with heap:={s.heap with log:=[]}}) a8 A
 rw[step_eq]at A
 cases hq:aW ops o s.tmps with
 |false=>
  rw[hq]at A
  simp only[cond_false]at A
  obtain⟨h1,T,h3⟩:=gM A
  refine⟨undef,h1,?_,?_,by rw[T];exact a06 _,fun b _=>by rw[T];rfl,.inl ⟨hq,rfl,by unfold dV;rw[hq];rfl,by rw[T],fun b=>by rw[T];rfl⟩⟩
  ·intro k;rcases h3 with⟨E,Z⟩|⟨d,E,hd,Z⟩
   ·simp[E,Z]
   rw[E];simp only[Z,fZ,a00]
  intro d hd
  rcases h3 with⟨E,_⟩|⟨d',E,a1,_⟩
  ·rw[E]at hd;cases hd
  rw[E]at hd;injection hd with hd;subst hd;exact a1
 |true=>
  rw[hq]at A
  cases a3:o.op.operands.toList.all (bg G) with
  |false=>rw[a3]at A;cases A
  |true=>
   rw[a3]at A
   simp only[cond_true]at A
   split at A
   case h_2=>cases A
   rename_i v H2 U
   obtain⟨h1,T,h3⟩:=gM A
   simp only at T
   have an:Ext {s.heap with log:=[]} H2:=lq a7 a8 U
   refine⟨v,h1,?_,?_,by simp only[T];exact an.next,fun b hb=>by simp only[T]at hb⊢;exact an.far b hb,.inr ⟨hq,a3,{s.heap with log:=[]},H2,fun _=>rfl,rfl,U,fun b=>by simp only[T];rfl,by simp only[T],?_⟩⟩
   ·intro k;rcases h3 with⟨E,Z⟩|⟨d,E,hd,Z⟩
    ·simp[E,Z]
    rw[E];simp only[Z,fZ,a00]
   ·intro d hd;rcases h3 with⟨E,_⟩|⟨d',E,a1,_⟩
    ·rw[E]at hd;cases hd
    rw[E]at hd;injection hd with hd;subst hd;exact a1
   ·--which kind
    have hx:(∃w,Inf.x (dy s.heap.next t.heap.log)= .x w/\(∀b,b∈w->b<s.heap.next)/\∀b,b<s.heap.next->b∉w->t.heap.get b=s.heap.get b):=by
     refine⟨_,rfl,fun b hb=>(fY.1 hb).2,fun b hb hn=>?_⟩;obtain⟨d,hd,a4⟩:=an.log;rw[T];refine a4 b hb fun hm=>hn (fY.2 ⟨?_,hb⟩)
     rw[T,hd,a0p];exact hm
    unfold dV;rw[hq];cases hv:aT o.op with
    |true=>exact .inl ⟨rfl,.inl rfl⟩
    |false=>
     simp only[a1q,Bool.or_false,cond_false]
     cases bw:dU o.op with
     |true=>exact .inr (.inl ⟨rfl,rfl⟩)
     |false=>
      simp only[cond_false]
      split
      ·rename_i ty a O;split
       ·rename_i p V;have Y:p.spot=none:=by
         unfold dZ at U;have al:aop P (cW s.tmps) o {s.heap with log:=[]}=dY P ty (cW s.tmps a) {s.heap with log:=[]}:=by unfold aop;rw[O]
         rw[al,V]at U;unfold dY at U;simp only at U;cases hl:Heap.loadV P {s.heap with log:=[]} ty p with
         |none=>rw[hl]at U;simp[ovl]at U
         |some u=>exact loadV_spot hl
        obtain⟨b,off,sp⟩:=p;simp only at Y;subst Y;exact .inr (.inr (.inl ⟨b,rfl,.inl ⟨ty,a,off,O,V⟩⟩))
       exact .inr (.inr (.inr hx))
      ·rename_i ty x lo hi mx O;split
       ·rename_i p n k V;have Y:p.spot=none:=by
         unfold dZ at U;have al:aop P (cW s.tmps) o {s.heap with log:=[]}=ovl (be P ty (cW s.tmps x) (lo.map (cW s.tmps)) (hi.map (cW s.tmps)) (mx.map (cW s.tmps)) {s.heap with log:=[]}) {s.heap with log:=[]}:=by unfold aop;rw[O]
         rw[al,V]at U;cases hl:be P ty (.slice (some p) n k) (lo.map (cW s.tmps)) (hi.map (cW s.tmps)) (mx.map (cW s.tmps)) {s.heap with log:=[]} with
         |none=>rw[hl]at U;simp[ovl]at U
         |some u=>exact aSlice_spot hl
        obtain⟨b,off,sp⟩:=p;simp only at Y;subst Y;exact .inr (.inr (.inl ⟨b,rfl,.inr ⟨ty,x,lo,hi,mx,off,n,k,O,V⟩⟩))
       ·rename_i n k V;exact .inl ⟨rfl,.inr (.inl ⟨ty,x,lo,hi,mx,n,k,O,V⟩)⟩
       exact .inr (.inr (.inr hx))
      ·rename_i xs ts O;split
       ·rename_i a n k V;exact .inl ⟨rfl,.inr (.inr ⟨xs,ts,_,O,V,.inl ⟨a,n,k,rfl⟩⟩)⟩
       ·rename_i bf V;exact .inl ⟨rfl,.inr (.inr ⟨xs,ts,_,O,V,.inr ⟨bf,rfl⟩⟩)⟩
       exact .inr (.inr (.inr hx))
      exact .inr (.inr (.inr hx))
theorem jX{ρ:Operand->Value}{o:Oper}{H H':Heap}{r:AN}(h:bj P ρ o H=some (r,H')):H'=H/\∃v,r= .val v:=by
 unfold bj at h;cases E:o.op.operands.toList.all fun x=>hZ (ρ x) with
 |false=>rw[E]at h;cases h
 |true=>
  rw[E]at h
  simp only[cond_true]at h
  split at h
  ·rename_i v O;cases A:noA2 v with
   |false=>rw[A]at h;cases h
   |true=>
    rw[A]at h;simp only[cond_true,a00,a04]at h
    exact⟨h.2.symm,v,h.1.symm⟩
  cases h
theorem lift_val{s:Sem Value}{H H':Heap}{r:AN}(h:lift P s H=some (r,H')):H'=H/\∃v,r= .val v:=by obtain⟨A,v,E,_⟩:=j9 h;exact⟨A,v,E⟩
theorem fp{x:Option Value}{H H':Heap}{r:AN}(h:ovl x H=some (r,H')):H'=H/\∃v,r= .val v:=by obtain⟨A,v,_,E⟩:=ce h;exact⟨A,v,E⟩
theorem fk{v:Value}{H H':Heap}{r:AN}(h:some (AN.val v,H)=some (r,H')):H'=H/\∃v,r= .val v:=by simp only[a00,a04]at h;exact⟨h.2.symm,v,h.1.symm⟩
theorem aop_value{ρ:Operand->Value}{o:Oper}{H H':Heap}{r:AN}(V:aT o.op=true)(h:aop P ρ o H=some (r,H')):H'=H/\∃v,r= .val v:=by
 obtain⟨O,op,type,pos,after,E⟩:=o;cases op<;>simp only[aT,a0g]at V
 case move x=>exact fk (v:=ρ x) h
 case assign x=>exact fk (v:=ρ x) h
 case pick c a b=>
  have A:fW ρ c a b H=some (r,H'):=h
  unfold fW at A
  split at A
  ·exact fk A
  cases A
 case build t parts=>
  have A:gP P t (parts.map fun p=>(p.1,ρ p.2)) H=some (r,H'):=h
  unfold gP at A
  split at A
  ·exact lift_val A
  cases A
 case nilCheck x=>
  have A:opNil (ρ x) H=some (r,H'):=h
  unfold opNil at A
  split at A
  ·exact fk A
  ·exact fk A
  cases A
 case binOp op t x y yt=>
  have A:aBin P ρ ⟨O,.binOp op t x y yt,type,pos,after,E⟩ op t (ρ x) y H=some (r,H'):=h
  unfold aBin at A
  split at A
  ·unfold binInt at A;split at A
   ·exact fp A
   cases A
  ·unfold binStr at A;split at A
   ·exact fp A
   cases A
  unfold mq at A;split at A
  ·exact jX A
  ·exact jX A
  obtain⟨U,b,_,hc⟩:=iK A
  rcases hc with⟨_,T⟩|⟨_,T⟩
  ·exact⟨U,_,T⟩
  exact⟨U,_,T⟩
 case unOp op t x=>
  have A:aUn P ρ ⟨O,.unOp op t x,type,pos,after,E⟩ op (ρ x) H=some (r,H'):=h
  unfold aUn at A
  split at A
  ·split at A
   ·exact fk A
   cases A
  exact jX A
 case makeFunc fn first captured=>exact fk (v:= .func fn (first.map ρ) (captured.map ρ)) h
 case fieldAddr s x f=>
  have A:ovl (iy P s (ρ x) f) H=some (r,H'):=h
  exact fp A
 case field t x f=>
  have A:ovl (gZ P t (ρ x) f) H=some (r,H'):=h
  exact fp A
 case indexAddr t x i=>
  have A:ovl (cm P t (ρ x) (ρ i)) H=some (r,H'):=h
  exact fp A
 case index t x i=>
  have A:ku P t (ρ x) (ρ i) H=some (r,H'):=h
  unfold ku at A
  split at A
  ·exact fp A
  exact lift_val A
 case extract x i=>
  have A:ovl (gw (ρ x) i) H=some (r,H'):=h
  exact fp A
theorem kN{ρ:Operand->Value}{o:Oper}{H H':Heap}{r:AN}(A:aT o.op=true)(h:aop P ρ o H=some (r,H')):H'=H:=by have:=aop_value A h;exact this.1
theorem jL{ρ:Operand->Value}{o:Oper}{H H':Heap}{r:AN}(A:aT o.op=true)(h:aop P ρ o H=some (r,H')): ∃v,r= .val v:=(aop_value A h).2
theorem eY{ρ:Operand->Value}{o:Oper}{H H':Heap}{r:AN}(Y:dU o.op=true)(h:aop P ρ o H=some (r,H')):
  ∃v T,r= .val v/\H'=H.push T/\∀E:Heap,E.next=H.next->aop P ρ o E=some (.val v,E.push T):=by
 obtain⟨al,op,type,pos,after,Z⟩:=o
 cases op<;>simp only[dU,a0g]at Y
 case alloc e=>
  have A:ew P e H=some (r,H'):=h
  unfold ew at A
  split at A
  ·rename_i z V;simp only[a00,a04]at A;obtain⟨rfl,rfl⟩:=A;refine⟨_,_,rfl,rfl,fun E O=>?_⟩;show ew P e E=_;unfold ew;rw[V,O];rfl
  cases A
 case box e x=>
  have A:some (AN.val (ptrTo H.next),aJ H (ρ x).cells.toList none)=some (r,H'):=h
  simp only[a00,a04]at A
  obtain⟨rfl,rfl⟩:=A
  refine⟨_,_,rfl,rfl,fun E O=>?_⟩
  show some (AN.val (ptrTo E.next),aJ E (ρ x).cells.toList none)=_
  rw[O];rfl
 case buildSlice t n parts=>
  have A:bm P t n (eW (fun p=>(p.1,ρ p.2)) parts.toList) H=some (r,H'):=h
  unfold bm at A
  split at A
  ·rename_i sz z V;cases U:Nat.ble (n *sz) 16777216 with
   |false=>rw[U]at A;cases A
   |true=>
    rw[U]at A
    simp only[cond_true]at A
    split at A
    ·rename_i cells hc;simp only[a00,a04]at A;obtain⟨rfl,rfl⟩:=A;refine⟨_,_,rfl,rfl,fun E O=>?_⟩;show bm P t n (eW (fun p=>(p.1,ρ p.2)) parts.toList) E=_;unfold bm;rw[V];simp only[U,cond_true,hc,O];rfl
    cases A
  cases A
 case makeMap t rsv=>
  cases rsv with
  |some _=>simp at Y
  |none=>
   have A:some (AN.val (.map (some H.next)),H.push (.tab []))=some (r,H'):=h
   simp only[a00,a04]at A
   obtain⟨rfl,rfl⟩:=A
   refine⟨_,_,rfl,rfl,fun E O=>?_⟩
   show some (AN.val (.map (some E.next)),E.push (.tab []))=_
   rw[O]
def bare(n:Nat):Heap:={tr:= .nil,next:=n,log:=[]}
theorem el(n b:Nat):(bare n).get b=none:=rfl
theorem jC(μ:Emb)(n:Nat)(w:World):WRel μ (bare n) w:=
 ⟨(fun b l o _ h=>by rw[el]at h;cases h),(fun A E l1 l2 O T _ _ _ h=>by rw[el]at h;cases h)⟩
theorem aSlice_nil{t:TypeId}{n k:Nat}{lo hi A:Option Value}(H E:Heap):be P t (.slice none n k) lo hi A H=be P t (.slice none n k) lo hi A E:=by
 unfold be;cases A with
 |some _=>rfl
 |none=>
  cases P.underlying t with
  |none=>rfl
  |some d=>cases d<;>first|rfl|(cases n<;>cases k<;>rfl)
theorem eA{ρ:Operand->Value}{o:Oper}{H H':Heap}{r:AN}(O:NilCut ρ o)(h:aop P ρ o H=some (r,H')):H'=H/\∃v,r= .val v:=by
 rcases O with⟨t,x,lo,hi,U,n,k,E,T⟩|⟨xs,ts,x,E,T,_⟩
 ·have A: ∀H,aop P ρ o H=ovl (be P t (ρ x) (lo.map ρ) (hi.map ρ) (U.map ρ) H) H:=fun H=>by unfold aop;rw[E]
  rw[A]at h;exact fp h
 have A:aop P ρ o H=bLen P ts (eW ρ xs.toList) H:=by unfold aop;rw[E];rfl
 rw[A]at h;unfold bLen at h;split at h
 ·exact fp h
 cases h
theorem aLen_any{t:TypeId}{x:Value}(E:(∃a n k,x= .slice a n k)\/∃s,x= .string s)(H A:Heap):aLen P t x H=aLen P t x A:=by
 rcases E with⟨a,n,k,rfl⟩|⟨s,rfl⟩<;>(unfold aLen;cases P.underlying t with
  |none=>rfl
  |some d=>cases d<;>rfl)
theorem nilcut_sound{μ:Emb}{ρ ρ':Operand->Value}{o:Oper}{H:Heap}{v:Value}(hr:NilCut ρ o)(Z: ∀x∈o.op.operands,VRel μ (ρ x) (ρ' x))(h:aop P ρ o H=some (.val v,H))(w:World):
  ∃v',(execOp ρ' o).run P w= .ok (.value v') w/\VRel μ v v':=by
 rcases hr with hr|⟨xs,ts,x,A,hxs,U⟩
 rotate_left
 ·have O:aop P ρ o H=bLen P ts (eW ρ xs.toList) H:=by unfold aop;rw[A];rfl
  rw[O,hxs]at h;obtain⟨a4,op,type,pos,after,al⟩:=o;simp only at A;subst A;unfold bLen at h;split at h
  ·rename_i t x1 ht ar;simp only[List.cons.injEq,and_true]at ar;subst ar;obtain⟨_,v1,V,E⟩:=ce h;injection E with E;subst E;rw[aLen_any U H (bare 0)]at V;have an:LRel μ (eW ρ xs.toList) (xs.map ρ').toList:=by
    rw[iL];have:=jE (μ:=μ) (ops:=xs) (ρ:=ρ) (ρ':=ρ') fun x U=>Z x (by simp[Op.operands,Call.operands];exact U)
    simpa using this
   obtain⟨x',a7,a8⟩:=kV an hxs;obtain⟨T,hn⟩:=len_sound (P:=P) (ty:=type) (jC μ 0 w) a8 V;have a5:ts= #[t]:=a19.1 (by rw[ht]);refine⟨v,?_,.atom v hn⟩;simp only[execOp,resolve,Sem.run_bind,Sem.run_pure,Result.andThen_ok,invoke,builtin,a7,a5,T]
  cases h
 obtain⟨t,x,lo,hi,mx,n,k,A,U⟩:=hr
 have O: ∀H,aop P ρ o H=ovl (be P t (ρ x) (lo.map ρ) (hi.map ρ) (mx.map ρ) H) H:=fun H=>by unfold aop;rw[A]
 rw[O,U]at h
 obtain⟨_,v1,V,E⟩:=ce h
 rw[aSlice_nil H (bare 0)]at V
 have h2:ovl (be P t (ρ x) (lo.map ρ) (hi.map ρ) (mx.map ρ) (bare 0)) (bare 0)=some (.val v,bare 0):=by rw[U,V,E];rfl
 obtain⟨a4,op,type,pos,after,al⟩:=o
 simp only at A
 subst A
 obtain⟨a1,a2⟩:=ft (μ:=μ) (ρ:=ρ) (ρ':=ρ') (x:=lo) fun y Y=>Z y (by subst Y;simp[Op.operands])
 obtain⟨b1,b2⟩:=ft (μ:=μ) (ρ:=ρ) (ρ':=ρ') (x:=hi) fun y Y=>Z y (by subst Y;simp[Op.operands])
 obtain⟨_,c2⟩:=ft (μ:=μ) (ρ:=ρ) (ρ':=ρ') (x:=mx) fun y Y=>Z y (by subst Y;simp[Op.operands])
 obtain⟨v1,v',E,_,T,a6⟩:=jS (P:=P) (jC μ 0 w) (Z x (by simp[Op.operands])) a1 a2 b1 b2 c2 h2
 injection E with E;subst E
 refine⟨v',?_,a6⟩
 simp only[execOp,Sem.run_bind,T,Result.andThen_ok,Sem.run_pure]
theorem either_heap{ρ:Operand->Value}{o:Oper}{H H':Heap}{r:AN}(A:aT o.op=true\/NilCut ρ o)(h:aop P ρ o H=some (r,H')):H'=H:=by
 rcases A with A|A
 ·exact kN A h
 exact(eA A h).1
theorem lu{ρ:Operand->Value}{o:Oper}{H H':Heap}{r:AN}(A:aT o.op=true\/NilCut ρ o)(h:aop P ρ o H=some (r,H')): ∃v,r= .val v:=by
 rcases A with A|A
 ·exact jL A h
 exact(eA A h).2
structure Trace(P:Program)(G:Nat)(cf:ck)(ops:Array Oper)(st:Nat->St)(vl:Nat->Value)(nf:Nat->Inf):Prop where
 fact: ∀k o,ops[k]?=some o->OpFact P G cf ops o (st k) (st (k+1)) (vl k) (nf k)
 past: ∀k,ops.size<=k->st (k+1)=st k
 comp: ∀j k,j<k->k<ops.size->aZ (cj ops) j k=true\/ea (nf j) (nf k)=true
 reg:RegFacts ops
 wf: ∀k,WF (st k).heap
section
variable {cf:ck} {ops:Array Oper} {st:Nat->St} {vl:Nat->Value} {nf:Nat->Inf}
theorem Trace.mono(T:Trace P G cf ops st vl nf)(k:Nat):(st k).heap.next<=(st (k+1)).heap.next:=by
 rcases a0k k ops.size with h|h
 ·exact(T.fact k ops[k] (a0C h)).next
 rw[T.past k h];exact a06 _
theorem Trace.monoL(T:Trace P G cf ops st vl nf){j k:Nat}(h:j<=k):(st j).heap.next<=(st k).heap.next:=by
 induction h with
 |refl=>exact a06 _
 |step _ ih=>exact a0m ih (T.mono _)
theorem Trace.sizeL(T:Trace P G cf ops st vl nf)(k:Nat):(st k).size=(st 0).size:=by
 induction k with
 |zero=>rfl
 |succ k ih=>
  rcases a0k k ops.size with h|h
  ·rw[(T.fact k ops[k] (a0C h)).size,ih]
  rw[T.past k h,ih]
theorem Trace.tm(T:Trace P G cf ops st vl nf)(k t:Nat):cy (st (k+1)).tmps t=if jo ops k=some t then vl k else cy (st k).tmps t:=by
 unfold jo;rcases a0k k ops.size with h|h
 ·have A:=a0C h;rw[(T.fact k ops[k] A).tm t,A];rfl
 rw[T.past k h,Array.getElem?_eq_none h];simp
theorem Trace.chg(T:Trace P G cf ops st vl nf){k b:Nat}(h:chg st k b):
  k<ops.size/\((st k).heap.next<=b/\b<(st (k+1)).heap.next\/∃w,nf k= .x w/\b∈w/\b<(st k).heap.next):=by
 have Z:k<ops.size:=by
  rcases a0k k ops.size with Z|Z
  ·exact Z
  exfalso;unfold R.chg at h;rw[T.past k Z]at h;exact h rfl
 refine⟨Z,?_⟩
 have F:=T.fact k ops[k] (a0C Z)
 have a3:b<(st (k+1)).heap.next:=by
  rcases a0k b (st (k+1)).heap.next with O|O
  ·exact O
  exact absurd (F.far b O) h
 rcases a0k b (st k).heap.next with hb|hb
 ·right;rcases F.how with⟨_,_,_,_,hs⟩|⟨_,_,H1,H2,al,a5,E,V,a6,ax⟩
  ·exact absurd (hs b) h
  rcases ax with⟨hf,Y⟩|⟨hf,Y⟩|⟨b',hf,an⟩|⟨w,hf,a7,a2⟩
  ·--a value operation changes nothing
   exfalso;unfold dZ at E;split at E
   ·rename_i u O A;simp only[a00,a04]at E;have:=(either_heap Y A)
    rw[←E.2,this]at V;exact h (by rw[V b,al b])
   ·rename_i O A;have:=(lu Y A)
    obtain⟨_,U⟩:=this;cases U
   ·rename_i f args O A;obtain⟨_,U⟩:=lu Y A;cases U
   cases E
  ·exfalso;unfold dZ at E;split at E
   ·rename_i u O A;simp only[a00,a04]at E;obtain⟨_,a8,_,a1,_⟩:=eY Y A;rw[←E.2,a1]at V;exact h (by rw[V b,Heap.get_push_ne _ _ (by omega),al b])
   ·rename_i O A;obtain⟨_,_,U,_⟩:=eY Y A;cases U
   ·rename_i f args O A;obtain⟨_,_,U,_⟩:=eY Y A;cases U
   cases E
  ·exfalso;unfold dZ at E;split at E
   ·rename_i u O A;simp only[a00,a04]at E;obtain⟨_,_,_,hH,_,_⟩:=en an A;rw[←E.2,hH]at V;exact h (by rw[V b,al b])
   ·rename_i O A;obtain⟨_,_,U,_⟩:=en an A;cases U
   ·rename_i f args O A;obtain⟨_,_,U,_⟩:=en an A;cases U
   cases E
  rcases Classical.em (b∈w) with hm|hm
  ·exact⟨w,hf,hm,hb⟩
  exact absurd (a2 b hb hm) h
 exact .inl ⟨hb,a3⟩
end
end
end Go.R
set_option linter.unusedVariables false
namespace Go.R
section
variable {P:Program} {G:Nat} {cf:ck} {ops:Array Oper} {st:Nat->St} {vl:Nat->Value} {nf:Nat->Inf}
variable {μ0 μ:Emb} {w0 w:World} {d0:List Deferred} {S:Nat->Bool} {a:Act} {i:Nat} {o:Oper}
structure Ready(ops:Array Oper)(S:Nat->Bool)(i:Nat)(o:Oper):Prop where
 at_:ops[i]?=some o
 new:S i=false
 edges: ∀e∈o.after.toList,Region.binds .any e=true->S e.on=true
theorem Ready.lt(R:Ready ops S i o):i<ops.size:=(a0L.1 R.at_).1
theorem Ready.dc(R:Ready ops S i o)(h:DC ops S):DC ops (jh S i):=by
 intro k x A hs e O hb;by_cases E:k=i
 ·subst E;rw[R.at_]at A;injection A with A;subst A;have:=R.edges e O hb;unfold jh;rw[this];simp
 rw[gj S E]at hs;have:=h k x A hs e O hb;unfold jh;rw[this];simp
theorem Ready.ahead(R:Ready ops S i o)(h:DC ops S){k:Nat}(A:k≠i)(E:aZ (cj ops) k i=true):S k=true:=by have:=(R.dc h).anc i (gi S i) E;rwa [gj S A]at this
theorem Ready.behind(R:Ready ops S i o)(h:DC ops S){k:Nat}(A:aZ (cj ops) i k=true):S k=false:=by
 cases hs:S k with
 |false=>rfl
 |true=>have:=h.anc k hs A;rw[R.new]at this;cases this
theorem Ready.iff_(R:Ready ops S i o)(h:DC ops S){k:Nat}(A:k<i->aZ (cj ops) k i=true)(E:i<k->aZ (cj ops) i k=true):S k=true↔k<i:=by
 rcases Nat.lt_trichotomy k i with hlt|rfl|hgt
 ·exact⟨fun _=>hlt,fun _=>R.ahead h (by omega) (A hlt)⟩
 ·rw[R.new];simp
 rw[R.behind h (E hgt)];simp;omega
theorem Ready.iffAdd(R:Ready ops S i o)(h:DC ops S){k:Nat}(E:k<i->aZ (cj ops) k i=true)(O:i<k->aZ (cj ops) i k=true):jh S i k=true↔k<i+1:=by
 by_cases A:k=i
 ·subst A;rw[gi];simp
 rw[gj S A,R.iff_ h E O];omega
theorem share(T:Trace P G cf ops st vl nf)(V:ops[i]?=some o){t:Tmp}(A:t∈o.looksAt ops\/o.dst=some t){k:Nat}(hd:jo ops k=some t):
  (k<i->aZ (cj ops) k i=true)/\(i<k->aZ (cj ops) i k=true):=by
 unfold jo at hd
 cases O:ops[k]? with
 |none=>rw[O]at hd;simp at hd
 |some x=>
  rw[O]at hd
  simp only[a0l]at hd
  constructor
  ·intro E;rcases T.reg.pair k i x o E O V with h|h
   ·exact h
   exfalso;obtain⟨Y,U,Z⟩:=Oper.apart_spec h;rcases A with A|A
   ·exact Y t hd A
   exact U t hd A
  intro E
  rcases T.reg.pair i k o x E V O with h|h
  ·exact h
  exfalso
  obtain⟨Y,U,Z⟩:=Oper.apart_spec h
  rcases A with A|A
  ·exact Z t hd A
  exact U t A hd
theorem slot_here(T:Trace P G cf ops st vl nf)(I:Inv ops st vl μ0 w0 d0 S μ a w)(R:Ready ops S i o){t:Tmp}(A:t∈o.looksAt ops):
  VRel μ (cy (st i).tmps t) (a.tmps.getD t undef):=by
 have:=I.tm t
 rw[tv_eq st vl ops (i:=i) (fun k=>T.tm k t) ops.size (fun k _ hd=>R.iff_ I.dc (share T R.at_ (.inl A) hd).1 (share T R.at_ (.inl A) hd).2)]at this
 rwa [a1L (a1S R.lt)]at this
theorem operand_here(T:Trace P G cf ops st vl nf)(I:Inv ops st vl μ0 w0 d0 S μ a w)(R:Ready ops S i o)(O:GRel μ G)(A:o.op.operands.toList.all (bg G)=true):
  ∀x∈o.op.operands,VRel μ (cW (st i).tmps x) (a.eval x):=by
 intro x E
 refine eval_of O (a0j.1 A x (by simpa using E)) fun t U=>?_
 subst U
 refine slot_here T I R ?_
 unfold Oper.looksAt
 rw[a0e]
 left
 rw[List.mem_filterMap]
 exact⟨.tmp t,by simpa using E,rfl⟩
theorem wanted_here(T:Trace P G cf ops st vl nf)(I:Inv ops st vl μ0 w0 d0 S μ a w)(R:Ready ops S i o):aW ops o (st i).tmps=Region.wanted o (yielded ops a.tmps):=by
 refine wanted_eq (μ:=μ) fun j w A d hd=>slot_here T I R ?_
 unfold Oper.looksAt;rw[a0e];right;rw[A];simp only;rw[hd];simp
theorem between(T:Trace P G cf ops st vl nf){j k b:Nat}(A:(st j).heap.next<=b)(E:b<(st (j+1)).heap.next)(O:(st k).heap.next<=b)(U:b<(st (k+1)).heap.next):j=k:=by
 rcases Nat.lt_trichotomy j k with h|h|h
 ·have:=T.monoL (show j+1<=k from h);omega
 ·exact h
 have:=T.monoL (show k+1<=j from h);omega
theorem lf(T:Trace P G cf ops st vl nf)(I:Inv ops st vl μ0 w0 d0 S μ a w)(R:Ready ops S i o)(b:Nat)(A:(st i).heap.next<=b)(E:b<(st (i+1)).heap.next):μ b=none:=by
 cases hb:μ b with
 |none=>rfl
 |some l=>
  exfalso
  rcases I.dom b l hb with h|⟨k,_,hs,h3,h4⟩|h
  ·have:=T.monoL (a0B i);omega
  ·have:=between T A E h3 h4;subst this;rw[R.new]at hs;cases hs
  have:=T.monoL (show i+1<=ops.size from R.lt);omega
theorem cont_here(T:Trace P G cf ops st vl nf)(I:Inv ops st vl μ0 w0 d0 S μ a w)(R:Ready ops S i o){b:Nat}{l:Loc}(hb:μ b=some l)(Y:b<(st i).heap.next)
  (V: ∀k w',nf k= .x w'->b∈w'->k<ops.size->(k<i->aZ (cj ops) k i=true)/\(i<k->aZ (cj ops) i k=true)):jB st S ops.size b=(st i).heap.get b:=by
 rw[kh st (i:=i) ops.size,a1L (a1S R.lt)]
 intro k O hc
 obtain⟨_,⟨A,E⟩|⟨w',A,E,Z⟩⟩:=T.chg hc
 ·--made there
  have U:k<i:=by
   rcases a0k k i with h|h
   ·exact h
   have:=T.monoL h;omega
  refine⟨fun _=>U,fun _=>?_⟩;rcases I.dom b l hb with h|⟨k',_,hs,h4,h5⟩|h
  ·have:=T.monoL (a0B k);omega
  ·have:=between T A E h4 h5;subst this;exact hs
  have:=T.monoL (a1S R.lt);omega
 exact R.iff_ I.dc (V k w' A E O).1 (V k w' A E O).2
theorem iP(T:Trace P G cf ops st vl nf)(I:Inv ops st vl μ0 w0 d0 S μ a w)(R:Ready ops S i o){b:Nat}(hb:b<(st i).heap.next->∃l,μ b=some l)(an:b<(st (i+1)).heap.next)
  (Z: ∀k w',nf k= .x w'->b∈w'->k<ops.size->(k<i->aZ (cj ops) k i=true)/\(i<k->aZ (cj ops) i k=true)):jB st (jh S i) ops.size b=(st (i+1)).heap.get b:=by
 rw[kh st (i:=i+1) ops.size,a1L R.lt]
 intro k V hc
 by_cases O:k=i
 ·subst O;rw[gi];simp
 obtain⟨_,⟨A,E⟩|⟨w',A,E,h3⟩⟩:=T.chg hc
 ·have Y:k<i:=by
   rcases a0k k i with h|h
   ·exact h
   have:=T.monoL (show i+1<=k by omega);omega
  rw[gj S O];refine⟨fun _=>by omega,fun _=>?_⟩;have U:b<(st i).heap.next:=by have:=T.monoL (show k+1<=i from Y);omega
  obtain⟨l,hl⟩:=hb U;rcases I.dom b l hl with h|⟨k',_,hs,h4,h5⟩|h
  ·have:=T.monoL (a0B k);omega
  ·have:=between T A E h4 h5;subst this;exact hs
  have:=T.monoL (a1S R.lt);omega
 exact R.iffAdd I.dc (Z k w' A E V).1 (Z k w' A E V).2
theorem kg(T:Trace P G cf ops st vl nf){b:Nat}(h: ¬chg st i b):jB st (jh S i) ops.size b=jB st S ops.size b:=by refine(ly st ops.size fun k _ hc=>?_);exact gj S (fun e=>by subst e;exact h hc)
theorem jy{b:Nat}: ∀{l:List Nat},memB b l=true↔b∈l
 | []=>by simp[memB]
 |c::l=>by
  unfold memB;rw[a0P,jy (l:=l),a0n];constructor
  ·rintro(h|h)
   ·exact .inl (a07 h)
   exact .inr h
  rintro(rfl|h)
  ·exact .inl (a0S b)
  exact .inr h
theorem iF(T:Trace P G cf ops st vl nf)(I:Inv ops st vl μ0 w0 d0 S μ a w)(R:Ready ops S i o):
  (∀t,o.dst=some t->tv st vl ops (jh S i) ops.size t=vl i)/\(∀t,o.dst≠some t->tv st vl ops (jh S i) ops.size t=tv st vl ops S ops.size t):=by
 constructor
 ·intro t A;rw[tv_eq st vl ops (i:=i+1) (fun k=>T.tm k t) ops.size (fun k _ hd=>R.iffAdd I.dc (share T R.at_ (.inr A) hd).1 (share T R.at_ (.inr A) hd).2),a1L R.lt,T.tm];rw[if_pos (by unfold jo;rw[R.at_];exact A)]
 intro t A
 refine tv_congr st vl ops ops.size fun k _ hd=>gj S ?_
 intro e
 subst e
 unfold jo at hd
 rw[R.at_]at hd
 exact A hd
theorem gr(T:Trace P G cf ops st vl nf)(I:Inv ops st vl μ0 w0 d0 S μ a w)(R:Ready ops S i o)(A: ∀b,(st (i+1)).heap.get b=(st i).heap.get b){v':Value}(E:VRel μ (vl i) v'):
  Inv ops st vl μ0 w0 d0 (jh S i) μ (a.put o.dst v') w:=by
 obtain⟨O,U⟩:=iF T I R
 refine Inv.next (H:=bare (st i).heap.next) (Hn:=bare (st i).heap.next) I R.lt R.at_ (Post.refl (jC μ _ w)) E (fun k=>T.mono k) (a06 _) (T.mono i)
  (fun b l x _ h=>by rw[el]at h;cases h) (fun b l x _ h=>by rw[el]at h;cases h) (fun b l x hb _ hc=>⟨hb,rfl,?_⟩) (R.dc I.dc) (fun d hd=>?_) O U
 ·rw[kg T (fun e=>e (A b))]at hc;exact hc
 have:=(T.fact i o R.at_).dlt d hd
 rwa [T.sizeL i]at this
theorem inv_step(e4:dR P G cf)(T:Trace P G cf ops st vl nf)(I:Inv ops st vl μ0 w0 d0 S μ a w)(hG:GRel μ0 G)(R:Ready ops S i o){K:Act->World->Prop}{Q:Exit->Act->World->Prop}
  (hK: ∀μ' a' w',Inv ops st vl μ0 w0 d0 (jh S i) μ' a' w'->K a' w'):wpOp P ops Q i K a w:=by
 have dt:GRel μ G:=hG.mono I.ext0
 have F:=T.fact i o R.at_
 have b5:=wanted_here T I R
 unfold wpOp
 rw[R.at_]
 simp only
 rcases F.how with⟨hq,hv,hf,hn,hs⟩|⟨hq,d3,H1,H2,an,Z,U,ar,b0,c9⟩
 ·rw[b5]at hq;rw[hq];simp only[a0g,if_false];exact hK μ _ w (gr T I R hs (by rw[hv];exact VRel.undef))
 rw[b5]at hq
 rw[hq]
 simp only[if_true]
 left
 have hρ:=operand_here T I R dt d3
 have bl:WF (st i).heap:=T.wf i
 rcases c9 with⟨hf,hk|hk⟩|⟨hf,hk⟩|⟨b,hf,ba⟩|⟨wr,hf,f6,fi⟩
 rotate_left
 ·--a part of the nil slice
  unfold dZ at U;split at U
  case h_2=>rename_i V A;obtain⟨_,_,E⟩:=eA hk A;cases E
  case h_3=>rename_i f args V A;obtain⟨_,_,E⟩:=eA hk A;cases E
  case h_4=>cases U
  rename_i u V A;simp only[a00,a04]at U;obtain⟨e1,_⟩:=eA hk A;subst e1;obtain⟨rfl,rfl⟩:=U;obtain⟨v',ax,hr⟩:=nilcut_sound hk hρ A w;unfold Oper.wp;rw[ax,Oper.upon_value];exact hK μ _ w (gr T I R (fun b=>by rw[ar b,an b]) hr)
 rotate_right
 ·--a value
  have A: ∃u,aop P (cW (st i).tmps) o H1=some (.val u,H1)/\u=vl i/\H2=H1:=by
   unfold dZ at U;split at U
   ·rename_i u V A;simp only[a00,a04]at U;have:=kN hk A;subst this;exact⟨u,A,U.1,U.2.symm⟩
   ·rename_i V A;obtain⟨_,E⟩:=jL hk A;cases E
   ·rename_i f args V A;obtain⟨_,E⟩:=jL hk A;cases E
   cases U
  obtain⟨u,A,rfl,rfl⟩:=A;obtain⟨_,v,v',cp,ax,hr⟩:=jM hk hρ A;injection cp with cp;subst cp;unfold Oper.wp;rw[ax w,Oper.upon_value];exact hK μ _ w (gr T I R (fun b=>by rw[ar b,an b]) hr)
 ·--a new block
  unfold dZ at U;split at U
  case h_2=>rename_i V A;obtain⟨_,_,E,_⟩:=eY hk A;cases E
  case h_3=>rename_i f args V A;obtain⟨_,_,E,_⟩:=eY hk A;cases E
  case h_4=>cases U
  rename_i u V A;simp only[a00,a04]at U;obtain⟨rfl,rfl⟩:=U;obtain⟨u,Y,hu,dk,d5⟩:=eY hk A;injection hu with hu;subst hu dk;have ci:(st (i+1)).heap.next=(st i).heap.next+1:=by rw[b0,Heap.next_push,Z]
  have e3:=d5 (bare (st i).heap.next) (by rw[Z];rfl);obtain⟨n,w',μ',ax,hp,hr⟩:=iu hρ (jC μ _ w) (fun b a1 a2=>lf T I R b a1 (by rw[ci];exact a2)) e3;unfold Oper.wp;rw[ax];cases n with
  |value v'=>
   rw[Oper.upon_value]
   obtain⟨t1,t2⟩:=iF T I R
   have hw: ∀k w',nf k= .x w'->(st i).heap.next∈w'->k<ops.size->(k<i->aZ (cj ops) k i=true)/\(i<k->aZ (cj ops) i k=true):=by
    intro k w' E hm a3;have fd:(st i).heap.next<(st k).heap.next:=by
     have Fk:=T.fact k ops[k] (a0C a3);rcases Fk.how with⟨_,_,O,_⟩|⟨_,_,_,_,_,_,_,_,_,e6⟩
     ·rw[E]at O;cases O
     rcases e6 with⟨O,_⟩|⟨O,_⟩|⟨_,O,_⟩|⟨w2,O,fb,_⟩
     ·rw[E]at O;cases O
     ·rw[E]at O;cases O
     ·rw[E]at O;cases O
     rw[E]at O;injection O with O;subst O;exact fb _ hm
    constructor
    ·intro a8;have:=T.monoL (a1S a8);omega
    intro a7;rcases T.comp i k a7 a3 with h|h
    ·exact h
    rw[hf,E]at h;simp only[ea]at h;rw[jy.2 hm]at h;cases h
   have d6:jB st (jh S i) ops.size (st i).heap.next=some Y:=by rw[iP T I R (fun h=>absurd h (Nat.lt_irrefl _)) (by rw[ci];omega) hw,ar,←Z,Heap.get_push_same]
   have c7: ∀b x,((bare (st i).heap.next).push Y).get b=some x->b=(st i).heap.next/\x=Y:=by
    intro b x E;by_cases bn:(bare (st i).heap.next).next=b
    ·subst bn;rw[Heap.get_push_same]at E;injection E with E;exact⟨rfl,E.symm⟩
    rw[Heap.get_push_ne _ _ bn,el]at E;cases E
   refine hK μ' _ w' (Inv.next (H:=bare (st i).heap.next) (Hn:=(bare (st i).heap.next).push Y) I R.lt R.at_ hp hr (fun k=>T.mono k) (a06 _) (by rw[ci];exact a06 _)
    (fun b l x _ h=>by rw[el]at h;cases h) (fun b l x _ h=>?_) (fun b l x hb hg hc=>?_) (R.dc I.dc) (fun d hd=>?_) t1 t2)
   ·obtain⟨rfl,rfl⟩:=c7 b x h;exact d6
   ·have bn:b≠(st i).heap.next:=by rintro rfl;have:((bare (st i).heap.next).push Y).get (st i).heap.next=some Y:=Heap.get_push_same (bare (st i).heap.next) Y;rw[this]at hg;cases hg
    have ch: ¬chg st i b:=by intro b9;apply b9;rw[ar,Heap.get_push_ne _ _ (by rw[Z];exact Ne.symm bn),an]
    rw[kg T ch]at hc;rcases hp.dom b l hb with V|⟨V,h2⟩
    ·exact⟨V,rfl,hc⟩
    exfalso;have f4:(st i).heap.next<=b:=V;have f5:b<(st i).heap.next+1:=h2;omega
   have:=F.dlt d hd
   rwa [T.sizeL i]at this
  |_=>exact hr.elim
 ·--a load,or a part of a slice
  unfold dZ at U;split at U
  case h_2=>rename_i V A;obtain⟨_,_,E,_⟩:=en ba A;cases E
  case h_3=>rename_i f args V A;obtain⟨_,_,E,_⟩:=en ba A;cases E
  case h_4=>cases U
  rename_i u V A;simp only[a00,a04]at U;obtain⟨rfl,rfl⟩:=U;obtain⟨u,Y,hu,rfl,cl,c6⟩:=en ba A;injection hu with hu;subst hu;obtain⟨l,hμ⟩:=reads_loc ba hρ;have d4:b<(st i).heap.next:=bl.lt (by rw[←an];exact cl);have c8:=cont_here T I R hμ d4 (fun k w' bb hm a3=>by
   constructor
   ·intro a8;rcases T.comp k i a8 R.lt with h|h
    ·exact h
    rw[hf,bb]at h;simp only[ea]at h;rw[jy.2 hm]at h;cases h
   intro a7;rcases T.comp i k a7 a3 with h|h
   ·exact h
   rw[hf,bb]at h;simp only[ea]at h;rw[jy.2 hm]at h;cases h)
  have d7:WRel μ ((bare (st i).heap.next).put b Y) w:=by
   refine⟨fun b' l' o' e2 a5=>?_,fun b1 b2 l1 l2 o1 o2 a4 _ _ b3 b4=>?_⟩
   ·by_cases d1:b=b'
    ·subst d1;rw[Heap.get_put_same]at a5;injection a5 with a5;subst a5;exact I.obj b l' Y e2 (by rw[c8,←an];exact cl)
    rw[Heap.get_put_ne _ _ d1,el]at a5;cases a5
   exfalso;by_cases V:b=b1
   ·by_cases h2:b=b2
    ·exact a4 (V.symm.trans h2)
    rw[Heap.get_put_ne _ _ h2,el]at b4;cases b4
   rw[Heap.get_put_ne _ _ V,el]at b3;cases b3
  obtain⟨v',ds,hr⟩:=reads_sound ba hρ d7 (c6 _ (Heap.get_put_same _ _ _));unfold Oper.wp;rw[ds,Oper.upon_value];exact hK μ _ w (gr T I R (fun b=>by rw[ar b,an b]) hr)
 ·--any other
  have c0: ∀b k w',nf k= .x w'->b∈w'->k<ops.size->(k<i->aZ (cj ops) k i=true)/\(i<k->aZ (cj ops) i k=true):=by
   intro b k w' bb hm a3;have a4:isNilL w'=false:=by cases w' with
    |nil=>simp at hm
    |cons _ _=>rfl
   constructor
   ·intro a8;rcases T.comp k i a8 R.lt with h|h
    ·exact h
    rw[hf,bb]at h;simp only[ea,a4,Bool.false_and]at h;cases h
   intro a7;rcases T.comp i k a7 a3 with h|h
   ·exact h
   rw[hf,bb]at h;simp only[ea,a4,a1I]at h;cases h
  have bt: ∀b l x,μ b=some l->H1.get b=some x->jB st S ops.size b=some x:=by intro b l x hb E;rw[an]at E;rw[cont_here T I R hb (bl.lt E) (c0 b)];exact E
  have cv:WF H1:=fun b hb=>by rw[an];exact bl b (by rw[←Z];exact hb)
  have dn:WRel μ H1 w:=⟨fun b l x hb E=>I.obj b l x hb (bt b l x hb E),fun b1 b2 l1 l2 o1 o2 a4 a1 a2 b3 b4=>I.inj b1 b2 l1 l2 o1 o2 a4 a1 a2 (bt b1 l1 o1 a1 b3) (bt b2 l2 o2 a2 b4)⟩
  refine i6 e4 cv hρ dt dn (fun b a1 a2=>lf T I R b (by rw[←Z];exact a1) (by rw[b0];exact a2)) U ?_;intro μ' w' v' hp hv;obtain⟨t1,t2⟩:=iF T I R;have bw: ∀b l,μ' b=some l->b<(st i).heap.next->∃l,μ b=some l:=by
   intro b l hb fd;rcases hp.dom b l hb with h|⟨h,_⟩
   ·exact⟨l,h⟩
   rw[Z]at h;omega
  refine hK μ' _ w' (Inv.next (H:=H1) (Hn:=H2) I R.lt R.at_ hp hv (fun k=>T.mono k) (by rw[Z];exact a06 _) (by rw[b0];exact a06 _) bt (fun b l x hb E=>?_) (fun b l x hb E hc=>?_) (R.dc I.dc) (fun d hd=>?_) t1 t2)
  ·rw[←ar]at E;rw[iP T I R (bw b l hb) ((T.wf (i+1)).lt E) (c0 b)];exact E
  ·rw[←ar]at E;have d2:(st (i+1)).heap.next<=b:=by
    rcases a0k b (st (i+1)).heap.next with h|h
    ·rw[iP T I R (bw b l hb) h (c0 b),E]at hc;cases hc
    exact h
   have ch: ¬chg st i b:=fun b9=>b9 (F.far b d2)
   rw[kg T ch]at hc;refine⟨?_,?_,hc⟩
   ·rcases hp.dom b l hb with h|⟨_,h⟩
    ·exact h
    rw[←b0]at h;omega
   exact cv b (by rw[Z];exact a0m F.next d2)
  have:=F.dlt d hd;rwa [T.sizeL i]at this
end
end Go.R
namespace Go.R
section
variable {P:Program} {G:Nat} {cf:ck} {ops:Array Oper} {st:Nat->St} {vl:Nat->Value} {nf:Nat->Inf}
variable {μ0 μ:Emb} {w0 w:World} {d0:List Deferred} {a:Act}
def cnt(S:Nat->Bool):Nat->Nat
 |0=>0
 |n+1=>cnt S n+if S n=true then 0 else 1
theorem cnt_far{S:Nat->Bool}{i:Nat}: ∀n,n<=i->cnt (jh S i) n=cnt S n
 |0,_=>rfl
 |n+1,h=>by have:=cnt_far (S:=S) (i:=i) n (by omega);simp only[cnt,this,gj S (show n≠i by omega)]
theorem cnt_add{S:Nat->Bool}{i:Nat}(hs:S i=false): ∀n,i<n->cnt (jh S i) n+1=cnt S n
 |0,h=>by omega
 |n+1,h=>by
  by_cases hi:i=n
  ·subst hi;simp only[cnt,cnt_far i (a06 i),gi,hs,if_true,a0g,if_false]
  have:=cnt_add hs n (by omega);simp only[cnt,gj S (show n≠i by omega)];omega
theorem cnt_zero{S:Nat->Bool}: ∀n,cnt S n=0->∀k,k<n->S k=true
 |0,_,k,h=>by omega
 |n+1,h,k,hk=>by
  simp only[cnt]at h;by_cases hs:S n=true
  ·by_cases A:k=n
   ·subst A;exact hs
   exact cnt_zero n (by omega) k (by omega)
  rw[if_neg hs]at h;omega
theorem cnt_le{S:Nat->Bool}: ∀n,cnt S n<=n
 |0=>a06 _
 |n+1=>by have:=cnt_le (S:=S) n;simp only[cnt];split<;>omega
def gH(listed:Array Bool):Nat->Bool:=fun k=>listed.getD k false
theorem setOf_set{listed:Array Bool}{i:Nat}(hi:i<listed.size):gH (listed.setIfInBounds i true)=jh (gH listed) i:=by
 funext k;unfold gH jh;simp only[a0K,a12];by_cases A:i=k
 ·subst A;simp[hi]
 have:Nat.beq k i=false:=by
  cases hb:Nat.beq k i with
  |false=>rfl
  |true=>exact absurd (a07 hb).symm A
 simp[A,this]
theorem jW{listed:Array Bool}(Y:listed.size=ops.size){i:Nat}:i∈Region.ready .any ops listed↔
  ∃o,Ready ops (gH listed) i o:=by
 unfold Region.ready
 rw[List.mem_filter,List.mem_range]
 constructor
 ·rintro⟨hi,h⟩;have A:ops[i]?=some ops[i]:=a0C hi;rw[A]at h;simp only[a02,a0I,a1E,a1m]at h;refine⟨ops[i],A,?_,fun e E hb=>?_⟩
  ·unfold gH;have T:=h.1;simp only[a0K,a0C (show i<listed.size by omega),a1m]at T⊢;exact T
  have U:=h.2;rw[Array.all_eq_true']at U;have:=U e (by simpa using E);rw[hb]at this;simpa[gH] using this
 rintro⟨o,A,O,E⟩
 have hi:i<ops.size:=(a0L.1 A).1
 refine⟨hi,?_⟩
 rw[A]
 simp only[a02,a0I,a1E,a1m]
 constructor
 ·unfold gH at O;simp only[a0K,a0C (show i<listed.size by omega),a1m]at O⊢;exact O
 rw[Array.all_eq_true']
 intro e V
 cases hb:Region.binds .any e with
 |false=>rfl
 |true=>
  have:=E e (by simpa using V) hb
  simpa[gH] using this
theorem all_of_none(T:Trace P G cf ops st vl nf){listed:Array Bool}(V:listed.size=ops.size)(h:Region.ready .any ops listed=[]): ∀k,k<ops.size->gH listed k=true:=by
 intro k;induction k using Nat.strongRecOn with
 |_ k ih=>
  intro U
  cases hs:gH listed k with
  |true=>rfl
  |false=>
   exfalso
   have E:=a0C U
   have:k∈Region.ready .any ops listed:=(jW V).2 ⟨ops[k],E,hs,fun e O hb=>by
    have A:=T.reg.back k ops[k] E e O hb;exact ih e.on A (by omega)⟩
   rw[h]at this;simp at this
theorem any_sound(O:dR P G cf)(T:Trace P G cf ops st vl nf)(V:GRel μ0 G){Q:Exit->Act->World->Prop}
  (U: ∀S μ a w,(∀k,k<ops.size->S k=true)->Inv ops st vl μ0 w0 d0 S μ a w->Q .normal a w):
  ∀(fuel:Nat) (listed:Array Bool) (μ:Emb) (a:Act) (w:World),listed.size=ops.size->cnt (gH listed) ops.size<=fuel->Inv ops st vl μ0 w0 d0 (gH listed) μ a w->
   wpAny P .any ops Q fuel listed a w
 |0,listed,μ,a,w,hl,hc,I=>by
  have A:=cnt_zero ops.size (by omega:cnt (gH listed) ops.size=0);refine⟨?_,U _ μ a w A I⟩;cases hr:Region.ready .any ops listed with
  |nil=>rfl
  |cons i t=>
   exfalso
   have hm:i∈Region.ready .any ops listed:=by rw[hr];simp
   obtain⟨o,R⟩:=(jW hl).1 hm
   have:=A i R.lt
   rw[R.new]at this;cases this
 |fuel+1,listed,μ,a,w,hl,hc,I=>by
  refine⟨fun h=>U _ μ a w (all_of_none T hl h) I,fun i hi=>?_⟩;obtain⟨o,R⟩:=(jW hl).1 hi;refine inv_step O T I V R fun μ' Z w' Y=>?_
  have E:=setOf_set (listed:=listed) (i:=i) (by rw[hl];exact R.lt);refine any_sound O T V U fuel (listed.setIfInBounds i true) μ' Z w' (by simp[hl]) ?_ (by rw[E];exact Y);rw[E];have:=cnt_add R.new ops.size R.lt;omega
theorem inv_start(T:Trace P G cf ops st vl nf)(ht:TRel μ0 (st 0).tmps (st 0).size a.tmps)(hw:WRel μ0 (st 0).heap w)(E: ∀b l,μ0 b=some l->b<(st 0).heap.next\/(st ops.size).heap.next<=b)(S:Nat->Bool)(A: ∀k,S k=false):
  Inv ops st vl μ0 w a.defers S μ0 a w:=by
 have hc: ∀b,jB st S ops.size b=(st 0).heap.get b:=by intro b;have:=kh st (S:=S) (b:=b) (i:=0) ops.size (fun k _ _=>by rw[A k];simp);rwa [Nat.min_zero]at this
 have a1: ∀t,tv st vl ops S ops.size t=cy (st 0).tmps t:=by intro t;have:=tv_eq st vl ops (S:=S) (t:=t) (i:=0) (fun k=>T.tm k t) ops.size (fun k _ _=>by rw[A k];simp);rwa [Nat.min_zero]at this
 refine⟨(fun k o _ Y=>by rw[A k]at Y;cases Y),fun b l hb=>?_,fun b l o hb O=>hw.obj b l o hb (by rw[←hc];exact O),fun b1 b2 l1 l2 o1 o2 al U V an ar=>hw.inj b1 b2 l1 l2 o1 o2 al U V (by rw[←hc];exact an) (by rw[←hc];exact ar),
  ht.1,fun t=>by rw[a1];exact ht.2 t,rfl,fun _ _ h=>h,fun _ _ h=> .inl h,a06 _,rfl,rfl,rfl,fun _ _ _=>rfl,fun b l o hb O Z=> .inr ⟨b,l,o,hb,by rw[←hc];exact O,Z,id,rfl⟩⟩
 rcases E b l hb with h|h
 ·exact .inl h
 exact .inr (.inr h)
theorem inv_end(T:Trace P G cf ops st vl nf){S:Nat->Bool}(A: ∀k,k<ops.size->S k=true)(I:Inv ops st vl μ0 w0 d0 S μ a w):
  Post μ0 (st 0).heap w0 μ (st ops.size).heap w/\TRel μ (st ops.size).tmps (st ops.size).size a.tmps/\a.defers=d0:=by
 have hc: ∀b,jB st S ops.size b=(st ops.size).heap.get b:=by intro b;have:=kh st (S:=S) (b:=b) (i:=ops.size) ops.size (fun k E _=>by rw[A k E];simp[E]);rwa [Nat.min_self]at this
 have ar: ∀t,tv st vl ops S ops.size t=cy (st ops.size).tmps t:=by intro t;have:=tv_eq st vl ops (S:=S) (t:=t) (i:=ops.size) (fun k=>T.tm k t) ops.size (fun k E _=>by rw[A k E];simp[E]);rwa [Nat.min_self]at this
 refine⟨⟨I.ext0,I.dom0,I.grow0,I.os0,I.tape0,I.out0,I.keep0,fun b l o hb O Y=>I.img0 b l o hb (by rw[hc];exact O) Y,
  ⟨fun b l o hb O=>I.obj b l o hb (by rw[hc];exact O),fun b1 b2 l1 l2 o1 o2 Z U V al an=>I.inj b1 b2 l1 l2 o1 o2 Z U V (by rw[hc];exact al) (by rw[hc];exact an)⟩⟩,⟨?_,fun t=>?_⟩,I.defers⟩
 ·rw[I.size,T.sizeL ops.size]
 have:=I.tm t
 rwa [ar]at this
end
section
variable {P:Program} {G:Nat} {cf:ck} {ops:Array Oper}
theorem hO(Y:dR P G cf): ∀(l:List Oper) (k:Nat) (fs:List (Nat×Inf)) (s s':St),ops.toList.drop k=l->k+l.length=ops.size->bd P G cf ops k fs l s=some s'->WF s.heap->
  ∃(st:Nat->St) (vl:Nat->Value) (nf:Nat->Inf),st k=s/\st ops.size=s'/\(∀j,ops.size<=j->st (j+1)=st j)/\(∀j,k<=j->WF (st j).heap)/\
   (∀j o,k<=j->ops[j]?=some o->OpFact P G cf ops o (st j) (st (j+1)) (vl j) (nf j))/\
   (∀j,k<=j->j<ops.size->∀q∈fs,aZ (cj ops) q.1 j=true\/ea q.2 (nf j)=true)/\
   (∀i j,k<=i->i<j->j<ops.size->aZ (cj ops) i j=true\/ea (nf i) (nf j)=true)
 | [],k,fs,s,s',hd,hlen,h,hw=>by simp only[bd,a00]at h;subst h;simp only[a05,Nat.add_zero]at hlen;refine⟨fun _=>s,fun _=>undef,fun _=> .v,rfl,rfl,fun _ _=>rfl,fun _ _=>hw,fun j o O T=>?_,fun j O bk=>by omega,fun i j hi al O=>by omega⟩;have:=(a0L.1 T).1;omega
 |x::os,k,fs,s,s',hd,hlen,h,hw=>by
  simp only[a03]at hlen;unfold bd at h;split at h
  case h_2=>cases h
  rename_i s1 f h1;cases E:bU (cj ops) k f fs with
  |false=>rw[E]at h;cases h
  |true=>
   rw[E]at h
   simp only[cond_true]at h
   obtain⟨v,F⟩:=stepD_fact Y hw h1
   have a4:WF s1.heap:=fun b hb=>by rw[F.far b hb];exact hw b (a0m F.next hb)
   have hk:k<ops.toList.length:=by simp;omega
   have Z:=a0G hk
   rw[hd]at Z
   injection Z with e1 e2
   have a3:ops[k]?=some x:=by rw[←Array.getElem?_toList,a08 hk,←e1]
   obtain⟨st,vl,nf,g1,g2,g3,g4,g5,g6,g7⟩:=hO Y os (k+1) ((k,f)::fs) s1 s' e2.symm (by omega) h a4
   have V: ∀(l:List (Nat×Inf)),bU (cj ops) k f l=true->∀q∈l,aZ (cj ops) q.1 k=true\/ea q.2 f=true:=by
    intro l;induction l with
    |nil=>intro _ q E;simp at E
    |cons p l ih=>
     intro hl q E
     obtain⟨pj,pg⟩:=p
     simp only[bU,a02,a0P]at hl
     rcases a0n.1 E with rfl|E
     ·exact hl.1
     exact ih hl.2 q E
   refine⟨fun j=>if j<=k then s else st j,fun j=>if j<=k then v else vl j,fun j=>if j<=k then f else nf j,by simp,?_,fun j O=>?_,fun j O=>?_,fun j o O T=>?_,fun j O U q an=>?_,fun i j hi al U=>?_⟩
   ·simp only[show ¬(ops.size<=k) by omega,if_false];exact g2
   ·simp only[show ¬(j<=k) by omega,show ¬(j+1<=k) by omega,if_false];exact g3 j O
   ·by_cases A:j<=k
    ·simp only[A,if_true];exact hw
    simp only[A,if_false];exact g4 j (by omega)
   ·by_cases A:j=k
    ·subst A;rw[a3]at T;injection T with T;subst T;simp only[a06,if_true,show ¬(j+1<=j) by omega,if_false,g1];exact F
    simp only[show ¬(j<=k) by omega,show ¬(j+1<=k) by omega,if_false];exact g5 j o (by omega) T
   ·by_cases A:j=k
    ·subst A;simp only[a06,if_true];exact V fs E q an
    simp only[show ¬(j<=k) by omega,if_false];exact g6 j (by omega) U q (a0c _ an)
   by_cases a1:i=k
   ·subst a1;simp only[a06,if_true,show ¬(j<=i) by omega,if_false];exact g6 j (by omega) U (i,f) (by simp)
   simp only[show ¬(i<=k) by omega,show ¬(j<=k) by omega,if_false]
   exact g7 i j (by omega) al U
def Dom(μ:Emb)(H:Heap):Prop:= ∀b l,μ b=some l->b<H.next
theorem region_sound(V:dR P G cf){id:Nat}{E:Bool}{s A:St}(h:bF P G cf ops E s=some A){μ:Emb}{a:Act}{w:World}{Q:Exit->Act->World->Prop}
  (ax:WF s.heap) (ht:TRel μ s.tmps s.size a.tmps) (hG:GRel μ G) (hw:WRel μ s.heap w) (Y: ∀b l,μ b=some l->b<s.heap.next\/A.heap.next<=b)
  (hQ: ∀μ' w' O,Post μ s.heap w μ' A.heap w'->TRel μ' A.tmps A.size O.tmps->O.defers=a.defers->Q .normal O w'):(Code.region id ops E).wp P Q a w:=by
 have Z: ∀b,s.heap.next<=b->b<A.heap.next->μ b=none:=by
  intro b h1 h2;cases hb:μ b with
  |none=>rfl
  |some l=>rcases Y b l hb with h3|h3<;>omega
 unfold bF at h
 cases E with
 |false=>
  simp only[cond_false]at h
  refine wp_region ?_
  rw[List.range_eq_range']
  have:=iV V ops.toList 0 s A rfl h μ a w ax ht hG hw Z (Q:=Q) hQ
  simpa using this
 |true=>
  simp only[cond_true]at h
  cases hq:(jV ops&&P.follows .mixedOrders) with
  |false=>rw[hq]at h;cases h
  |true=>
   rw[hq]at h
   simp only[cond_true]at h
   simp only[a02]at hq
   obtain⟨st,vl,nf,U,g2,g3,g4,g5,_,g7⟩:=hO V ops.toList 0 [] s A rfl (by simp) h ax
   have T:Trace P G cf ops st vl nf:=⟨fun k o ho=>g5 k o (a0B _) ho,g3,fun j k a5 hk=>g7 j k (a0B _) a5 hk,regOK_facts hq.1,fun k=>g4 k (a0B _)⟩
   refine wp_region_any hq.2 ?_
   rw[World.drew_eq]
   have I:=inv_start (a:=a) (w:=w.drew) (μ0:=μ) T (by rw[U];exact ht) (by rw[U];exact hw.drew) (by rw[U,g2];exact Y) (gH (Array.replicate ops.size false)) (fun k=>by
    unfold gH;simp[a0K,Array.getElem?_replicate];split<;>rfl)
   refine any_sound V T hG (fun S μ' O w' hS I'=>?_) ops.size _ μ a w.drew (by simp) (cnt_le _) I
   obtain⟨hp,ar,a4⟩:=inv_end T hS I'
   rw[U,g2]at hp
   rw[g2]at ar
   refine hQ μ' w' O ((Post.drew hw).trans hp (a06 _) ?_) ar a4
   have:=T.monoL (a0B ops.size)
   rwa [U,g2]at this
end
end Go.R
namespace Go.R
open Go.RowKit
def Ex.toExit:Ex->Exit
 | .normal=> .normal
 | .exit id=> .exit id
 | .ret=> .ret
def LoopWp(P:Program)(c:Code)(Q:Exit->Act->World->Prop)(a:Act)(w:World):Prop:=
 ∀(b:Frame) (k:List Item) (cs:List Frame),∃e A w',Q e A w'/\Arrives P (lone (b.at a (.code c:: .inLoop c::k)) cs w) b k cs e A w'
theorem LoopWp.wp{P:Program}{c:Code}{Q:Exit->Act->World->Prop}{a:Act}{w:World}(h:LoopWp P c Q a w):(Code.loop c).wp P Q a w:=
 fun b k cs=>let⟨e,a',w',q,r⟩:=h b k cs;⟨e,a',w',q,.of_steps (.one step_loop) r⟩
theorem LoopWp.round{P:Program}{c:Code}{Q:Exit->Act->World->Prop}{a:Act}{w:World}(h:c.wp P (Exit.then (LoopWp P c Q) Q) a w):LoopWp P c Q a w:=by
 intro b k cs;obtain⟨e,O,T,E,A⟩:=h b (.inLoop c::k) cs;cases e with
 |normal=>
  obtain⟨Z,Y,w₂,V,U⟩:=E b k cs
  exact⟨Z,Y,w₂,V,.of_steps (Steps.trans A (.one step_inLoop)) U⟩
 |exit id=>exact⟨_,O,T,E,.pass (x:= .inLoop c) rfl (fun _ _=> .inl (by simp)) A⟩
 |goto l=>exact⟨_,O,T,E,.pass (x:= .inLoop c) rfl (fun _ _=> .inl (by simp)) A⟩
 |ret=>exact⟨_,O,T,E,.pass (x:= .inLoop c) rfl (fun _ _=> .inl (by simp)) A⟩
 |panic ch=>exact⟨_,O,T,E,.pass (x:= .inLoop c) rfl (fun _ _=> .inl (by simp)) A⟩
 |outgrown=>exact⟨_,O,T,E,.pass (x:= .inLoop c) rfl (fun _ _=> .inl (by simp)) A⟩
def Wp(P:Program)(c:Code)(Q:Exit->Act->World->Prop)(a:Act)(w:World):Prop:=
 match c with
 | .loop b=>LoopWp P b Q a w
 |c=>c.wp P Q a w
theorem Wp.wp{P:Program}{c:Code}{Q:Exit->Act->World->Prop}{a:Act}{w:World}(h:Wp P c Q a w):c.wp P Q a w:=by cases c<;>first|exact LoopWp.wp h|exact h
def After(μ:Emb)(s:St)(w:World)(e:Ex)(A:St):Exit->Act->World->Prop:=fun O E T=>
 O=e.toExit/\E.defers=[]/\∃μ',Post μ s.heap w μ' A.heap T/\TRel μ' A.tmps A.size E.tmps
def ExOK(P:Program)(G:Nat)(ex:Code->St->Option (Ex×St)):Prop:= ∀c s e A,ex c s=some (e,A)->WF s.heap->Ext s.heap A.heap/\
 ∀μ a w,a.defers=[]->TRel μ s.tmps s.size a.tmps->GRel μ G->WRel μ s.heap w->(∀b,s.heap.next<=b->b<A.heap.next->μ b=none)->Wp P c (After μ s w e A) a w
section
variable {P:Program} {G:Nat}
theorem lc{μ A:Emb}{H H1 E:Heap}{w w1:World}(Y:Post μ H w A H1 w1)(O:H.next<=H1.next)(V: ∀b,H.next<=b->b<E.next->μ b=none): ∀b,H1.next<=b->b<E.next->A b=none:=by
 intro b T U;cases hb:A b with
 |none=>rfl
 |some l=>
  rcases Y.dom b l hb with h|⟨_,h⟩
  ·rw[V b (a0m O T) U]at h;cases h
  omega
theorem After.trans{μ V:Emb}{s A T:St}{w w1:World}{e:Ex}(hp:Post μ s.heap w V A.heap w1)(Y:s.heap.next<=A.heap.next)(Z:A.heap.next<=T.heap.next):
  ∀O E U,After V A w1 e T O E U->After μ s w e T O E U:=by
 rintro O E U ⟨he,hd,μ2,hp2,ht⟩
 exact⟨he,hd,μ2,hp.trans hp2 Y Z,ht⟩
theorem region_ext{cf:ck}(V:dR P G cf){ops:Array Oper}{E:Bool}{s A:St}(U:WF s.heap)(h:bF P G cf ops E s=some A):Ext s.heap A.heap:=by
 unfold bF at h;cases E with
 |false=>exact iH V _ _ _ U h
 |true=>
  simp only[cond_true]at h
  cases T:(jV ops&&P.follows .mixedOrders) with
  |false=>rw[T]at h;cases h
  |true=>
   rw[T]at h
   simp only[cond_true]at h
   have key: ∀(l:List Oper) (k:Nat) (fs:List (Nat×Inf)) (s A:St),WF s.heap->bd P G cf ops k fs l s=some A->Ext s.heap A.heap:=by
    intro l;induction l with
    |nil=>intro k fs s A _ h;simp only[bd,a00]at h;subst h;exact Ext.refl _
    |cons o os ih=>
     intro k fs s A U h
     unfold bd at h
     split at h
     case h_2=>cases h
     rename_i s1 f O
     cases T:bU (cj ops) k f fs with
     |false=>rw[T]at h;cases h
     |true=>
      rw[T]at h
      simp only[cond_true]at h
      have Z:Ext s.heap s1.heap:=by
       unfold gG at O;split at O
       case h_2=>cases O
       rename_i t al;simp only[a00,a04]at O;obtain⟨rfl,_⟩:=O;have Y:=ju V (s:={s with heap:={s.heap with log:=[]}}) U al;obtain⟨d,hd,hs⟩:=Y.log;refine⟨Y.next,⟨dy s.heap.next t.heap.log,rfl,fun b hb hn=>?_⟩,Y.far⟩;refine hs b hb fun hm=>hn (fY.2 ⟨?_,hb⟩)
       rw[hd,a0p];exact hm
      exact Z.trans (ih _ _ _ _ (U.ext Z) h)
   exact key _ _ _ _ _ U h
theorem execC_ok{rec_:Code->St->Option (Ex×St)}{cf:ck}(a9:ExOK P G rec_)(a7:dR P G cf):ExOK P G (eF P G rec_ cf):=by
 intro c;induction c with
 |skip=>
  intro s e Y h Z
  rw[li]at h
  simp only[a00,a04]at h
  obtain⟨rfl,rfl⟩:=h
  exact⟨Ext.refl _,fun μ a w hd E O U _=>wp_skip ⟨rfl,hd,μ,Post.refl U,E⟩⟩
 |region id ops draw=>
  intro s e Y h Z
  rw[ge]at h
  unfold dK at h
  split at h
  ·rename_i s1 h1;simp only[a00,a04]at h;obtain⟨rfl,rfl⟩:=h;refine⟨region_ext a7 Z h1,fun μ a w hd E O U V=>?_⟩;refine region_sound a7 h1 Z E O U (fun b l hb=>?_) fun μ' w' a' hp bb ba=>⟨rfl,ba.trans hd,μ',hp,bb⟩
   rcases a0k b s.heap.next with h2|h2
   ·exact .inl h2
   right;rcases a0k b s1.heap.next with h3|h3
   ·rw[V b h2 h3]at hb;cases hb
   exact h3
  cases h
 |seq x y ihx ihy=>
  intro s e Y h Z
  rw[ke]at h
  cases hx:eF P G rec_ cf x s with
  |none=>rw[hx]at h;cases h
  |some p=>
   obtain⟨e1,s1⟩:=p
   obtain⟨A,T⟩:=ihx s e1 s1 hx Z
   rw[hx]at h
   cases e1 with
   |normal=>
    simp only[gf]at h
    obtain⟨al,a4⟩:=ihy s1 e Y h (Z.ext A)
    refine⟨A.trans al,fun μ a w hd E O U V=>wp_seq ?_⟩
    refine wp_mono (T μ a w hd E O U (fun b h1 h2=>V b h1 (a0X h2 al.next))).wp ?_
    rintro e2 a2 w2 ⟨rfl,hd2,μ2,hp2,ht2⟩
    exact wp_mono (a4 μ2 a2 w2 hd2 ht2 (O.mono hp2.ext) hp2.wrel (lc hp2 A.next V)).wp (After.trans hp2 A.next al.next)
   |exit i=>
    simp only[gf,a00,a04]at h
    obtain⟨rfl,rfl⟩:=h
    refine⟨A,fun μ a w hd E O U V=>wp_seq ?_⟩
    refine wp_mono (T μ a w hd E O U V).wp ?_
    rintro e2 a2 w2 ⟨rfl,hrest⟩
    exact⟨rfl,hrest⟩
   |ret=>
    simp only[gf,a00,a04]at h
    obtain⟨rfl,rfl⟩:=h
    refine⟨A,fun μ a w hd E O U V=>wp_seq ?_⟩
    refine wp_mono (T μ a w hd E O U V).wp ?_
    rintro e2 a2 w2 ⟨rfl,hrest⟩
    exact⟨rfl,hrest⟩
 |cond c x y ihx ihy=>
  intro s e Y h Z
  rw[iN]at h
  cases hq:bg G c with
  |false=>rw[hq]at h;cases h
  |true=>
   rw[hq]at h
   simp only[cond_true]at h
   unfold ln at h
   split at h
   ·rename_i t hv;have a5: ∀(μ:Emb) (a:Act),TRel μ s.tmps s.size a.tmps->GRel μ G->a.eval c= .bool t:=by
     intro μ a E O;have:=eval_of O hq (tm:=s.tmps) (a:=a) fun k _=>E.2 k
     rw[hv]at this;exact this.bool_inv
    cases t with
    |true=>
     obtain⟨A,T⟩:=ihx s e Y h Z
     exact⟨A,fun μ a w hd E O U V=>wp_cond_true (a5 μ a E O) (T μ a w hd E O U V).wp⟩
    |false=>
     obtain⟨A,T⟩:=ihy s e Y h Z
     exact⟨A,fun μ a w hd E O U V=>wp_cond_false (a5 μ a E O) (T μ a w hd E O U V).wp⟩
   cases h
 |block id x ih=>
  intro s e Y h Z
  rw[gV]at h
  cases hx:eF P G rec_ cf x s with
  |none=>rw[hx]at h;cases h
  |some p=>
   obtain⟨e1,s1⟩:=p
   obtain⟨A,T⟩:=ih s e1 s1 hx Z
   rw[hx]at h
   cases e1 with
   |normal=>
    simp only[cO,a00,a04]at h
    obtain⟨rfl,rfl⟩:=h
    refine⟨A,fun μ a w hd E O U V=>wp_block ?_⟩
    refine wp_mono (T μ a w hd E O U V).wp ?_
    rintro e2 a2 w2 ⟨rfl,hrest⟩
    exact⟨rfl,hrest⟩
   |exit i=>
    simp only[cO]at h
    cases hb:Nat.beq i id with
    |true=>
     rw[hb]at h
     simp only[cond_true,a00,a04]at h
     obtain⟨rfl,rfl⟩:=h
     have hi:i=id:=a07 hb
     subst hi
     refine⟨A,fun μ a w hd E O U V=>wp_block ?_⟩
     refine wp_mono (T μ a w hd E O U V).wp ?_
     rintro e2 a2 w2 ⟨rfl,hrest⟩
     simp only[Ex.toExit,Exit.inBlock,if_true]
     exact⟨rfl,hrest⟩
    |false=>
     rw[hb]at h
     simp only[cond_false,a00,a04]at h
     obtain⟨rfl,rfl⟩:=h
     have hi: ¬i=id:=fun e=>by subst e;rw[a0S]at hb;cases hb
     refine⟨A,fun μ a w hd E O U V=>wp_block ?_⟩
     refine wp_mono (T μ a w hd E O U V).wp ?_
     rintro e2 a2 w2 ⟨rfl,hrest⟩
     simp only[Ex.toExit,Exit.inBlock,hi,if_false]
     exact⟨rfl,hrest⟩
   |ret=>
    simp only[cO,a00,a04]at h
    obtain⟨rfl,rfl⟩:=h
    refine⟨A,fun μ a w hd E O U V=>wp_block ?_⟩
    refine wp_mono (T μ a w hd E O U V).wp ?_
    rintro e2 a2 w2 ⟨rfl,hrest⟩
    exact⟨rfl,hrest⟩
 |loop x ih=>
  intro s e Y h Z
  rw[iM]at h
  cases hx:eF P G rec_ cf x s with
  |none=>rw[hx]at h;cases h
  |some p=>
   obtain⟨e1,s1⟩:=p
   obtain⟨A,T⟩:=ih s e1 s1 hx Z
   rw[hx]at h
   cases e1 with
   |normal=>
    simp only[gf]at h
    obtain⟨al,a4⟩:=a9 (.loop x) s1 e Y h (Z.ext A)
    refine⟨A.trans al,fun μ a w hd E O U V=>LoopWp.round ?_⟩
    refine wp_mono (T μ a w hd E O U (fun b h1 h2=>V b h1 (a0X h2 al.next))).wp ?_
    rintro e2 a2 w2 ⟨rfl,hd2,μ2,hp2,ht2⟩
    have hl:LoopWp P x (After μ2 s1 w2 e Y) a2 w2:=a4 μ2 a2 w2 hd2 ht2 (O.mono hp2.ext) hp2.wrel (lc hp2 A.next V)
    intro b k cs
    obtain⟨e3,a3,w3,q,r⟩:=hl b k cs
    exact⟨e3,a3,w3,After.trans hp2 A.next al.next _ _ _ q,r⟩
   |exit i=>
    simp only[gf,a00,a04]at h
    obtain⟨rfl,rfl⟩:=h
    refine⟨A,fun μ a w hd E O U V=>LoopWp.round ?_⟩
    refine wp_mono (T μ a w hd E O U V).wp ?_
    rintro e2 a2 w2 ⟨rfl,hrest⟩
    exact⟨rfl,hrest⟩
   |ret=>
    simp only[gf,a00,a04]at h
    obtain⟨rfl,rfl⟩:=h
    refine⟨A,fun μ a w hd E O U V=>LoopWp.round ?_⟩
    refine wp_mono (T μ a w hd E O U V).wp ?_
    rintro e2 a2 w2 ⟨rfl,hrest⟩
    exact⟨rfl,hrest⟩
 |exit id=>
  intro s e Y h Z
  rw[lj]at h
  simp only[a00,a04]at h
  obtain⟨rfl,rfl⟩:=h
  exact⟨Ext.refl _,fun μ a w hd E O U _=>wp_exit ⟨rfl,hd,μ,Post.refl U,E⟩⟩
 |ret=>
  intro s e Y h Z
  rw[execC_ret]at h
  simp only[a00,a04]at h
  obtain⟨rfl,rfl⟩:=h
  exact⟨Ext.refl _,fun μ a w hd E O U _=>wp_ret ⟨rfl,hd,μ,Post.refl U,E⟩⟩
 |rangeFunc f ps x y _ _=>intro s e Y h;cases h
 |scope x _=>intro s e Y h;cases h
 |label l=>intro s e Y h;cases h
 |goto l=>intro s e Y h;cases h
 |refuse m=>intro s e Y h;cases h
theorem gX: ∀(args:List Value) (i:Nat) (t:Tr Value) (k:Nat),cy (eS i args t) k=if i<=k/\k<i+args.length then args.getD (k-i) undef else cy t k
 | [],i,t,k=>by rw[if_neg (by simp only[a05];omega)];rfl
 |v::l,i,t,k=>by
  simp only[eS];rw[gX l (i+1) _ k];by_cases A:i+1<=k/\k<i+1+l.length
  ·rw[if_pos A,if_pos (by simp only[a03];omega),show k-i=(k-(i+1))+1 by omega];rfl
  rw[if_neg A,fZ];by_cases E:i=k
  ·subst E;rw[if_pos rfl,if_pos (by simp only[a03];omega)];simp
  rw[if_neg E,if_neg (by simp only[a03];omega)]
theorem args_rel{μ:Emb}{args:List Value}{A:Array Value}(h:LRel μ args A.toList)(n:Nat):
  TRel μ (eS 0 args .nil) (Nat.max args.length n) (A++Array.replicate (n-A.size) undef):=by
 have T:args.length=A.size:=by rw[h.1];simp
 refine⟨by simp only[Array.size_append,Array.size_replicate];rw[T];show _=max _ _;omega,fun i=>?_⟩
 rw[gX]
 simp only[a0B,true_and,a0R,Nat.sub_zero,lget_nil,a0K,Array.getElem?_append]
 by_cases hi:i<args.length
 ·rw[if_pos hi,if_pos (by omega)];have E:args[i]?=some args[i]:=a08 hi;obtain⟨v',O,U⟩:=h.get E;have:A[i]?=some v':=by simpa using O
  rw[this,a09,E];exact U
 rw[if_neg hi,if_neg (by omega)]
 rw[Array.getElem?_replicate]
 split
 ·exact VRel.undef
 exact VRel.undef
theorem gK{μ:Emb}{s:St}{a:Array Value}{w:World}(E:TRel μ s.tmps s.size a)(U:WRel μ s.heap w): ∀(rs:List ResultVar) (l:List Value),cx P s rs=some l->
  ∃l',(rs.mapM (m:=Sem) fun| .tmp t=>Pure.pure (a.getD t undef)| .cell x t=>do loadVar t (←asAddr (a.getD x undef))).run P w= .ok l' w/\LRel μ l l'
 | [],l,h=>by simp only[cx,a00]at h;subst h;exact⟨[],by simp,.nil⟩
 | .tmp t::rs,l,h=>by
  unfold cx at h;split at h
  ·rename_i l1 O;injection h with h;subst h;obtain⟨l',A,T⟩:=gK E U rs l1 O;exact⟨a.getD t undef::l',by simp only[List.mapM_cons,Sem.run_bind,Sem.run_pure,Result.andThen_ok,A],.cons (E.2 t) T⟩
  cases h
 | .cell x t::rs,l,h=>by
  unfold cx at h;split at h
  ·rename_i p hp;split at h
   ·rename_i v l1 hv O;injection h with h;subst h;obtain⟨l',A,T⟩:=gK E U rs l1 O;have V:=E.2 x;rw[hp]at V;obtain⟨b,o,sp⟩:=p;have Z:sp=none:=V.ptr_some.1;subst Z;obtain⟨l0,hμ,an⟩:=V.ptr_inv;obtain⟨v',Y,al⟩:=gR (P:=P) U hμ hv;exact⟨v'::l',by simp only[List.mapM_cons,Sem.run_bind,an,show(asAddr (Value.pointer (some ⟨l0.c,l0.sh+o,none⟩))).run P w= .ok ⟨l0.c,l0.sh+o,none⟩ w from rfl,Sem.run_pure,Result.andThen_ok,Y,A],.cons al T⟩
   cases h
  cases h
theorem result_rel{μ:Emb}{l l':List Value}(h:LRel μ l l'):VRel μ (eg l) (if h:l'.toArray.size=1 then l'.toArray[0] else .tuple l'.toArray):=by
 match l,l',h with
 | [],l',h=>
  have:=h.nil_left
  subst this
  exact .tuple _ _ rfl (fun i v v' h=>by simp at h)
 | [v],l',h=>
  obtain⟨v',t,rfl,E,A⟩:=h.cons_left
  have:=A.nil_left
  subst this
  exact E
 |v::u::r,l',h=>
  obtain⟨v',t,rfl,E,A⟩:=h.cons_left
  obtain⟨V,U,rfl,T,O⟩:=A.cons_left
  simp only[List.size_toArray,a03,show ¬(U.length+1+1=1) by omega,dite_false]
  have:=LRel.cons E (LRel.cons T O)
  exact .tuple _ _ (by simpa[eg] using this.1) (by simpa[eg] using this.2)
theorem lT{μ:Emb}{s:St}{fn:Func}{a:Array Value}{w:World}(O:TRel μ s.tmps s.size a)(T:WRel μ s.heap w){l:List Value}(h:cx P s fn.results.toList=some l):
  ∃v',(results fn a).run P w= .ok v' w/\VRel μ (eg l) v':=by
 obtain⟨l',E,A⟩:=gK (P:=P) O T _ l h
 refine⟨_,?_,result_rel A⟩
 unfold results
 rw[Array.mapM_eq_mapM_toList]
 simp only[Sem.run_bind,Sem.run_map]
 have e: ∀(r:Result (List Value)),r= .ok l' w->((r.andThen fun a w'=>(.ok a.toArray w':Result (Array Value))).andThen fun vs w'=>((Pure.pure (if h:vs.size=1 then vs[0] else Value.tuple vs):Sem Value).run P w'))=
   .ok (if h:l'.toArray.size=1 then l'.toArray[0] else .tuple l'.toArray) w:=by
  intro r A;subst A;rfl
 exact e _ E
theorem callC_ok{ex:Code->St->Option (Ex×St)}(V:ExOK P G ex):dR P G (mn P ex):=by
 intro f args H v H' h al;unfold mn at h;split at h
 case h_2=>cases h
 rename_i fn Y;split at h
 case h_2=>cases h
 rename_i c hc;have U: ∀e s,(e=Ex.normal\/e=Ex.ret)->ex c {tmps:=eS 0 args .nil,size:=Nat.max args.length fn.ntmps,heap:=H}=some (e,s)->
   (match cx P s fn.results.toList with|some l=>some (eg l,s.heap)|none=>none)=some (v,H')->Ext H H'/\
   ∀μ w (A:Array Value),LRel μ args A.toList->GRel μ G->WRel μ H w->(∀b,H.next<=b->b<H'.next->μ b=none)->
    Calls P f A w fun e w'=> ∃μ' v',e= .returned v'/\VRel μ' v v'/\Post μ H w μ' H' w':=by
  intro e s he T E
  split at E
  ·rename_i l hl;simp only[a00,a04]at E;obtain⟨rfl,rfl⟩:=E;obtain⟨ext,an⟩:=V c _ e s T al;refine⟨ext,fun μ w A ha hG hw hf=>?_⟩;refine calls_of_wp Y hc ?_;refine wp_mono (an μ {tmps:=A++Array.replicate (fn.ntmps-A.size) undef,defers:=[]} w rfl (args_rel ha fn.ntmps) hG hw hf).wp ?_;rintro e2 a2 w2 ⟨rfl,hd,μ',hp,ht⟩;obtain⟨v',O,Z⟩:=lT (P:=P) (fn:=fn) ht hp.wrel hl;rcases he with rfl|rfl
   ·exact⟨hd,v',O,μ',v',rfl,Z,hp⟩
   exact⟨hd,v',O,μ',v',rfl,Z,hp⟩
  cases E
 split at h
 ·rename_i s T;exact U .normal s (.inl rfl) T h
 ·rename_i s T;exact U .ret s (.inr rfl) T h
 cases h
def gk(P:Program)(G:Nat)(K:bp):Prop:= ∀f args H v,K f args H=some v->args.all noA2=true/\noA2 v=true/\∀(μ:Emb) (A:Array Value) (w:World),A.toList=args->GRel μ G->WRel μ H w->
 Calls P f A w fun e w'=>e= .returned v/\Below w.heap.size w w'
theorem LRel.eq2{μ:Emb}{l l':List Value}(h:LRel μ l l')(A:l.all noA2=true):l'=l:=by
 induction l generalizing l' with
 |nil=>exact h.nil_left
 |cons v l ih=>
  obtain⟨v',T,rfl,O,E⟩:=h.cons_left
  simp only[a0s,a02]at A
  rw[O.eq2 A.1,ih E A.2]
theorem LRel.refl2{μ:Emb}{l:List Value}(h:l.all noA2=true):LRel μ l l:=by refine⟨rfl,fun i v v' E A=>?_⟩;rw[E]at A;injection A with A;subst A;exact VRel.refl2 (a0j.1 h v (a0q E))
theorem callK_ok{K:bp}{cf:ck}(hK:gk P G K)(U:dR P G cf):dR P G (km K cf):=by
 intro f args H v H' h Z;unfold km at h;split at h
 ·rename_i u hu;simp only[a00,a04]at h;obtain⟨rfl,rfl⟩:=h;obtain⟨h1,h2,h3⟩:=hK f args H u hu;refine⟨Ext.refl _,fun μ w A ha hG T hf=>?_⟩;refine(h3 μ A w (ha.eq2 h1) hG T).mono ?_;rintro e w' ⟨rfl,hb⟩;refine⟨μ,u,rfl,VRel.refl2 h2,⟨fun _ _ h=>h,fun _ _ h=> .inl h,hb.size,hb.os,hb.tape,hb.output,fun c hc _=>hb.block c hc,fun b l o E O h6=> .inr ⟨b,l,o,E,O,h6,id,rfl⟩,⟨fun b l o E O=>?_,T.inj⟩⟩⟩;have Y:=T.obj b l o E O;exact Y.keep (fun _ _ h=>h) hb.size (fun V=>hb.block l.c (Y.lt V))
 exact U f args H v H' h Z
theorem exec_ok{K:bp}(A:gk P G K): ∀n,ExOK P G (lm P G K n)
 |0=>fun c s e E h=>by cases h
 |n+1=>execC_ok (exec_ok A n) (callK_ok A (callC_ok (exec_ok A n)))
theorem call_ok{K:bp}(A:gk P G K)(n:Nat):dR P G (call P G K n):=callK_ok A (callC_ok (exec_ok A n))
theorem none_ok:gk P G noneKnown:=fun f args H v h=>by cases h
theorem ml{K:bp}(U:gk P 0 K){n:Nat}{f:FuncId}{args:List Value}{v:Value}{H':Heap}(ha:args.all noA2=true)(Y:noA2 v=true)
  (h:call P 0 K n f args Heap.empty=some (v,H')) (A:Array Value) (w:World) (hc:A.toList=args):
  Calls P f A w fun e w'=>e= .returned v/\Below w.heap.size w w':=by
 have T:WF Heap.empty:=fun b _=>rfl
 obtain⟨_,E⟩:=call_ok (G:=0) U n f args Heap.empty v H' h T
 have O:WRel (fun _=>none) Heap.empty w:=⟨fun b l o hb=>(by cases hb),fun Z b2 l1 l2 o1 o2 _ hb=>(by cases hb)⟩
 refine(E (fun _=>none) w A (by rw[hc];exact LRel.refl2 ha) (fun g hg=>by omega) O (fun _ _ _=>rfl)).mono ?_
 rintro e w' ⟨μ',v',rfl,hr,hp⟩
 rw[hr.eq2 Y]
 refine⟨rfl,hp.os,hp.tape,hp.out,hp.grow,fun k V=>hp.keep k V fun b l o hb=>by cases hb⟩
end
end Go.R
namespace Go.R
open Go.RowKit
theorem walk_of_eval{P:Program}{K:bp}(E:gk P 0 K){n:Nat}{f:FuncId}(h:saysTrue (call P 0 K n f [] Heap.empty)=true)(w:World):
  Calls P f #[] w fun e w'=>e= .returned (.bool true)/\Below w.heap.size w w':=by
 revert h
 cases hc:call P 0 K n f [] Heap.empty with
 |none=>intro h;cases h
 |some r=>
  obtain⟨v,H'⟩:=r
  intro h
  have O:v= .bool true:=by
   unfold saysTrue at h;split at h
   ·rename_i A;simp only[a00,a04]at A;exact A.1
   cases h
  subst O
  exact ml E rfl rfl hc #[] w rfl
open Go.WideShapes Go.ChangeShapes in
theorem lU{H:Type}{enc:TypeId×Value->H}{P:Program}{f:Func}{s:ChangeSpec}{O a2 Z a1:Bool}{W Y:World}{args:Array Value}{v:Value}{ds gs:List (DataW H)}{A pa pv:List MemPlace}
  (hW:DataW.Whole enc P f.params.toList s.vars O W args.toList ds gs A)
  (ax: ∀(b:Nat) (sp:Nat->Bool) (hd:Bool),DataW.TrodAll enc P Y b sp hd f.resultTypes.toList (v.resultList f.resultTypes.size) (s.fn H (ds++gs)).results [])
  (T: ∀sp:Nat->Bool,(∀p∈A,sp p.block=true)->DataW.TrodAll enc P Y 0 sp true f.params.toList args.toList (s.fn H (ds++gs)).args pa)
  (V: ∀sp:Nat->Bool,(∀p∈A,sp p.block=true)->DataW.TrodVars enc P Y sp s.vars (s.fn H (ds++gs)).vars pv)
  (U:A=pa++pv) (hb:Below W.heap.size W Y)
  (a8: ∀(j:Nat) (t:TypeId) (r:Value),f.resultTypes[j]?=some t->(v.resultList f.resultTypes.size)[j]?=some r->Value.okWide P Y .any 0 t r):
  s.post enc P f O a2 Z a1 W args v Y:=by
 have ar: ∀p∈A,(fun b=>decide (b<W.heap.size)) p.block=true:=fun p E=>by simpa using hW.lt p E
 have a7: ∀p∈A,p.block<W.heap.size:=fun p E=>by simpa using hW.lt p E
 refine⟨ds,gs,A,[],pa,pv,hW,ax _ _ _,T _ ar,V _ ar,World.keptBut_mono (fun p E=>⟨E,?_⟩) (hb.frame (· ∈A)),fun _=>?_⟩
 ·rw[U,a0e]at E;exact Or.inr E
 obtain⟨_,_,_,_,_,hz,hn⟩:=hW
 refine⟨a8,_,_,([]++pa)++pv,⟨[]++pa,pv,trodAll_append (T _ (fun _ _=>rfl)) (ax _ _ _),V _ (fun _ _=>rfl),rfl,?_,?_⟩,?_⟩
 ·intro b off E;have a4:MemPlace.cell b off∈A:=by rw[U];simpa using E
  have h1:=hb.frozen (p:=⟨b,off,none⟩) (a7 _ a4);have h2:=hz b off a4;first|(rw[h1];exact h2)|(exact h1.trans h2)|(simp_all)
 ·intro ha;have:=hn ha;rw[U]at this;simpa using this
 intro p E _
 rw[U]
 simpa using E
end Go.R
noncomputable section
namespace Go.R
open Go.RowKit
section
variable {P:Program} {w:World} {base:Nat} {held:Bool} {enc:TypeId×Value->Unit}
def lit1(P:Program)(t:TypeId)(d:DataW Unit):Option Value:=
 match P.underlying t,d with
 |some .bool,.lit (.bool b)=>some (.bool b)
 |some (.int k),.lit (.int _ n)=>some (.int k n)
 |some .string,.lit (.string l)=>some (.string ⟨⟨l⟩⟩)
 |_,_=>none
def flatFs(P:Program):Nat->List Field->Bool
 |_,[]=>true
 |i,f::fs=>Nat.beq f.offset i&&Nat.beq (P.cellsOf f.type) 1&&flatFs P (i+1) fs
def litFs(P:Program):List Field->List (DataW Unit)->Option (List Value)
 | [],[]=>some []
 |f::fs,d::ds=>
  match lit1 P f.type d,litFs P fs ds with
  |some v,some l=>some (v::l)
  |_,_=>none
 |_,_=>none
def litRows(P:Program)(fs:List Field):List (DataW Unit)->Option (List (List Value))
 | []=>some []
 | .agg ds::r=>
  match litFs P fs ds,litRows P fs r with
  |some l,some m=>some (l::m)
  |_,_=>none
 |_::_=>none
end
end Go.R
end
namespace Go.R
def CfLe(cf cf':ck):Prop:= ∀f a H r,cf f a H=some r->cf' f a H=some r
def ExLe(ex A:Code->St->Option (Ex×St)):Prop:= ∀c s r,ex c s=some r->A c s=some r
section
variable {P:Program} {G:Nat} {cf cf':ck} {ops:Array Oper}
theorem step_mono(h:CfLe cf cf'){o:Oper}{s O:St}(hs:step P G cf ops o s=some O):step P G cf' ops o s=some O:=by
 unfold step at hs⊢;cases E:aW ops o s.tmps with
 |false=>rw[E]at hs;exact hs
 |true=>
  rw[E]at hs
  cases A:o.op.operands.toList.all (bg G) with
  |false=>rw[A]at hs;cases hs
  |true=>
   rw[A]at hs
   simp only[cond_true]at hs⊢
   split at hs
   ·exact hs
   ·exact hs
   ·split at hs
    ·rename_i v T hc;rw[h _ _ _ _ hc];exact hs
    cases hs
   cases hs
theorem gJ(h:CfLe cf cf'): ∀(l:List Oper) (s A:St),fC P G cf ops l s=some A->fC P G cf' ops l s=some A
 | [],_,_,hs=>hs
 |o::l,s,A,hs=>by
  rw[bP]at hs⊢;split at hs
  ·rename_i t E;rw[step_mono h E];exact gJ h l _ _ hs
  cases hs
theorem stepD_mono(h:CfLe cf cf'){o:Oper}{s:St}{r:St×Inf}(hs:gG P G cf ops o s=some r):gG P G cf' ops o s=some r:=by
 unfold gG at hs⊢;split at hs
 ·rename_i t A;rw[step_mono h A];exact hs
 cases hs
theorem eK(h:CfLe cf cf'): ∀(l:List Oper) (i:Nat) (fs:List (Nat×Inf)) (s s':St),bd P G cf ops i fs l s=some s'->bd P G cf' ops i fs l s=some s'
 | [],_,_,_,_,hs=>by unfold bd at hs⊢;exact hs
 |o::l,i,fs,s,s',hs=>by
  unfold bd at hs⊢;split at hs
  ·rename_i t f E;rw[stepD_mono h E];simp only;cases A:bU (cj ops) i f fs with
   |false=>rw[A]at hs;cases hs
   |true=>rw[A]at hs;simp only[cond_true]at hs⊢;exact eK h l _ _ _ _ hs
  cases hs
theorem kF(h:CfLe cf cf'){A:Bool}{s O:St}(hs:bF P G cf ops A s=some O):bF P G cf' ops A s=some O:=by
 unfold bF at hs⊢;cases A with
 |false=>exact gJ h _ _ _ hs
 |true=>
  simp only[cond_true]at hs⊢
  cases E:jV ops&&P.follows .mixedOrders with
  |false=>rw[E]at hs;cases hs
  |true=>rw[E]at hs;simp only[cond_true]at hs⊢;exact eK h _ _ _ _ _ hs
theorem gu{r O:Option (Ex×St)}{k E:St->Option (Ex×St)}(U: ∀x,r=some x->O=some x)(T: ∀s x,k s=some x->E s=some x){x:Ex×St}(h:gf r k=some x):gf O E=some x:=by
 cases A:r with
 |none=>rw[A]at h;cases h
 |some y=>
  rw[U y A]
  rw[A]at h
  obtain⟨e,s⟩:=y
  cases e with
  |normal=>exact T _ _ h
  |exit i=>exact h
  |ret=>exact h
theorem i5{id:Nat}{r E:Option (Ex×St)}(O: ∀x,r=some x->E=some x){x:Ex×St}(h:cO id r=some x):cO id E=some x:=by
 cases A:r with
 |none=>rw[A]at h;cases h
 |some y=>rw[O y A];rw[A]at h;exact h
theorem execC_mono(h:CfLe cf cf'){ex O:Code->St->Option (Ex×St)}(T:ExLe ex O)(c:Code): ∀(s:St) (x:Ex×St),eF P G ex cf c s=some x->eF P G O cf' c s=some x:=by
 induction c with
 |skip=>intro s x A;exact A
 |region id ops draw=>
  intro s x A
  rw[ge]at A⊢
  cases E:bF P G cf ops draw s with
  |none=>rw[E]at A;cases A
  |some t=>rw[kF h E];rw[E]at A;exact A
 |seq a b iha ihb=>
  intro s x A
  rw[ke]at A⊢
  exact gu (iha s) ihb A
 |cond c t e iht ihe=>
  intro s x A
  rw[iN]at A⊢
  cases E:bg G c with
  |false=>rw[E]at A;cases A
  |true=>
   rw[E]at A
   simp only[cond_true]at A⊢
   unfold ln at A⊢
   split at A
   ·rename_i b hb;cases b with
    |true=>exact iht s x A
    |false=>exact ihe s x A
   cases A
 |block id b ih=>
  intro s x A
  rw[gV]at A⊢
  exact i5 (ih s) A
 |loop b ih=>
  intro s x A
  rw[iM]at A⊢
  exact gu (ih s) (T _) A
 |exit id=>intro s x A;exact A
 |ret=>intro s x A;exact A
 |_=>intro s x A;cases A
theorem lA{ex A:Code->St->Option (Ex×St)}(E:ExLe ex A):CfLe (mn P ex) (mn P A):=by
 intro f a H r h;unfold mn at h⊢;split at h
 ·split at h
  ·split at h
   ·rename_i s O;rw[E _ _ _ O];exact h
   ·rename_i s O;rw[E _ _ _ O];exact h
   cases h
  cases h
 cases h
theorem lz{K:bp}(h:CfLe cf cf'):CfLe (km K cf) (km K cf'):=by
 intro f a H r A;unfold km at A⊢;split at A
 ·exact A
 exact h _ _ _ _ A
theorem im{K:bp}: ∀n,ExLe (lm P G K n) (lm P G K (n+1))
 |0=>fun c s r h=>by cases h
 |n+1=>fun c s r h=>execC_mono (lz (lA (im n))) (im n) c s r h
theorem io{K:bp}{n m:Nat}(h:n<=m):ExLe (lm P G K n) (lm P G K m):=by
 induction h with
 |refl=>exact fun _ _ _ h=>h
 |step _ ih=>exact fun c s r h=>im _ c s r (ih c s r h)
theorem e9{K:bp}{n m:Nat}(h:n<=m):CfLe (call P G K n) (call P G K m):=lz (lA (io h))
end
end Go.R
