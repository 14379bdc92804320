/-
The evaluator is sound: regions, code, calls, laws.
-/
import Derived.Test.YtkpgbdkkgcdhmaaZNRA
import Derived.Below
import Derived.ChangeSame
import Derived.ChangeArms
namespace Go.R
structure Ext(H H':Heap):Prop where
 next:H.next<=H'.next
 log: ∃d,H'.log=d++H.log/\∀b,b<H.next->b∉d->H'.get b=H.get b
 far: ∀b,H'.next<=b->H'.get b=H.get b
theorem Ext.refl(H:Heap):Ext H H:=⟨a08 _,⟨[],V,fun _ _ _=>rfl⟩,fun _ _=>rfl⟩
theorem Ext.trans{H H1 O:Heap}(h:Ext H H1)(k:Ext H1 O):Ext H O:=by
 obtain⟨U,e1,g1⟩:=h.log;obtain⟨Z,e2,g2⟩:=k.log;refine⟨a0a h.next k.next,⟨Z++U,by rw[e2,e1,a0c],fun b A E=>?_⟩,fun b A=>?_⟩
 ·rw[a0i,not_or]at E;rw[g2 b (a10 A h.next) E.1,g1 b A E.2]
 rw[k.far b A,h.far b (a0a k.next A)]
theorem Ext.push(H:Heap)(o:AObj):Ext H (H.push o):=by refine⟨by simp,⟨[],V,fun b A _=>Heap.get_push_ne H o M⟩,fun b A=>Heap.get_push_ne H o ?_⟩;simp at A;omega
theorem Ext.put{H:Heap}{b:Nat}(o:AObj)(E:b<H.next):Ext H (H.put b o):=by refine⟨a08 _,⟨[b],V,fun k _ A=>Heap.get_put_ne H o (fun e=>A (by simp[e]))⟩,fun k A=>Heap.get_put_ne H o ?_⟩;simp at A;omega
def WF(H:Heap):Prop:= ∀b,H.next<=b->H.get b=none
theorem WF.ext{H H':Heap}(h:WF H)(e:Ext H H'):WF H':=fun b A=>by rw[e.far b A];exact h b (a0a e.next A)
theorem WF.lt{H:Heap}(h:WF H){b:Nat}{o:AObj}(A:H.get b=some o):b<H.next:=by
 rcases a0s b H.next with hl|hl
 ·exact hl
 rw[h b hl]at A;cases A
section ext
variable {P:Program} {H H':Heap}
def ER(H:Heap){α:Type}(r:Option (α×Heap)):Prop:= ∀a H',r=some (a,H')->Ext H H'
theorem ER.none_{α:Type}:ER H (none:Option (α×Heap)):=fun _ _ h=>by cases h
theorem ER.some_{α:Type}{a:α}{H1:Heap}(h:Ext H H1):ER H (some (a,H1)):=fun _ _ e=>by injection e with e;injection e with _ e;subst e;exact h
theorem ER.same{α:Type}{a:α}:ER H (some (a,H)):=ER.some_ (Ext.refl H)
theorem ER.bif_{α:Type}{c:Bool}{x y:Option (α×Heap)}(h:ER H x)(k:ER H y):ER H (bif c then x else y):=by cases c<;>assumption
def EO(H:Heap)(r:Option Heap):Prop:= ∀H',r=some H'->Ext H H'
theorem EO.none_:EO H none:=fun _ h=>by cases h
theorem EO.some_{H1:Heap}(h:Ext H H1):EO H (some H1):=fun _ e=>by injection e with e;subst e;exact h
theorem EO.bif_{c:Bool}{x y:Option Heap}(h:EO H x)(k:EO H y):EO H (bif c then x else y):=by cases c<;>assumption
theorem ER.ovl_(r:Option Value):ER H (ovl r H):=by unfold ovl;split;exact ER.same;exact ER.none_
theorem ER.ovh_{r:Option (Value×Heap)}(h:ER H r):ER H (ovh r):=by
 unfold ovh;split
 ·rename_i v A;exact ER.some_ (h v A V)
 exact ER.none_
theorem ER.osk_{r:Option Heap}(h:EO H r):ER H (osk r):=by
 unfold osk;split
 ·rename_i A;exact ER.some_ (h A V)
 exact ER.none_
theorem ER.lift_(s:Sem Value):ER H (lift P s H):=by unfold lift;split;exact ER.same;exact ER.none_
theorem ER.plain_(ρ:Operand->Value)(o:Oper):ER H (bG P ρ o H):=by
 unfold bG;refine ER.bif_ ?_ ER.none_;split
 ·exact ER.bif_ ER.same ER.none_
 exact ER.none_
theorem iL(E:WF H)(a:Addr)(vs:List Value):EO H (H.storeL a vs):=by
 unfold Heap.storeL;split
 ·split
  ·rename_i A;exact EO.bif_ (EO.some_ (Ext.put _ (E.lt A))) EO.none_
  exact EO.none_
 exact EO.none_
theorem append_ext(E:WF H)(types:Array TypeId)(s x:Value):ER H (fK P types s x H):=by
 unfold fK;split
 case h_2=>exact ER.none_
 split
 case h_2=>exact ER.none_
 split
 ·exact ER.none_
 split
 case h_2=>exact ER.none_
 split
 ·exact ER.none_
 split
 ·exact ER.bif_ ER.same (ER.bif_ (ER.some_ (Ext.push _ _)) ER.none_)
 ·split
  ·rename_i U;refine ER.bif_ (ER.bif_ ER.same ?_) (ER.bif_ ?_ ER.none_)
   ·split
    ·rename_i O A;exact ER.some_ (iL E _ _ O A)
    exact ER.none_
   split
   ·exact ER.none_
   split
   ·exact ER.some_ (Ext.push _ _)
   exact ER.bif_ (ER.some_ ((Ext.put .dead (E.lt U)).trans (Ext.push _ _))) ER.none_
  exact ER.none_
 exact ER.none_
theorem copy_ext(O:WF H)(types:Array TypeId)(d s:Value):ER H (aCopy P types d s H):=by
 unfold aCopy;split
 case h_2=>exact ER.none_
 split
 case h_2=>exact ER.none_
 split
 case h_2=>exact ER.none_
 refine ER.bif_ ER.same ?_;split
 ·split
  ·rename_i E A;exact ER.some_ (iL O _ _ E A)
  exact ER.none_
 exact ER.none_
theorem kV(E:WF H)(t:TypeId)(m k v:Value):EO H (eo P t m k v H):=by
 unfold eo;split
 ·split
  ·split
   ·rename_i A;exact EO.bif_ (EO.some_ (Ext.put _ (E.lt A))) EO.none_
   exact EO.none_
  exact EO.none_
 exact EO.none_
theorem aop_er(A:WF H)(ρ:Operand->Value)(o:Oper):ER H (aop P ρ o H):=by
 unfold aop;split
 ·exact ER.same
 ·exact ER.same
 ·unfold fY;split;exact ER.same;exact ER.none_
 ·unfold eG;split;exact ER.some_ (Ext.push _ _);exact ER.none_
 ·exact ER.some_ (Ext.push _ _)
 ·unfold gU;split;exact ER.lift_ _;exact ER.none_
 ·unfold bD;split
  ·refine ER.bif_ ?_ ER.none_;split
   ·exact ER.some_ (Ext.push _ _)
   exact ER.none_
  exact ER.none_
 ·unfold ep;split;exact ER.ovl_ _;exact ER.none_
 ·unfold e9;split
  ·split
   ·exact ER.bif_ (ER.osk_ (iL A _ _)) ER.none_
   exact ER.none_
  exact ER.none_
 ·unfold opNil;split;exact ER.same;exact ER.same;exact ER.none_
 ·unfold aBin;split
  ·unfold binInt;split;exact ER.ovl_ _;exact ER.none_
  ·unfold binStr;split;exact ER.ovl_ _;exact ER.none_
  unfold mK;split
  ·exact ER.plain_ _ _
  ·exact ER.plain_ _ _
  intro a H' h;rw[(iQ h).1];exact Ext.refl _
 ·unfold eX;split;exact ER.ovl_ _;exact ER.ovl_ _;exact ER.plain_ _ _
 ·exact ER.same
 ·exact ER.some_ (Ext.push _ _)
 ·refine ER.ovh_ ?_;unfold aMake;split
  ·split
   ·exact ER.bif_ (ER.some_ (Ext.push _ _)) ER.none_
   exact ER.none_
  exact ER.none_
 ·exact ER.ovl_ _
 ·exact ER.ovl_ _
 ·exact ER.ovl_ _
 ·exact ER.ovl_ _
 ·unfold kD;split;exact ER.ovl_ _;exact ER.lift_ _
 ·exact ER.ovl_ _
 ·exact ER.osk_ (kV A _ _ _ _)
 ·exact ER.osk_ (kV A _ _ _ _)
 ·refine ER.ovh_ ?_;unfold aRange;split;exact ER.some_ (Ext.push _ _);exact ER.none_
 ·refine ER.ovh_ ?_;unfold aNext;split
  ·split
   ·rename_i E;exact ER.bif_ (ER.some_ (Ext.put _ (A.lt E))) ER.same
   exact ER.none_
  exact ER.none_
 ·exact ER.ovl_ _
 ·unfold opCall;split
  ·unfold mR;split
   ·unfold bLen;split;exact ER.ovl_ _;exact ER.none_
   ·unfold bAppend;split;exact ER.ovh_ (append_ext A _ _ _);exact ER.none_
   ·unfold bCopy;split;exact ER.ovh_ (copy_ext A _ _ _);exact ER.none_
   ·exact ER.plain_ _ _
   ·exact ER.plain_ _ _
   exact ER.none_
  ·unfold fD;split;exact ER.same;exact ER.none_
  exact ER.none_
 ·unfold aUn;split
  ·split;exact ER.same;exact ER.none_
  exact ER.plain_ _ _
 exact ER.none_
theorem mN(A:WF H){ρ:Operand->Value}{o:Oper}{r:AN}(h:aop P ρ o H=some (r,H')):Ext H H':=aop_er A ρ o r H' h
end ext
section
variable {P:Program} {μ:Emb} {H H':Heap} {w:World}
theorem two_of{l:List Value}{a b:Value}{A:Array Value}(h:LRel μ l A.toList)(he:l=[a,b]): ∃E O,A= #[E,O]/\VRel μ a E/\VRel μ b O:=by subst he;obtain⟨E,t,Z,ha,ht⟩:=h.cons_left;obtain⟨O,t2,h2,hb,U⟩:=ht.cons_left;have:=U.nil_left;subst this h2;exact⟨E,O,a12.1 (by rw[Z]),ha,hb⟩
theorem one_of{l:List Value}{a:Value}{A:Array Value}(h:LRel μ l A.toList)(Z:l=[a]): ∃E,A= #[E]/\VRel μ a E:=by subst Z;obtain⟨E,t,O,U,ht⟩:=h.cons_left;have:=ht.nil_left;subst this;exact⟨E,a12.1 (by rw[O]),U⟩
theorem OpOK.of_value{s:Sem Next}{v v':Value}(h: ∀w,s.run P w= .ok (.value v') w)(E:WRel μ H w)(A:VRel μ v v'):OpOK P μ H w s (.val v) H:=
 ⟨.value v',w,μ,h w,Post.refl E,A⟩
theorem fC{ρ ρ':Operand->Value}{x:Option Operand}(h: ∀y,x=some y->VRel μ (ρ y) (ρ' y)):
  (∀v,x.map ρ=some v->∃v',x.map ρ'=some v'/\VRel μ v v')/\(x.map ρ=none->x.map ρ'=none):=by
 cases x with
 |none=>exact⟨fun v A=>by simp at A,fun _=>rfl⟩
 |some y=>exact⟨fun v A=>by simp at A;subst A;exact⟨_,V,h y V⟩,fun E=>by simp at E⟩
set_option maxHeartbeats 4000000 in
theorem gp{ρ ρ':Operand->Value}{o:Oper}{r:AN}(U: ∀x∈o.op.operands,VRel μ (ρ x) (ρ' x))(Z:WRel μ H w)
  (hf: ∀b,H.next<=b->b<H'.next->μ b=none) (h:aop P ρ o H=some (r,H')):OpOK P μ H w (execOp ρ' o) r H':=by
 cases hk:aO o.op with
 |true=>
  obtain⟨rfl,v,v',rfl,A,hr⟩:=jR hk U h
  exact OpOK.of_value A Z hr
 |false=>
  obtain⟨a0,op,type,pos,after,al⟩:=o
  cases op<;>simp only[aO,reduceCtorEq]at hk
  case alloc e=>
   have E:eG P e H=some (r,H'):=h
   have:=alloc_sound Z hf E
   exact this
  case box e x=>
   have E:some (AN.val (ptrTo H.next),aL H (ρ x).cells.toList none)=some (r,H'):=h
   simp only[a03,a04]at E
   obtain⟨rfl,rfl⟩:=E
   have:=box_sound (P:=P) (e:=e) Z (hf H.next (a08 _) (by simp[aL])) (U x (by simp[Op.operands]))
   exact this
  case buildSlice t n parts=>
   have E:bD P t n (dJ (fun p=>(p.1,ρ p.2)) parts.toList) H=some (r,H'):=h
   rw[gV]at E
   have:=ju (ps':=parts.map fun(i,x)=>(i,ρ' x)) Z hf (by simp) (fun i x x' h1 h2=>?_) E
   ·exact this
   simp only[a1Q,a1v,a1M]at h1 h2
   obtain⟨y,hy,rfl⟩:=h1
   obtain⟨z,hz,rfl⟩:=h2
   rw[hy]at hz;injection hz with hz;subst hz
   refine⟨V,U _ ?_⟩
   have:=a0q hy
   simp only[Op.operands,List.mem_toArray,a0w]
   exact⟨y,this,V⟩
  case load t a=>
   have E:ep P t (ρ a) H=some (r,H'):=h
   have:=load_sound Z (U a (by simp[Op.operands])) E
   exact this
  case store t a x=>
   have E:e9 P t (ρ a) (ρ x) H=some (r,H'):=h
   have:=store_sound Z (U a (by simp[Op.operands])) (U x (by simp[Op.operands])) E
   exact this
  case convert s d x=>
   have E:eX P ρ ⟨a0,.convert s d x,type,pos,after,al⟩ s d (ρ x) H=some (r,H'):=h
   exact mD (o:=⟨a0,.convert s d x,type,pos,after,al⟩) Z V U E
  case makeMap t rsv=>
   cases rsv with
   |some _=>simp[aop]at h
   |none=>
    have E:some (AN.val (.map (some H.next)),H.push (.tab []))=some (r,H'):=h
    simp only[a03,a04]at E
    obtain⟨rfl,rfl⟩:=E
    have:=ml (P:=P) t Z (hf H.next (a08 _) (by simp))
    exact this
  case makeSlice t l c=>
   have E:ovh (aMake P t (ρ l) (ρ c) H)=some (r,H'):=h
   have:=make_sound Z hf (U l (by simp[Op.operands])) (U c (by simp[Op.operands])) E
   exact this
  case slice t x lo hi mx=>
   obtain⟨a1,a2⟩:=fC (μ:=μ) (ρ:=ρ) (ρ':=ρ') (x:=lo) fun y hy=>U y (by subst hy;simp[Op.operands])
   obtain⟨b1,b2⟩:=fC (μ:=μ) (ρ:=ρ) (ρ':=ρ') (x:=hi) fun y hy=>U y (by subst hy;simp[Op.operands])
   obtain⟨_,c2⟩:=fC (μ:=μ) (ρ:=ρ) (ρ':=ρ') (x:=mx) fun y hy=>U y (by subst hy;simp[Op.operands])
   have E:ovl (bo P t (ρ x) (lo.map ρ) (hi.map ρ) (mx.map ρ) H) H=some (r,H'):=h
   have:=slice_sound Z (U x (by simp[Op.operands])) a1 a2 b1 b2 c2 E
   exact this
  case lookup t m k ok=>
   have E:ovl (cY P t (ρ m) (ρ k) ok H) H=some (r,H'):=h
   obtain⟨rfl,v,hv,rfl⟩:=ck E
   obtain⟨v',A,hr⟩:=lookup_sound (P:=P) Z (U m (by simp[Op.operands])) (U k (by simp[Op.operands])) hv
   have:=OpOK.value A (Post.refl Z) hr
   exact this
  case mapUpdate t m k x=>
   have E:osk (eo P t (ρ m) (ρ k) (ρ x) H)=some (r,H'):=h
   obtain⟨hu,rfl⟩:=mb E
   obtain⟨w',A,hp⟩:=iY (P:=P) Z (U m (by simp[Op.operands])) (U k (by simp[Op.operands])) (U x (by simp[Op.operands])) hu
   have:=OpOK.skip A hp
   exact this
  case insert t m k x=>
   have E:osk (eo P t (ρ m) (ρ k) (ρ x) H)=some (r,H'):=h
   obtain⟨hu,rfl⟩:=mb E
   obtain⟨w',A,hp⟩:=iY (P:=P) Z (U m (by simp[Op.operands])) (U k (by simp[Op.operands])) (U x (by simp[Op.operands])) hu
   have:=OpOK.skip A hp
   exact this
  case range t x=>
   have E:ovh (aRange P t (ρ x) H)=some (r,H'):=h
   have:=range_sound Z hf (U x (by simp[Op.operands])) E
   exact this
  case next it isS=>
   cases isS with
   |false=>simp[aop]at h
   |true=>
    have E:ovh (aNext H (ρ it))=some (r,H'):=h
    have:=next_sound (P:=P) (type:=type) Z (U it (by simp[Op.operands])) E
    exact this
  case call c=>
   obtain⟨ar,args,O⟩:=c
   have an:LRel μ (dJ ρ args.toList) (args.map ρ').toList:=by
    rw[gV];have:=jK (μ:=μ) (ops:=args) (ρ:=ρ) (ρ':=ρ') fun x hx=>U x (by simp[Op.operands,Call.operands];exact .inr hx)
    simpa using this
   have h:opCall P ρ ⟨a0,.call ⟨ar,args,O⟩,type,pos,after,al⟩ ⟨ar,args,O⟩ H=some (r,H'):=h
   unfold opCall at h
   cases ar with
   |invoke rv nm=>simp at h
   |value f=>
    simp only at h
    unfold fD at h
    split at h
    ·rename_i n hn;simp only[a03,a04]at h;obtain⟨rfl,rfl⟩:=h;obtain⟨i,b8,rfl,bf,A,hr⟩:=callee_sound (P:=P) (U f (by simp[Op.operands,Call.operands])) an hn;refine⟨.enter i bf,w,μ,?_,Post.refl Z,V,hr⟩;have:=A w;simpa only[execOp,resolve] using this
    cases h
   |builtin b=>
    simp only at h
    unfold mR at h
    have a3:bG P ρ ⟨a0,.call ⟨.builtin b,args,O⟩,type,pos,after,al⟩ H=some (r,H')->OpOK P μ H w (execOp ρ' ⟨a0,.call ⟨.builtin b,args,O⟩,type,pos,after,al⟩) r H':=by intro hp;obtain⟨rfl,v,v',rfl,A,hr⟩:=dB hp (fun _ _=>by simp) U;exact OpOK.of_value A Z hr
    split at h
    ·--len
     unfold bLen at h;split at h
     ·rename_i t x ht hx;obtain⟨x',a4,bb⟩:=one_of an hx;obtain⟨rfl,v,hv,rfl⟩:=ck h;obtain⟨A,hn⟩:=len_sound (P:=P) (ty:=type) Z bb hv;have a9:O= #[t]:=a12.1 (by rw[ht]);refine⟨.value v,w,μ,?_,Post.refl Z,.atom v hn⟩;simp only[execOp,resolve,Sem.run_bind,Sem.run_pure,Result.andThen_ok,invoke,builtin,a4,a9,A]
     cases h
    ·unfold bAppend at h;split at h
     ·rename_i t1 t2 s x ht hx;obtain⟨s',x',a4,ba,bb⟩:=two_of an hx;obtain⟨v,hv,rfl⟩:=j7 h;have a9:O= #[t1,t2]:=a12.1 (by rw[ht]);obtain⟨v',w',μ',A,hp,hr⟩:=append_sound (P:=P) (ty:=type) Z hf ba bb (by rw[a9];rfl) hv;refine⟨.value v',w',μ',?_,hp,hr⟩;simp only[execOp,resolve,Sem.run_bind,Sem.run_pure,Result.andThen_ok,invoke,builtin,a4,A]
     cases h
    ·unfold bCopy at h;split at h
     ·rename_i d s hx;obtain⟨d',s',a4,b3,ba⟩:=two_of an hx;obtain⟨v,hv,rfl⟩:=j7 h;obtain⟨v',w',A,hp,hr⟩:=copy_sound (P:=P) (ty:=type) Z b3 ba hv;refine⟨.value v',w',μ,?_,hp,hr⟩;simp only[execOp,resolve,Sem.run_bind,Sem.run_pure,Result.andThen_ok,invoke,builtin,a4,A]
     cases h
    ·exact a3 h
    ·exact a3 h
    cases h
  all_goals simp[aop]at h
end
end Go.R
namespace Go.R
@[simp] theorem lget_nil(i:Nat):cH .nil i=undef:=rfl
@[simp] theorem lget_lset_same(t:Tr Value)(d:Nat)(v:Value):cH (lset t d v) d=v:=by simp[cH,lset]
theorem lget_lset_ne(t:Tr Value){d k:Nat}(v:Value)(h:d≠k):cH (lset t d v) k=cH t k:=by simp[cH,lset,Tr.get_set_ne _ _ h]
theorem fZ(t:Tr Value)(d k:Nat)(v:Value):cH (lset t d v) k=if d=k then v else cH t k:=by
 by_cases h:d=k
 ·subst h;simp
 rw[if_neg h,lget_lset_ne t v h]
def TRel(μ:Emb)(t:Tr Value)(n:Nat)(a:Array Value):Prop:=a.size=n/\∀i,VRel μ (cH t i) (a.getD i undef)
def GRel(μ:Emb)(G:Nat):Prop:= ∀g,g<G->∃l,μ g=some l/\l.c=g/\l.sh=0
section
variable {P:Program} {G:Nat} {μ μ':Emb}
theorem TRel.mono(h: ∀b l,μ b=some l->μ' b=some l){t:Tr Value}{n:Nat}{a:Array Value}(A:TRel μ t n a):TRel μ' t n a:=⟨A.1,fun i=>(A.2 i).mono h⟩
theorem GRel.mono(h: ∀b l,μ b=some l->μ' b=some l)(Z:GRel μ G):GRel μ' G:=fun g A=>by obtain⟨l,E,O,U⟩:=Z g A;exact⟨l,h _ _ E,O,U⟩
theorem getD_set(a:Array Value)(d i:Nat)(v:Value):(a.setIfInBounds d v).getD i undef=if d=i/\d<a.size then v else a.getD i undef:=by
 simp only[a0M,a1b];by_cases h:d=i
 ·subst h;by_cases A:d<a.size
  ·simp[A]
  simp[A]
 simp[h]
theorem TRel.put{t:Tr Value}{n:Nat}{a:Array Value}(h:TRel μ t n a){d:Nat}(hd:d<n){v v':Value}(A:VRel μ v v'):TRel μ (lset t d v) n (a.setIfInBounds d v'):=by
 refine⟨by simp[h.1],fun i=>?_⟩;rw[fZ,getD_set];by_cases hi:d=i
 ·rw[if_pos hi,if_pos ⟨hi,by rw[h.1];exact hd⟩];exact A
 rw[if_neg hi,if_neg (fun e=>hi e.1)];exact h.2 i
theorem eval_of(Z:GRel μ G){tm:Tr Value}{a:Act}{x:Operand}(A:bu G x=true)(h: ∀t,x= .tmp t->VRel μ (cH tm t) (a.tmps.getD t undef)):
  VRel μ (cI tm x) (a.eval x):=by
 cases x with
 |tmp t=>exact h t V
 |const v=>exact VRel.refl2 A
 |global g=>
  obtain⟨l,E,O,U⟩:=Z g (a0d A)
  have:=VRel.ptr (μ:=μ) g 0 l E
  rw[O,U]at this;exact this
 |func f=>exact .atom _ V
theorem yield_eq{ops:Array Oper}{tm:Tr Value}{a:Array Value}{j:Nat}(h: ∀d,(ops[j]?).bind (·.dst)=some d->VRel μ (cH tm d) (a.getD d undef)):
  kQ ops tm j=yielded ops a j:=by
 unfold kQ yielded
 cases hd:(ops[j]?).bind (·.dst) with
 |none=>rfl
 |some d=>
  have A:=h d hd
  simp only[a0o]
  simp only[a0M]at A
  cases O:a[d]? with
  |none=>
   rw[O]at A
   simp only[Option.getD_none]at A
   have: ∀b,cH tm d≠ .bool b:=by intro b e;rw[e]at A;have:=A.bool_inv;cases this
   cases E:cH tm d<;>first|rfl|exact absurd E (this _)
  |some x=>
   rw[O]at A
   simp only[a1p]at A
   cases x with
   |bool b=>
    have:cH tm d= .bool b:=by generalize cH tm d=y at A;cases A;rfl
    rw[this]
   |_=>
    have: ∀b,cH tm d≠ .bool b:=by intro b e;rw[e]at A;have:=A.bool_inv;cases this
    cases E:cH tm d<;>first|rfl|exact absurd E (this _)
theorem wanted_eq{ops:Array Oper}{o:Oper}{tm:Tr Value}{a:Array Value}(h: ∀j w,o.guard=some (j,w)->∀d,(ops[j]?).bind (·.dst)=some d->VRel μ (cH tm d) (a.getD d undef)):
  aU ops o tm=Region.wanted o (yielded ops a):=by
 unfold aU Region.wanted
 cases A:o.guard with
 |none=>rfl
 |some p=>
  obtain⟨j,w⟩:=p
  simp only
  rw[yield_eq (h j w A)]
def el(P:Program)(G:Nat)(cf:cm):Prop:= ∀f args H v H',cf f args H=some (v,H')->WF H->Ext H H'/\
 ∀μ w (cargs:Array Value),LRel μ args cargs.toList->GRel μ G->WRel μ H w->(∀b,H.next<=b->b<H'.next->μ b=none)->
  Calls P f cargs w fun e w'=> ∃μ' v',e= .returned v'/\VRel μ' v v'/\Post μ H w μ' H' w'
noncomputable def dK (P : Program) (cf : cm) (ρ : Operand -> Value) (o : Oper) (H : Heap) : Option (Value × Heap) :=
 match aop P ρ o H with
 |some (.val v,h)=>some (v,h)
 |some (.skip,h)=>some (undef,h)
 |some (.enter f args,h)=>cf f args h
 |none=>none
theorem step_eq(cf:cm)(ops:Array Oper)(o:Oper)(s:St):step P G cf ops o s=
  bif aU ops o s.tmps then
   bif o.op.operands.toList.all (bu G) then
    match dK P cf (cI s.tmps) o s.heap with
    |some (v,h)=>{s with heap:=h}.put o.dst v
    |none=>none
   else none
  else s.put o.dst undef:=by
 unfold step dK
 cases aU ops o s.tmps with
 |false=>rfl
 |true=>
  cases o.op.operands.toList.all (bu G) with
  |false=>rfl
  |true=>
   simp only[cond_true]
   cases aop P (cI s.tmps) o s.heap with
   |none=>rfl
   |some p=>
    obtain⟨r,h⟩:=p
    cases r with
    |val v=>rfl
    |skip=>rfl
    |enter f args=>
     simp only
     cases cf f args h with
     |none=>rfl
     |some q=>rfl
theorem gS{s E:St}{A:Option Tmp}{v:Value}(h:s.put A v=some E):
  E.size=s.size/\E.heap=s.heap/\((A=none/\E.tmps=s.tmps)\/∃d,A=some d/\d<s.size/\E.tmps=lset s.tmps d v):=by
 unfold St.put at h
 split at h
 ·rename_i d;cases O:Nat.ble (d+1) s.size with
  |false=>rw[O]at h;cases h
  |true=>
   rw[O]at h;simp only[cond_true,a03]at h;subst h
   exact⟨V,V,.inr ⟨d,V,a0d O,V⟩⟩
 injection h with h;subst h;exact⟨V,V,.inl ⟨V,V⟩⟩
theorem lE{cf:cm}(Z:el P G cf){ρ:Operand->Value}{o:Oper}{H H':Heap}{v:Value}(E:WF H)(h:dK P cf ρ o H=some (v,H')):Ext H H':=by
 unfold dK at h;split at h
 ·rename_i u O A;simp only[a03,a04]at h;rw[←h.2];exact mN E A
 ·rename_i O A;simp only[a03,a04]at h;rw[←h.2];exact mN E A
 ·rename_i f args O A;have U:=mN E A;exact U.trans (Z f args O v H' h (E.ext U)).1
 cases h
theorem i9{cf:cm}(a7:el P G cf){ρ:Operand->Value}{o:Oper}{a:Act}{H H':Heap}{v:Value}{w:World}(a0:WF H)(hρ: ∀x∈o.op.operands,VRel μ (ρ x) (a.eval x))
  (hG:GRel μ G) (hw:WRel μ H w) (hf: ∀b,H.next<=b->b<H'.next->μ b=none) (h:dK P cf ρ o H=some (v,H')) {K:Act->World->Prop} {Q:Exit->Act->World->Prop}
  (hK: ∀μ' w' v',Post μ H w μ' H' w'->VRel μ' v v'->K (a.put o.dst v') w'):o.wp P a w K Q:=by
 unfold dK at h
 unfold Oper.wp
 split at h
 ·rename_i u h1 U;simp only[a03,a04]at h;obtain⟨rfl,rfl⟩:=h;obtain⟨n,w1,Z,A,E,O⟩:=gp hρ hw hf U;rw[A];cases n<;>first|exact hK Z w1 _ E O|exact O.elim
 ·rename_i h1 U;simp only[a03,a04]at h;obtain⟨rfl,rfl⟩:=h;obtain⟨n,w1,Z,A,E,O⟩:=gp hρ hw hf U;rw[A];cases n<;>first|exact hK Z w1 _ E VRel.undef|exact O.elim
 ·rename_i f args h1 U;have e1:=mN a0 U;obtain⟨e2,ax⟩:=a7 f args h1 v H' h (a0.ext e1);obtain⟨n,w1,Z,A,E,O⟩:=gp hρ hw (fun b al an=>hf b al (a10 an e2.next)) U;rw[A];cases n with
  |enter f' cargs=>
   obtain⟨rfl,ar⟩:=O
   rw[Oper.upon_enter]
   refine(ax Z w1 cargs ar (hG.mono E.ext) E.wrel (fun b al an=>?_)).mono ?_
   ·cases hb:Z b with
    |none=>rfl
    |some l=>
     rcases E.dom b l hb with hb0|⟨_,hb3⟩
     ·rw[hf b (a0a e1.next al) an]at hb0;cases hb0
     omega
   rintro e w2 ⟨μ2,v',rfl,hv,hp2⟩
   exact hK μ2 w2 v' (E.trans hp2 e1.next e2.next) hv
  |_=>exact O.elim
 cases h
theorem jz{cf:cm}(E:el P G cf){ops:Array Oper}{o:Oper}{s U:St}(hw:WF s.heap)(h:step P G cf ops o s=some U):Ext s.heap U.heap:=by
 rw[step_eq]at h;cases O:aU ops o s.tmps with
 |false=>rw[O]at h;rw[(gS h).2.1];exact Ext.refl _
 |true=>
  rw[O]at h
  cases A:o.op.operands.toList.all (bu G) with
  |false=>rw[A]at h;cases h
  |true=>
   rw[A]at h
   simp only[cond_true]at h
   split at h
   ·rename_i v h1 Z;rw[(gS h).2.1];exact lE E hw Z
   cases h
theorem fe(a:Act)(A:Option Tmp)(v:Value):(a.put A v).defers=a.defers:=by cases A<;>rfl
theorem put_rel{s O:St}{A:Option Tmp}{v v':Value}{a:Act}(h:s.put A v=some O)(Z:TRel μ s.tmps s.size a.tmps)(hv:VRel μ v v'):
  TRel μ O.tmps O.size (a.put A v').tmps:=by
 obtain⟨U,_,⟨rfl,E⟩|⟨d,rfl,hd,E⟩⟩:=gS h
 ·rw[U,E];exact Z
 rw[U,E];exact Z.put hd hv
theorem step_sound{cf:cm}(ax:el P G cf){ops:Array Oper}{i:Nat}{o:Oper}(ho:ops[i]?=some o){s O:St}{a:Act}{w:World}(a3:WF s.heap)(U:TRel μ s.tmps s.size a.tmps)
  (hG:GRel μ G) (hw:WRel μ s.heap w) (hf: ∀b,s.heap.next<=b->b<O.heap.next->μ b=none) (h:step P G cf ops o s=some O) {K:Act->World->Prop} {Q:Exit->Act->World->Prop}
  (hK: ∀μ' w' a',Post μ s.heap w μ' O.heap w'->TRel μ' O.tmps O.size a'.tmps->a'.defers=a.defers->K a' w'):wpOp P ops Q i K a w:=by
 unfold wpOp
 rw[ho]
 simp only
 have Z:aU ops o s.tmps=Region.wanted o (yielded ops a.tmps):=wanted_eq (μ:=μ) fun _ _ _ d _=>U.2 d
 rw[step_eq,Z]at h
 cases hq:Region.wanted o (yielded ops a.tmps) with
 |false=>
  rw[hq]at h
  simp only[cond_false]at h
  simp only[a0k,if_false]
  have A:=(gS h).2.1
  exact hK μ w _ (by rw[A];exact Post.refl hw) (put_rel h U VRel.undef) (fe _ _ _)
 |true=>
  rw[hq]at h
  simp only[if_true]
  left
  cases E:o.op.operands.toList.all (bu G) with
  |false=>rw[E]at h;cases h
  |true=>
   rw[E]at h
   simp only[cond_true]at h
   split at h
   ·rename_i v h1 he;have A:=(gS h).2.1;simp only at A;refine i9 ax a3 (fun x hx=>eval_of hG (a0y.1 E x (by simpa using hx)) fun t _=>U.2 t) hG hw (by rw[←A];exact hf) he ?_;intro μ' w' v' hp hv;have a1:TRel μ' s.tmps s.size a.tmps:=U.mono hp.ext;exact hK μ' w' _ (by rw[A];exact hp) (put_rel (s:={s with heap:=h1}) h a1 hv) (fe _ _ _)
   cases h
theorem iN{cf:cm}(E:el P G cf){ops:Array Oper}: ∀(l:List Oper) (s A:St),WF s.heap->fM P G cf ops l s=some A->Ext s.heap A.heap
 | [],s,A,_,h=>by rw[iM]at h;injection h with h;subst h;exact Ext.refl _
 |o::os,s,A,hw,h=>by
  rw[bS]at h;split at h
  ·rename_i Z U;have O:=jz E hw U;exact O.trans (iN E os Z A (hw.ext O) h)
  cases h
theorem i0{cf:cm}(E:el P G cf){ops:Array Oper}{Q:Exit->Act->World->Prop}: ∀(l:List Oper) (k:Nat) (s A:St),ops.toList.drop k=l->fM P G cf ops l s=some A->
  ∀(μ:Emb) (a:Act) (w:World),WF s.heap->TRel μ s.tmps s.size a.tmps->GRel μ G->WRel μ s.heap w->(∀b,s.heap.next<=b->b<A.heap.next->μ b=none)->
  (∀μ' w' a',Post μ s.heap w μ' A.heap w'->TRel μ' A.tmps A.size a'.tmps->a'.defers=a.defers->Q .normal a' w')->wpOps P ops Q (List.range' k l.length) a w
 | [],k,s,A,_,h,μ,a,w,hwf,ht,hG,hw,hf,hQ=>by rw[iM]at h;injection h with h;subst h;simp only[a02,List.range'_zero,wpOps];exact hQ μ w a (Post.refl hw) ht V
 |o::os,k,s,A,hd,h,μ,a,w,hwf,ht,hG,hw,hf,hQ=>by
  rw[bS]at h;split at h
  ·rename_i s1 h1;have Z:=jz E hwf h1;have e2:=iN E os s1 A (hwf.ext Z) h;have hk:k<ops.toList.length:=by
    rcases a0s k ops.toList.length with hl|hl
    ·exact hl
    rw[a1f hl]at hd;cases hd
   have an:=a0W hk;rw[hd]at an;injection an with h2 h3;have ho:ops[k]?=some o:=by
    have:ops.toList[k]?=some o:=by rw[a09 hk,←h2]
    simpa using this
   simp only[a01,List.range'_succ];rw[wpOps_cons];refine step_sound E ho hwf ht hG hw (fun b O U=>hf b O (a10 U e2.next)) h1 ?_;intro μ1 w1 a1 hp a6 a0;refine i0 E os (k+1) s1 A h3.symm h μ1 a1 w1 (hwf.ext Z) a6 (hG.mono hp.ext) hp.wrel (fun b O U=>?_) ?_
   ·cases hb:μ1 b with
    |none=>rfl
    |some l=>
     rcases hp.dom b l hb with hb0|⟨_,hb3⟩
     ·rw[hf b (a0a Z.next O) U]at hb0;cases hb0
     omega
   intro μ2 w2 a2 a5 a7 a3;exact hQ μ2 w2 a2 (hp.trans a5 Z.next e2.next) a7 (a3.trans a0)
  cases h
end
end Go.R
set_option linter.unusedVariables false
set_option linter.unusedSimpArgs false
namespace Go.R
def kN(l:List Nat)(o:Oper):Nat:=o.after.toList.foldl (fun s e=>bif Region.binds .any e then s|||2^e.on|||l.getD e.on 0 else s) 0
theorem hP: ∀(os:List Oper) (A:List Nat),∃t,ancs os A=A++t/\t.length=os.length
 | [],A=>⟨[],by simp[ancs],V⟩
 |o::os,A=>by obtain⟨t,h,E⟩:=hP os (A++[kN A o]);refine⟨kN A o::t,?_,by simp[E]⟩;show ancs os (A++[kN A o])=_;rw[h];simp
theorem ancs_at: ∀(os:List Oper) (A:List Nat) (k:Nat) (o:Oper),os[k]?=some o->
  (ancs os A).getD (A.length+k) 0=kN ((ancs os A).take (A.length+k)) o
 | [],A,k,o,h=>by simp at h
 |x::os,A,0,o,h=>by
  simp at h;subst h;obtain⟨t,h,_⟩:=hP os (A++[kN A x]);have e:ancs (x::os) A=A++([kN A x]++t):=by show ancs os (A++[kN A x])=_;rw[h];simp
  rw[e];simp
 |x::os,A,k+1,o,h=>by have ih:=ancs_at os (A++[kN A x]) k o (by simpa using h);have e:ancs (x::os) A=ancs os (A++[kN A x]):=rfl;rw[e];simp only[a00,a1i]at ih;rw[show A.length+(k+1)=A.length+1+k by omega];exact ih
theorem fold_bit(l:List Nat)(j:Nat): ∀(es:List Edge) (s:Nat),(es.foldl (fun s e=>bif Region.binds .any e then s|||2^e.on|||l.getD e.on 0 else s) s).testBit j=true->
  s.testBit j=true\/∃e∈es,Region.binds .any e=true/\(e.on=j\/(l.getD e.on 0).testBit j=true)
 | [],s,h=> .inl h
 |e::es,s,h=>by
  simp only[a1G]at h;rcases fold_bit l j es _ h with h1|⟨e',he,h2⟩
  ·cases A:Region.binds .any e with
   |false=>rw[A]at h1;exact .inl h1
   |true=>
    rw[A]at h1
    simp only[cond_true,Nat.testBit_or,a11]at h1
    rcases h1 with(h1|h1)|h1
    ·exact .inl h1
    ·rw[Nat.testBit_two_pow]at h1;exact .inr ⟨e,by simp,A,.inl (by simpa using h1)⟩
    exact .inr ⟨e,by simp,A,.inr h1⟩
  exact .inr ⟨e',by simp[he],h2⟩
theorem ordered_edge{ops:Array Oper}{j k:Nat}(h:aV (bY ops) j k=true):
  ∃o,ops[k]?=some o/\∃e∈o.after.toList,Region.binds .any e=true/\(e.on=j\/(e.on<k/\aV (bY ops) j e.on=true)):=by
 unfold aV at h
 have O:k<ops.toList.length:=by
  obtain⟨t,U,Z⟩:=hP ops.toList [];rcases a0s k ops.toList.length with hlt|hge
  ·exact hlt
  have:(bY ops).getD k 0=0:=by unfold bY;rw[U,a0e,a0b,a0H M];rfl
  rw[this]at h;simp at h
 have E:ops.toList[k]?=some ops.toList[k]:=a09 O
 have A:=ancs_at ops.toList [] k _ E
 simp only[a02,a0G]at A
 change (bY ops).getD k 0=kN ((bY ops).take k) _ at A
 rw[A]at h
 rcases fold_bit _ j _ 0 h with h1|⟨e,he,hb,h2⟩
 ·simp at h1
 refine⟨ops.toList[k],by rw[←a1O];exact E,e,he,hb,?_⟩
 rcases h2 with h2|h2
 ·exact .inl h2
 right
 rcases a0s e.on k with hlt|hge
 ·refine⟨hlt,?_⟩;unfold aV;rw[a0b,a0C,if_pos hlt,←a0b]at h2;exact h2
 rw[a0b,a0C,if_neg M]at h2
 simp at h2
def DC(ops:Array Oper)(S:Nat->Bool):Prop:= ∀(k:Nat) o,ops[k]?=some o->S k=true->∀e∈o.after.toList,Region.binds .any e=true->S e.on=true
theorem DC.anc{ops:Array Oper}{S:Nat->Bool}(h:DC ops S){j:Nat}: ∀(k:Nat),S k=true->aV (bY ops) j k=true->S j=true:=by
 intro k;induction k using Nat.strongRecOn with
 |_ k ih=>
  intro Z ho
  obtain⟨o,A,e,U,O,E⟩:=ordered_edge ho
  have hs:=h k o A Z e U O
  rcases E with rfl|⟨hlt,h2⟩
  ·exact hs
  exact ih e.on hlt hs h2
structure RegFacts(ops:Array Oper):Prop where
 back: ∀(j:Nat) o,ops[j]?=some o->∀e∈o.after.toList,Region.binds .any e=true->e.on<j
 pair: ∀(i j:Nat) x o,i<j->ops[i]?=some x->ops[j]?=some o->aV (bY ops) i j=true\/x.apart ops o=true
theorem regOK_facts{ops:Array Oper}(h:jp ops=true):RegFacts ops:=by
 unfold jp at h;simp only[a0y,a20]at h;refine⟨fun j o E e he Z=>?_,fun i j x o U hx E=>?_⟩
 ·have O:j<ops.size:=(a0z.1 E).1;have:=h j O;rw[E]at this;simp only[a05,a0y]at this;have A:=this.1.1 e he;rw[Z]at A;simp only[a1y,a1h]at A;exact a0d A
 have O:j<ops.size:=(a0z.1 E).1;have:=h j O;rw[E]at this;simp only[a05,a0y,a20]at this;have A:=this.2 i U;rw[hx]at A;simpa using A
section
variable (st:Nat->St) (vl:Nat->Value) (ops:Array Oper)
def chg(k b:Nat):Prop:=(st (k+1)).heap.get b≠(st k).heap.get b
open Classical in
noncomputable def jF (S : Nat -> Bool) : Nat -> Nat -> Option AObj
 |0,b=>(st 0).heap.get b
 |k+1,b=>if S k=true/\chg st k b then(st (k+1)).heap.get b else jF S k b
def js(k:Nat):Option Tmp:=(ops[k]?).bind (·.dst)
open Classical in
noncomputable def tv (S : Nat -> Bool) : Nat -> Nat -> Value
 |0,t=>cH (st 0).tmps t
 |k+1,t=>if S k=true/\js ops k=some t then vl k else tv S k t
theorem ky{S:Nat->Bool}{b i:Nat}: ∀m,(∀k,k<m->chg st k b->(S k=true↔k<i))->jF st S m b=(st (min m i)).heap.get b
 |0,_=>by simp[jF]
 |m+1,h=>by
  have ih:=ky m fun k E=>h k M
  unfold jF;by_cases A:m<i
  ·rw[show min (m+1) i=m+1 by omega];rw[show min m i=m by omega]at ih;by_cases hc:chg st m b
   ·rw[if_pos ⟨(h m M hc).2 A,hc⟩]
   rw[if_neg (fun e=>hc e.2),ih];unfold chg at hc;exact(Classical.not_not.1 hc).symm
  rw[show min (m+1) i=i by omega];rw[show min m i=i by omega]at ih;rw[if_neg (fun e=>A ((h m M e.2).1 e.1)),ih]
theorem lH{S S':Nat->Bool}{b:Nat}: ∀m,(∀k,k<m->chg st k b->S k=S' k)->jF st S m b=jF st S' m b
 |0,_=>rfl
 |m+1,h=>by
  have ih:=lH m fun k A=>h k M
  unfold jF;by_cases hc:chg st m b
  ·rw[h m M hc,ih]
  rw[if_neg (fun e=>hc e.2),if_neg (fun e=>hc e.2),ih]
theorem tv_eq{S:Nat->Bool}{t i:Nat}(A: ∀k,cH (st (k+1)).tmps t=if js ops k=some t then vl k else cH (st k).tmps t):
  ∀m,(∀k,k<m->js ops k=some t->(S k=true↔k<i))->tv st vl ops S m t=cH (st (min m i)).tmps t
 |0,_=>by simp[tv]
 |m+1,h=>by
  have ih:=tv_eq A m fun k O=>h k M
  unfold tv;by_cases E:m<i
  ·rw[show min (m+1) i=m+1 by omega];rw[show min m i=m by omega]at ih;by_cases hc:js ops m=some t
   ·rw[if_pos ⟨(h m M hc).2 E,hc⟩,A,if_pos hc]
   rw[if_neg (fun e=>hc e.2),ih,A,if_neg hc]
  rw[show min (m+1) i=i by omega];rw[show min m i=i by omega]at ih;rw[if_neg (fun e=>E ((h m M e.2).1 e.1)),ih]
theorem tv_congr{S S':Nat->Bool}{t:Nat}: ∀m,(∀k,k<m->js ops k=some t->S k=S' k)->tv st vl ops S m t=tv st vl ops S' m t
 |0,_=>rfl
 |m+1,h=>by
  have ih:=tv_congr m fun k A=>h k M
  unfold tv;by_cases hc:js ops m=some t
  ·rw[h m M hc,ih]
  rw[if_neg (fun e=>hc e.2),if_neg (fun e=>hc e.2),ih]
end
structure Inv(ops:Array Oper)(st:Nat->St)(vl:Nat->Value)(μ0:Emb)(w0:World)(d0:List Deferred)(S:Nat->Bool)(μ:Emb)(a:Act)(w:World):Prop where
 dc:DC ops S
 dom: ∀b l,μ b=some l->b<(st 0).heap.next\/(∃k,k<ops.size/\S k=true/\(st k).heap.next<=b/\b<(st (k+1)).heap.next)\/(st ops.size).heap.next<=b
 obj: ∀b l o,μ b=some l->jF st S ops.size b=some o->ObjRel μ w l o
 inj: ∀b1 b2 l1 l2 o1 o2,b1≠b2->μ b1=some l1->μ b2=some l2->jF st S ops.size b1=some o1->jF st S ops.size b2=some o2->o1.rw=true->o2.live=true->l1.c≠l2.c
 size:a.tmps.size=(st 0).size
 tm: ∀t,VRel μ (tv st vl ops S ops.size t) (a.tmps.getD t undef)
 defers:a.defers=d0
 ext0: ∀b l,μ0 b=some l->μ b=some l
 dom0: ∀b l,μ b=some l->μ0 b=some l\/((st 0).heap.next<=b/\b<(st ops.size).heap.next)
 grow0:w0.heap.size<=w.heap.size
 os0:w.os=w0.os
 tape0:w.tape=w0.tape
 out0:w.output=w0.output
 keep0: ∀c,c<w0.heap.size->(∀b l o,μ0 b=some l->(st 0).heap.get b=some o->o.rw=true->l.c≠c)->w.heap[c]?=w0.heap[c]?
 img0: ∀b l o,μ b=some l->jF st S ops.size b=some o->o.live=true->
  w0.heap.size<=l.c\/∃b0 l0 o0,μ0 b0=some l0/\(st 0).heap.get b0=some o0/\o0.live=true/\(o.rw=true->o0.rw=true)/\l0.c=l.c
def ji(S:Nat->Bool)(i:Nat):Nat->Bool:=fun k=>Nat.beq k i||S k
theorem gr(S:Nat->Bool)(i:Nat):ji S i i=true:=by simp[ji]
theorem gt(S:Nat->Bool){i k:Nat}(h:k≠i):ji S i k=S k:=by
 have:Nat.beq k i=false:=by
  cases A:Nat.beq k i with
  |false=>rfl
  |true=>exact absurd (a07 A) h
 simp[ji,this]
theorem Inv.next{ops:Array Oper}{st:Nat->St}{vl:Nat->Value}{μ0 μ μ':Emb}{w0 w w':World}{d0:List Deferred}{S:Nat->Bool}{a:Act}{i:Nat}{H Hn:Heap}{o:Oper}{v':Value}
  (I:Inv ops st vl μ0 w0 d0 S μ a w) (hi:i<ops.size) (ho:ops[i]?=some o) (O:Post μ H w μ' Hn w') (hv:VRel μ' (vl i) v') (a9: ∀k,(st k).heap.next<=(st (k+1)).heap.next)
  (c8:(st i).heap.next<=H.next) (c9:Hn.next<=(st (i+1)).heap.next)
  (c1: ∀b l x,μ b=some l->H.get b=some x->jF st S ops.size b=some x)
  (c2: ∀b l x,μ' b=some l->Hn.get b=some x->jF st (ji S i) ops.size b=some x)
  (c3: ∀b l x,μ' b=some l->Hn.get b=none->jF st (ji S i) ops.size b=some x->μ b=some l/\H.get b=none/\jF st S ops.size b=some x)
  (ci:DC ops (ji S i)) (co: ∀d,o.dst=some d->d<(st 0).size)
  (c0: ∀t,o.dst=some t->tv st vl ops (ji S i) ops.size t=vl i) (b6: ∀t,o.dst≠some t->tv st vl ops (ji S i) ops.size t=tv st vl ops S ops.size t):
  Inv ops st vl μ0 w0 d0 (ji S i) μ' (a.put o.dst v') w':=by
 have bw: ∀k,(st 0).heap.next<=(st k).heap.next:=by
  intro k;induction k with
  |zero=>exact a08 _
  |succ k ih=>exact a0a ih (a9 k)
 have monoL: ∀j k,j<=k->(st j).heap.next<=(st k).heap.next:=by
  intro j k h;induction h with
  |refl=>exact a08 _
  |step _ ih=>exact a0a ih (a9 _)
 have c4:=monoL (i+1) ops.size hi
 have ch: ∀b l x,μ b=some l->H.get b=none->jF st S ops.size b=some x->x.live=true->w'.heap[l.c]?=w.heap[l.c]?:=by
  intro b l x A hh hc aA;refine O.keep l.c ((I.obj b l x A hc).lt aA) fun Z l2 o2 al bn a0=>?_
  exact I.inj Z b l2 l o2 x (fun e=>by subst e;rw[hh]at bn;cases bn) al A (c1 Z l2 o2 al bn) hc a0 aA
 refine⟨ci,fun b l A=>?_,fun b l x A hc=>?_,fun b1 Z l1 l2 o1 o2 b4 a7 al a3 U a1 a0=>?_,?_,fun t=>?_,?_,fun b l A=>O.ext b l (I.ext0 b l A),fun b l A=>?_,a0a I.grow0 O.grow,
  O.os.trans I.os0,O.tape.trans I.tape0,O.out.trans I.out0,fun c hc bl=>?_,fun b l x A hc aA=>?_⟩
 ·rcases O.dom b l A with E|⟨E,h2⟩
  ·rcases I.dom b l E with h2|⟨k,hk,hs,h3,h4⟩|h2
   ·exact .inl h2
   ·refine .inr (.inl ⟨k,hk,?_,h3,h4⟩);unfold ji;rw[hs];simp
   exact .inr (.inr h2)
  exact .inr (.inl ⟨i,hi,gr S i,by omega,by omega⟩)
 ·cases hg:Hn.get b with
  |some y=>
   have:=c2 b l y A hg
   rw[this]at hc;injection hc with hc;subst hc
   exact O.wrel.obj b l y A hg
  |none=>
   obtain⟨E,h2,h3⟩:=c3 b l x A hg hc
   exact(I.obj b l x E h3).keep O.ext O.grow (fun aA=>ch b l x E h2 h3 aA)
 ·--no two blocks at one place
  cases a8:Hn.get b1 with
  |some y1=>
   have e1:=c2 b1 l1 y1 a7 a8
   rw[e1]at a3;injection a3 with a3;subst a3
   cases ax:Hn.get Z with
   |some y2=>
    have e2:=c2 Z l2 y2 al ax
    rw[e2]at U;injection U with U;subst U
    exact O.wrel.inj b1 Z l1 l2 y1 y2 b4 a7 al a8 ax a1 a0
   |none=>
    obtain⟨E,h2,h3⟩:=c3 Z l2 o2 al ax U
    have cp:=(I.obj Z l2 o2 E h3).lt a0
    rcases O.img b1 l1 y1 a7 a8 (gO a1) with hh|⟨b0,l0,o0,g1,g2,g3,g4,g5⟩
    ·omega
    rw[←g5]
    exact I.inj b0 Z l0 l2 o0 o2 (fun e=>by subst e;rw[h2]at g2;cases g2) g1 E (c1 b0 l0 o0 g1 g2) h3 (g4 a1) a0
  |none=>
   obtain⟨E,h2,h3⟩:=c3 b1 l1 o1 a7 a8 a3
   cases ax:Hn.get Z with
   |some y2=>
    have e2:=c2 Z l2 y2 al ax
    rw[e2]at U;injection U with U;subst U
    have cp:=(I.obj b1 l1 o1 E h3).lt (gO a1)
    rcases O.img Z l2 y2 al ax a0 with hh|⟨b0,l0,o0,g1,g2,g3,g4,g5⟩
    ·omega
    rw[←g5]
    exact I.inj b1 b0 l1 l0 o1 o0 (fun e=>by subst e;rw[h2]at g2;cases g2) E g1 h3 (c1 b0 l0 o0 g1 g2) a1 g3
   |none=>
    obtain⟨k1,k2,k3⟩:=c3 Z l2 o2 al ax U
    exact I.inj b1 Z l1 l2 o1 o2 b4 E k1 h3 k3 a1 a0
 ·cases hd:o.dst with
  |none=>exact I.size
  |some d=>simp only[Act.put,Array.size_setIfInBounds];exact I.size
 ·have bt:=(I.tm t).mono O.ext;cases hd:o.dst with
  |none=>rw[b6 t (by rw[hd];simp)];exact bt
  |some d=>
   simp only[Act.put,getD_set]
   by_cases bf:d=t
   ·subst bf;rw[c0 d hd,if_pos ⟨V,by rw[I.size];exact co d hd⟩];exact hv
   rw[b6 t (by rw[hd];simpa using bf),if_neg (fun e=>bf e.1)];exact bt
 ·rw[fe];exact I.defers
 ·rcases O.dom b l A with E|⟨E,h2⟩
  ·exact I.dom0 b l E
  exact .inr ⟨by have:=bw i;omega,by omega⟩
 ·rw[O.keep c (a10 hc I.grow0) ?_,I.keep0 c hc bl];intro b l x A hx hr he;rcases I.img0 b l x A (c1 b l x A hx) (gO hr) with hh|⟨b0,l0,o0,g1,g2,g3,g4,g5⟩
  ·omega
  exact bl b0 l0 o0 g1 g2 (g4 hr) (g5.trans he)
 cases hg:Hn.get b with
 |some y=>
  have:=c2 b l y A hg
  rw[this]at hc;injection hc with hc;subst hc
  rcases O.img b l y A hg aA with hh|⟨b0,l0,o0,g1,g2,g3,g4,g5⟩
  ·exact .inl (a0a I.grow0 hh)
  rcases I.img0 b0 l0 o0 g1 (c1 b0 l0 o0 g1 g2) g3 with hh|⟨b3,l3,o3,e1,e2,e3,e4,e5⟩
  ·exact .inl (g5▸hh)
  exact .inr ⟨b3,l3,o3,e1,e2,e3,fun hx=>e4 (g4 hx),e5.trans g5⟩
 |none=>
  obtain⟨E,h2,h3⟩:=c3 b l x A hg hc
  exact I.img0 b l x E h3 aA
end Go.R
namespace Go.R
section
variable {P:Program} {G:Nat}
def kE(ρ:Operand->Value)(o:Oper)(b:Nat):Prop:=
 (∃t a off,o.op= .load t a/\ρ a= .pointer (some ⟨b,off,none⟩))\/
 (∃t x lo hi A off n k,o.op= .slice t x lo hi A/\ρ x= .slice (some ⟨b,off,none⟩) n k)
def NilCut(ρ:Operand->Value)(o:Oper):Prop:=(∃t x lo hi A n k,o.op= .slice t x lo hi A/\ρ x= .slice none n k)\/
 (∃xs ts x,o.op= .call ⟨.builtin .len,xs,ts⟩/\dJ ρ xs.toList=[x]/\((∃a n k,x= .slice a n k)\/∃s,x= .string s))
structure OpFact(P:Program)(G:Nat)(cf:cm)(ops:Array Oper)(o:Oper)(s s':St)(v:Value)(f:Inf):Prop where
 size:s'.size=s.size
 tm: ∀t,cH s'.tmps t=if o.dst=some t then v else cH s.tmps t
 dlt: ∀d,o.dst=some d->d<s.size
 next:s.heap.next<=s'.heap.next
 far: ∀b,s'.heap.next<=b->s'.heap.get b=s.heap.get b
 how:(aU ops o s.tmps=false/\v=undef/\f= .v/\s'.heap.next=s.heap.next/\∀b,s'.heap.get b=s.heap.get b)\/
  (aU ops o s.tmps=true/\o.op.operands.toList.all (bu G)=true/\∃H1 H2,(∀b,H1.get b=s.heap.get b)/\H1.next=s.heap.next/\
   dK P cf (cI s.tmps) o H1=some (v,H2)/\(∀b,s'.heap.get b=H2.get b)/\s'.heap.next=H2.next/\
   ((f= .v/\(aO o.op=true\/NilCut (cI s.tmps) o))\/(f= .a s.heap.next/\dM o.op=true)\/
    (∃b,f= .l b/\kE (cI s.tmps) o b)\/
    (∃w,f= .x w/\(∀b,b∈w->b<s.heap.next)/\(∀b,b<s.heap.next->b∉w->s'.heap.get b=s.heap.get b)/\(gY o.op=true->∃t a x b off,o.op= .store t a x/\cI s.tmps a= .pointer (some ⟨b,off,none⟩)/\b∈w))))
theorem kX{ρ:Operand->Value}{o:Oper}{H H':Heap}{r:AN}{t:TypeId}{a x:Operand}(hk:o.op= .store t a x)(h:aop P ρ o H=some (r,H')):
  r= .skip/\∃b off E A,ρ a= .pointer (some ⟨b,off,none⟩)/\H.get b=some E/\H'=H.put b A/\∀K:Heap,K.get b=some E->aop P ρ o K=some (.skip,K.put b A):=by
 have e: ∀K,aop P ρ o K=e9 P t (ρ a) (ρ x) K:=fun K=>by unfold aop;rw[hk]
 rw[e]at h
 unfold e9 at h
 split at h
 case h_2=>cases h
 rename_i p Z
 split at h
 case h_2=>cases h
 rename_i n hn
 cases O:Nat.beq (ρ x).cells.size n with
 |false=>rw[O]at h;cases h
 |true=>
  rw[O]at h
  obtain⟨b,off,sp⟩:=p
  simp only[cond_true]at h
  obtain⟨hs,rfl⟩:=mb h
  unfold Heap.storeL at hs
  cases sp with
  |some _=>cases hs
  |none=>
   simp only at hs
   split at hs
   case h_2=>cases hs
   rename_i cs aA hg
   cases U:(Nat.ble (Nat.add off (eC (ρ x).cells.toList)) (eC cs)&&kP Value.oneCell' (ρ x).cells.toList) with
   |false=>rw[U]at hs;cases hs
   |true=>
    rw[U]at hs
    simp only[cond_true,a03]at hs
    refine⟨V,b,off,_,_,Z,hg,hs.symm,fun K hK=>?_⟩
    rw[e,Z]
    unfold e9
    simp only[hn,O,cond_true]
    unfold Heap.storeL
    simp only[hK,U,cond_true]
    rfl
theorem fk{n b:Nat}: ∀{l:List Nat},b∈dI n l↔b∈l/\b<n
 | []=>by simp[dI]
 |c::l=>by
  unfold dI;cases O:Nat.ble n c with
  |true=>
   have:=a0d O
   simp only[cond_true,a0r]
   rw[fk (l:=l)]
   constructor
   ·rintro⟨A,E⟩;exact⟨.inr A,E⟩
   rintro⟨rfl|A,E⟩
   ·omega
   exact⟨A,E⟩
  |false=>
   have Z: ¬n<=c:=fun U=>by rw[a0v U]at O;cases O
   simp only[cond_false,a0r]
   rw[fk (l:=l)]
   constructor
   ·rintro(rfl|⟨A,E⟩)
    ·exact⟨.inl V,by omega⟩
    exact⟨.inr A,E⟩
   rintro⟨rfl|A,E⟩
   ·exact .inl V
   exact .inr ⟨A,E⟩
theorem loadV_spot{P:Program}{H:Heap}{t:TypeId}{p:Addr}{v:Value}(h:H.loadV P t p=some v):p.spot=none:=by
 obtain⟨b,o,sp⟩:=p;cases sp with
 |none=>rfl
 |some _=>
  unfold Heap.loadV at h
  split at h
  ·split at h
   ·simp[Heap.loadN]at h
   cases h
  ·simp[Heap.cellAt]at h
  cases h
theorem loadV_congr{H H':Heap}{t:TypeId}{b off:Nat}(h:H.get b=H'.get b):H.loadV P t ⟨b,off,none⟩=H'.loadV P t ⟨b,off,none⟩:=by unfold Heap.loadV Heap.loadN Heap.cellAt;simp only[h]
theorem loadV_some{H:Heap}{t:TypeId}{b off:Nat}{v:Value}(h:H.loadV P t ⟨b,off,none⟩=some v): ∃x,H.get b=some x:=by
 cases A:H.get b with
 |some x=>exact⟨x,V⟩
 |none=>
  unfold Heap.loadV Heap.loadN Heap.cellAt at h
  simp only[A]at h
  split at h
  ·split at h<;>cases h
  ·cases h
  cases h
theorem aSlice_spot{P:Program}{H:Heap}{t:TypeId}{p:Addr}{n k:Nat}{lo hi A:Option Value}{v:Value}(h:bo P t (.slice (some p) n k) lo hi A H=some v):p.spot=none:=by
 obtain⟨b,o,sp⟩:=p;cases sp with
 |none=>rfl
 |some _=>
  unfold bo at h
  split at h
  ·cases h
  split at h<;>simp_all
theorem aSlice_get{P:Program}{H:Heap}{t:TypeId}{b off n k:Nat}{lo hi O:Option Value}{v:Value}(h:bo P t (.slice (some ⟨b,off,none⟩) n k) lo hi O H=some v):
  ∃A,H.get b=some A/\∀E:Heap,E.get b=some A->bo P t (.slice (some ⟨b,off,none⟩) n k) lo hi O E=some v:=by
 cases Z:H.get b with
 |some A=>
  refine⟨A,V,fun E U=>?_⟩
  rw[←h]
  unfold bo
  cases O with
  |some _=>rfl
  |none=>
   cases P.underlying t with
   |none=>rfl
   |some d=>cases d<;>first|rfl|simp only[U,Z]
 |none=>
  exfalso
  unfold bo at h
  split at h
  ·cases h
  split at h<;>simp_all
theorem eB{P:Program}{ρ:Operand->Value}{o:Oper}{b:Nat}{H H':Heap}{r:AN}(hr:kE ρ o b)(h:aop P ρ o H=some (r,H')):
  ∃v E,r= .val v/\H'=H/\H.get b=some E/\∀U:Heap,U.get b=some E->aop P ρ o U=some (.val v,U):=by
 rcases hr with⟨t,a,off,Z,ha⟩|⟨t,x,lo,hi,mx,off,n,k,Z,hx⟩
 ·have A: ∀H,aop P ρ o H=ep P t (ρ a) H:=fun H=>by unfold aop;rw[Z]
  rw[A,ha]at h;unfold ep at h;simp only at h;obtain⟨rfl,v,hv,rfl⟩:=ck h;obtain⟨E,O⟩:=loadV_some hv;refine⟨v,E,V,V,O,fun U h2=>?_⟩;rw[A,ha];unfold ep;simp only;rw[loadV_congr (H':=H') (by rw[h2,O]),hv];rfl
 have A: ∀H,aop P ρ o H=ovl (bo P t (ρ x) (lo.map ρ) (hi.map ρ) (mx.map ρ) H) H:=fun H=>by unfold aop;rw[Z]
 rw[A,hx]at h
 obtain⟨rfl,v,hv,rfl⟩:=ck h
 obtain⟨E,O,ar⟩:=aSlice_get hv
 refine⟨v,E,V,V,O,fun U h2=>?_⟩
 rw[A,hx,ar U h2]
 rfl
theorem reads_sound{P:Program}{μ:Emb}{ρ ρ':Operand->Value}{o:Oper}{b:Nat}{H:Heap}{w:World}{v:Value}(hr:kE ρ o b)(hρ: ∀x∈o.op.operands,VRel μ (ρ x) (ρ' x))(hw:WRel μ H w)
  (h:aop P ρ o H=some (.val v,H)): ∃v',(execOp ρ' o).run P w= .ok (.value v') w/\VRel μ v v':=by
 rcases hr with⟨t,a,off,A,ha⟩|⟨t,x,lo,hi,mx,off,n,k,A,hx⟩
 ·have O: ∀H,aop P ρ o H=ep P t (ρ a) H:=fun H=>by unfold aop;rw[A]
  rw[O,ha]at h;unfold ep at h;simp only at h;obtain⟨_,v1,hv,E⟩:=ck h;injection E with E;subst E;have ax:VRel μ (ρ a) (ρ' a):=hρ a (by rw[A];simp[Op.operands]);rw[ha]at ax;obtain⟨l,hμ,a3⟩:=ax.ptr_inv;obtain⟨v',U,Z⟩:=gW (P:=P) hw hμ hv;refine⟨v',?_,Z⟩;obtain⟨aA,op,type,pos,after,ar⟩:=o;simp only at A;subst A;simp only[execOp,a3,Instr.loadAt,Instr.sureAddr,Sem.run_bind,Sem.run_pure,Result.andThen_ok,U]
 have O: ∀H,aop P ρ o H=ovl (bo P t (ρ x) (lo.map ρ) (hi.map ρ) (mx.map ρ) H) H:=fun H=>by unfold aop;rw[A]
 rw[O]at h
 obtain⟨aA,op,type,pos,after,ar⟩:=o
 simp only at A
 subst A
 obtain⟨a1,a2⟩:=fC (μ:=μ) (ρ:=ρ) (ρ':=ρ') (x:=lo) fun y hy=>hρ y (by subst hy;simp[Op.operands])
 obtain⟨b1,b2⟩:=fC (μ:=μ) (ρ:=ρ) (ρ':=ρ') (x:=hi) fun y hy=>hρ y (by subst hy;simp[Op.operands])
 obtain⟨_,c2⟩:=fC (μ:=μ) (ρ:=ρ) (ρ':=ρ') (x:=mx) fun y hy=>hρ y (by subst hy;simp[Op.operands])
 obtain⟨v1,v',E,_,U,Z⟩:=jV (P:=P) hw (hρ x (by simp[Op.operands])) a1 a2 b1 b2 c2 h
 injection E with E;subst E
 refine⟨v',?_,Z⟩
 simp only[execOp,Sem.run_bind,U,Result.andThen_ok,Sem.run_pure]
theorem reads_loc{μ:Emb}{ρ ρ':Operand->Value}{o:Oper}{b:Nat}(hr:kE ρ o b)(U: ∀x∈o.op.operands,VRel μ (ρ x) (ρ' x)): ∃l,μ b=some l:=by
 rcases hr with⟨t,a,off,E,Z⟩|⟨t,x,lo,hi,mx,off,n,k,E,hx⟩
 ·have A:VRel μ (ρ a) (ρ' a):=U a (by rw[E];simp[Op.operands]);rw[Z]at A;obtain⟨l,O,_⟩:=A.ptr_inv;exact⟨l,O⟩
 have A:VRel μ (ρ x) (ρ' x):=U x (by rw[E];simp[Op.operands]);rw[hx]at A;obtain⟨l,O,_⟩:=A.slice_inv;exact⟨l,O⟩
theorem stepD_fact{cf:cm}(ba:el P G cf){ops:Array Oper}{o:Oper}{s s':St}{f:Inf}(hw:WF s.heap)(h:gM P G cf ops o s=some (s',f)):
  ∃v,OpFact P G cf ops o s s' v f:=by
 unfold gM at h
 split at h
 case h_2=>cases h
 rename_i t A
 simp only[a03,a04]at h
 obtain⟨rfl,rfl⟩:=h
 have a6:WF {s.heap with log:=[]}:=hw
 have ext:=jz ba (s:={s with heap:={s.heap with log:=[]}}) a6 A
 rw[step_eq]at A
 cases hq:aU ops o s.tmps with
 |false=>
  rw[hq]at A
  simp only[cond_false]at A
  obtain⟨h1,h2,h3⟩:=gS A
  refine⟨undef,h1,?_,?_,by rw[h2];exact a08 _,fun b _=>by rw[h2];rfl,.inl ⟨hq,V,by unfold en;rw[hq];rfl,by rw[h2],fun b=>by rw[h2];rfl⟩⟩
  ·intro k;rcases h3 with⟨U,h5⟩|⟨d,U,hd,h5⟩
   ·simp[U,h5]
   rw[U];simp only[h5,fZ,a03]
  intro d hd
  rcases h3 with⟨U,_⟩|⟨d',U,a3,_⟩
  ·rw[U]at hd;cases hd
  rw[U]at hd;injection hd with hd;subst hd;exact a3
 |true=>
  rw[hq]at A
  cases a5:o.op.operands.toList.all (bu G) with
  |false=>rw[a5]at A;cases A
  |true=>
   rw[a5]at A
   simp only[cond_true]at A
   split at A
   case h_2=>cases A
   rename_i v H2 O
   obtain⟨h1,h2,h3⟩:=gS A
   simp only at h2
   have a0:Ext {s.heap with log:=[]} H2:=lE ba a6 O
   refine⟨v,h1,?_,?_,by simp only[h2];exact a0.next,fun b hb=>by simp only[h2]at hb⊢;exact a0.far b hb,.inr ⟨hq,a5,{s.heap with log:=[]},H2,fun _=>rfl,rfl,O,fun b=>by simp only[h2];rfl,by simp only[h2],?_⟩⟩
   ·intro k;rcases h3 with⟨U,h5⟩|⟨d,U,hd,h5⟩
    ·simp[U,h5]
    rw[U];simp only[h5,fZ,a03]
   ·intro d hd;rcases h3 with⟨U,_⟩|⟨d',U,a3,_⟩
    ·rw[U]at hd;cases hd
    rw[U]at hd;injection hd with hd;subst hd;exact a3
   ·--which kind
    have hx:(∃w,Inf.x (dI s.heap.next t.heap.log)= .x w/\(∀b,b∈w->b<s.heap.next)/\(∀b,b<s.heap.next->b∉w->t.heap.get b=s.heap.get b)/\(gY o.op=true->∃t a x b off,o.op= .store t a x/\cI s.tmps a= .pointer (some ⟨b,off,none⟩)/\b∈w)):=by
     refine⟨_,V,fun b hb=>(fk.1 hb).2,fun b hb hn=>?_,fun A=>?_⟩
     ·obtain⟨d,hd,a7⟩:=a0.log;rw[h2];refine a7 b hb fun hm=>hn (fk.2 ⟨?_,hb⟩)
      rw[h2,hd,a0f];exact hm
     cases E:o.op<;>rw[E]at A<;>try (cases A)
     rename_i ty a x;unfold dK at O;cases Z:aop P (cI s.tmps) o {s.heap with log:=[]} with
     |none=>rw[Z]at O;cases O
     |some q=>
      obtain⟨r,H3⟩:=q
      obtain⟨rfl,b,off,b4,b2,hp,hg,rfl,_⟩:=kX E Z
      rw[Z]at O
      simp only[a03,a04]at O
      refine⟨ty,a,x,b,off,V,hp,fk.2 ⟨?_,a6.lt hg⟩⟩
      rw[h2,←O.2];exact a0I
    unfold en;rw[hq];cases hv:aO o.op with
    |true=>exact .inl ⟨V,.inl V⟩
    |false=>
     simp only[a1y,Bool.or_false,cond_false]
     cases b3:dM o.op with
     |true=>exact .inr (.inl ⟨V,V⟩)
     |false=>
      simp only[cond_false]
      split
      ·rename_i ty a E;split
       ·rename_i p hp;have ar:p.spot=none:=by
         unfold dK at O;have Z:aop P (cI s.tmps) o {s.heap with log:=[]}=ep P ty (cI s.tmps a) {s.heap with log:=[]}:=by unfold aop;rw[E]
         rw[Z,hp]at O;unfold ep at O;simp only at O;cases hl:Heap.loadV P {s.heap with log:=[]} ty p with
         |none=>rw[hl]at O;simp[ovl]at O
         |some u=>exact loadV_spot hl
        obtain⟨b,off,sp⟩:=p;simp only at ar;subst ar;exact .inr (.inr (.inl ⟨b,V,.inl ⟨ty,a,off,E,hp⟩⟩))
       exact .inr (.inr (.inr hx))
      ·rename_i ty x lo hi mx E;split
       ·rename_i p n k hp;have ar:p.spot=none:=by
         unfold dK at O;have Z:aop P (cI s.tmps) o {s.heap with log:=[]}=ovl (bo P ty (cI s.tmps x) (lo.map (cI s.tmps)) (hi.map (cI s.tmps)) (mx.map (cI s.tmps)) {s.heap with log:=[]}) {s.heap with log:=[]}:=by unfold aop;rw[E]
         rw[Z,hp]at O;cases hl:bo P ty (.slice (some p) n k) (lo.map (cI s.tmps)) (hi.map (cI s.tmps)) (mx.map (cI s.tmps)) {s.heap with log:=[]} with
         |none=>rw[hl]at O;simp[ovl]at O
         |some u=>exact aSlice_spot hl
        obtain⟨b,off,sp⟩:=p;simp only at ar;subst ar;exact .inr (.inr (.inl ⟨b,V,.inr ⟨ty,x,lo,hi,mx,off,n,k,E,hp⟩⟩))
       ·rename_i n k hp;exact .inl ⟨V,.inr (.inl ⟨ty,x,lo,hi,mx,n,k,E,hp⟩)⟩
       exact .inr (.inr (.inr hx))
      ·rename_i xs ts E;split
       ·rename_i a n k hp;exact .inl ⟨V,.inr (.inr ⟨xs,ts,_,E,hp,.inl ⟨a,n,k,V⟩⟩)⟩
       ·rename_i bn hp;exact .inl ⟨V,.inr (.inr ⟨xs,ts,_,E,hp,.inr ⟨bn,V⟩⟩)⟩
       exact .inr (.inr (.inr hx))
      exact .inr (.inr (.inr hx))
theorem j4{ρ:Operand->Value}{o:Oper}{H H':Heap}{r:AN}(h:bG P ρ o H=some (r,H')):H'=H/\∃v,r= .val v:=by
 unfold bG at h;cases E:o.op.operands.toList.all fun x=>iP (ρ x) with
 |false=>rw[E]at h;cases h
 |true=>
  rw[E]at h
  simp only[cond_true]at h
  split at h
  ·rename_i v O;cases A:noA2 v with
   |false=>rw[A]at h;cases h
   |true=>
    rw[A]at h;simp only[cond_true,a03,a04]at h
    exact⟨h.2.symm,v,h.1.symm⟩
  cases h
theorem lift_val{s:Sem Value}{H H':Heap}{r:AN}(h:lift P s H=some (r,H')):H'=H/\∃v,r= .val v:=by obtain⟨A,v,E,_⟩:=ke h;exact⟨A,v,E⟩
theorem fB{x:Option Value}{H H':Heap}{r:AN}(h:ovl x H=some (r,H')):H'=H/\∃v,r= .val v:=by obtain⟨A,v,_,E⟩:=ck h;exact⟨A,v,E⟩
theorem fw{v:Value}{H H':Heap}{r:AN}(h:some (AN.val v,H)=some (r,H')):H'=H/\∃v,r= .val v:=by simp only[a03,a04]at h;exact⟨h.2.symm,v,h.1.symm⟩
theorem aop_value{ρ:Operand->Value}{o:Oper}{H H':Heap}{r:AN}(hk:aO o.op=true)(h:aop P ρ o H=some (r,H')):H'=H/\∃v,r= .val v:=by
 obtain⟨O,op,type,pos,after,E⟩:=o;cases op<;>simp only[aO,a0k]at hk
 case move x=>exact fw (v:=ρ x) h
 case assign x=>exact fw (v:=ρ x) h
 case pick c a b=>
  have A:fY ρ c a b H=some (r,H'):=h
  unfold fY at A
  split at A
  ·exact fw A
  cases A
 case build t parts=>
  have A:gU P t (parts.map fun p=>(p.1,ρ p.2)) H=some (r,H'):=h
  unfold gU at A
  split at A
  ·exact lift_val A
  cases A
 case nilCheck x=>
  have A:opNil (ρ x) H=some (r,H'):=h
  unfold opNil at A
  split at A
  ·exact fw A
  ·exact fw A
  cases A
 case binOp op t x y yt=>
  have A:aBin P ρ ⟨O,.binOp op t x y yt,type,pos,after,E⟩ op t (ρ x) y H=some (r,H'):=h
  unfold aBin at A
  split at A
  ·unfold binInt at A;split at A
   ·exact fB A
   cases A
  ·unfold binStr at A;split at A
   ·exact fB A
   cases A
  unfold mK at A;split at A
  ·exact j4 A
  ·exact j4 A
  obtain⟨Z,b,_,hc⟩:=iQ A
  rcases hc with⟨_,U⟩|⟨_,U⟩
  ·exact⟨Z,_,U⟩
  exact⟨Z,_,U⟩
 case unOp op t x=>
  have A:aUn P ρ ⟨O,.unOp op t x,type,pos,after,E⟩ op (ρ x) H=some (r,H'):=h
  unfold aUn at A
  split at A
  ·split at A
   ·exact fw A
   cases A
  exact j4 A
 case makeFunc fn first captured=>exact fw (v:= .func fn (first.map ρ) (captured.map ρ)) h
 case fieldAddr s x f=>
  have A:ovl (jj P s (ρ x) f) H=some (r,H'):=h
  exact fB A
 case field t x f=>
  have A:ovl (hR P t (ρ x) f) H=some (r,H'):=h
  exact fB A
 case indexAddr t x i=>
  have A:ovl (cr P t (ρ x) (ρ i)) H=some (r,H'):=h
  exact fB A
 case index t x i=>
  have A:kD P t (ρ x) (ρ i) H=some (r,H'):=h
  unfold kD at A
  split at A
  ·exact fB A
  exact lift_val A
 case extract x i=>
  have A:ovl (gE (ρ x) i) H=some (r,H'):=h
  exact fB A
theorem kU{ρ:Operand->Value}{o:Oper}{H H':Heap}{r:AN}(A:aO o.op=true)(h:aop P ρ o H=some (r,H')):H'=H:=by have:=aop_value A h;exact this.1
theorem jQ{ρ:Operand->Value}{o:Oper}{H H':Heap}{r:AN}(A:aO o.op=true)(h:aop P ρ o H=some (r,H')): ∃v,r= .val v:=(aop_value A h).2
theorem fj{ρ:Operand->Value}{o:Oper}{H H':Heap}{r:AN}(hk:dM o.op=true)(h:aop P ρ o H=some (r,H')):
  ∃v U,r= .val v/\H'=H.push U/\∀E:Heap,E.next=H.next->aop P ρ o E=some (.val v,E.push U):=by
 obtain⟨ax,op,type,pos,after,ar⟩:=o
 cases op<;>simp only[dM,a0k]at hk
 case alloc e=>
  have A:eG P e H=some (r,H'):=h
  unfold eG at A
  split at A
  ·rename_i z hz;simp only[a03,a04]at A;obtain⟨rfl,rfl⟩:=A;refine⟨_,_,V,V,fun E O=>?_⟩;show eG P e E=_;unfold eG;rw[hz,O];rfl
  cases A
 case box e x=>
  have A:some (AN.val (ptrTo H.next),aL H (ρ x).cells.toList none)=some (r,H'):=h
  simp only[a03,a04]at A
  obtain⟨rfl,rfl⟩:=A
  refine⟨_,_,V,V,fun E O=>?_⟩
  show some (AN.val (ptrTo E.next),aL E (ρ x).cells.toList none)=_
  rw[O];rfl
 case buildSlice t n parts=>
  have A:bD P t n (dJ (fun p=>(p.1,ρ p.2)) parts.toList) H=some (r,H'):=h
  unfold bD at A
  split at A
  ·rename_i sz z hz;cases Z:Nat.ble (n *sz) 16777216 with
   |false=>rw[Z]at A;cases A
   |true=>
    rw[Z]at A
    simp only[cond_true]at A
    split at A
    ·rename_i cells hc;simp only[a03,a04]at A;obtain⟨rfl,rfl⟩:=A;refine⟨_,_,V,V,fun E O=>?_⟩;show bD P t n (dJ (fun p=>(p.1,ρ p.2)) parts.toList) E=_;unfold bD;rw[hz];simp only[Z,cond_true,hc,O];rfl
    cases A
  cases A
 case makeMap t rsv=>
  cases rsv with
  |some _=>simp at hk
  |none=>
   have A:some (AN.val (.map (some H.next)),H.push (.tab []))=some (r,H'):=h
   simp only[a03,a04]at A
   obtain⟨rfl,rfl⟩:=A
   refine⟨_,_,V,V,fun E O=>?_⟩
   show some (AN.val (.map (some E.next)),E.push (.tab []))=_
   rw[O]
def jI(n:Nat):Heap:={tr:= .nil,next:=n,log:=[]}
theorem cS(n b:Nat):(jI n).get b=none:=rfl
theorem jH(μ:Emb)(n:Nat)(w:World):WRel μ (jI n) w:=
 ⟨(fun b l o _ h=>by rw[cS]at h;cases h),(fun A E l1 l2 O U _ _ _ h=>by rw[cS]at h;cases h)⟩
theorem aSlice_nil{t:TypeId}{n k:Nat}{lo hi A:Option Value}(H E:Heap):bo P t (.slice none n k) lo hi A H=bo P t (.slice none n k) lo hi A E:=by
 unfold bo;cases A with
 |some _=>rfl
 |none=>
  cases P.underlying t with
  |none=>rfl
  |some d=>cases d<;>first|rfl|(cases n<;>cases k<;>rfl)
theorem eH{ρ:Operand->Value}{o:Oper}{H H':Heap}{r:AN}(O:NilCut ρ o)(h:aop P ρ o H=some (r,H')):H'=H/\∃v,r= .val v:=by
 rcases O with⟨t,x,lo,hi,Z,n,k,E,U⟩|⟨xs,ts,x,E,U,_⟩
 ·have A: ∀H,aop P ρ o H=ovl (bo P t (ρ x) (lo.map ρ) (hi.map ρ) (Z.map ρ) H) H:=fun H=>by unfold aop;rw[E]
  rw[A]at h;exact fB h
 have A:aop P ρ o H=bLen P ts (dJ ρ xs.toList) H:=by unfold aop;rw[E];rfl
 rw[A]at h;unfold bLen at h;split at h
 ·exact fB h
 cases h
theorem aLen_any{t:TypeId}{x:Value}(E:(∃a n k,x= .slice a n k)\/∃s,x= .string s)(H A:Heap):aLen P t x H=aLen P t x A:=by
 rcases E with⟨a,n,k,rfl⟩|⟨s,rfl⟩<;>(unfold aLen;cases P.underlying t with
  |none=>rfl
  |some d=>cases d<;>rfl)
theorem nilcut_sound{μ:Emb}{ρ ρ':Operand->Value}{o:Oper}{H:Heap}{v:Value}(hr:NilCut ρ o)(hρ: ∀x∈o.op.operands,VRel μ (ρ x) (ρ' x))(h:aop P ρ o H=some (.val v,H))(w:World):
  ∃v',(execOp ρ' o).run P w= .ok (.value v') w/\VRel μ v v':=by
 rcases hr with hr|⟨xs,ts,x,A,hxs,Z⟩
 rotate_left
 ·have O:aop P ρ o H=bLen P ts (dJ ρ xs.toList) H:=by unfold aop;rw[A];rfl
  rw[O,hxs]at h;obtain⟨a5,op,type,pos,after,ax⟩:=o;simp only at A;subst A;unfold bLen at h;split at h
  ·rename_i t x1 ht a0;simp only[List.cons.injEq,and_true]at a0;subst a0;obtain⟨_,v1,hv,E⟩:=ck h;injection E with E;subst E;rw[aLen_any Z H (jI 0)]at hv;have aA:LRel μ (dJ ρ xs.toList) (xs.map ρ').toList:=by
    rw[gV];have:=jK (μ:=μ) (ops:=xs) (ρ:=ρ) (ρ':=ρ') fun x Z=>hρ x (by simp[Op.operands,Call.operands];exact Z)
    simpa using this
   obtain⟨x',a8,a9⟩:=one_of aA hxs;obtain⟨U,hn⟩:=len_sound (P:=P) (ty:=type) (jH μ 0 w) a9 hv;have a6:ts= #[t]:=a12.1 (by rw[ht]);refine⟨v,?_,.atom v hn⟩;simp only[execOp,resolve,Sem.run_bind,Sem.run_pure,Result.andThen_ok,invoke,builtin,a8,a6,U]
  cases h
 obtain⟨t,x,lo,hi,mx,n,k,A,Z⟩:=hr
 have O: ∀H,aop P ρ o H=ovl (bo P t (ρ x) (lo.map ρ) (hi.map ρ) (mx.map ρ) H) H:=fun H=>by unfold aop;rw[A]
 rw[O,Z]at h
 obtain⟨_,v1,hv,E⟩:=ck h
 rw[aSlice_nil H (jI 0)]at hv
 have h2:ovl (bo P t (ρ x) (lo.map ρ) (hi.map ρ) (mx.map ρ) (jI 0)) (jI 0)=some (.val v,jI 0):=by rw[Z,hv,E];rfl
 obtain⟨a5,op,type,pos,after,ax⟩:=o
 simp only at A
 subst A
 obtain⟨a1,a2⟩:=fC (μ:=μ) (ρ:=ρ) (ρ':=ρ') (x:=lo) fun y hy=>hρ y (by subst hy;simp[Op.operands])
 obtain⟨b1,b2⟩:=fC (μ:=μ) (ρ:=ρ) (ρ':=ρ') (x:=hi) fun y hy=>hρ y (by subst hy;simp[Op.operands])
 obtain⟨_,c2⟩:=fC (μ:=μ) (ρ:=ρ) (ρ':=ρ') (x:=mx) fun y hy=>hρ y (by subst hy;simp[Op.operands])
 obtain⟨v1,v',E,_,U,a7⟩:=jV (P:=P) (jH μ 0 w) (hρ x (by simp[Op.operands])) a1 a2 b1 b2 c2 h2
 injection E with E;subst E
 refine⟨v',?_,a7⟩
 simp only[execOp,Sem.run_bind,U,Result.andThen_ok,Sem.run_pure]
theorem either_heap{ρ:Operand->Value}{o:Oper}{H H':Heap}{r:AN}(A:aO o.op=true\/NilCut ρ o)(h:aop P ρ o H=some (r,H')):H'=H:=by
 rcases A with A|A
 ·exact kU A h
 exact(eH A h).1
theorem lF{ρ:Operand->Value}{o:Oper}{H H':Heap}{r:AN}(A:aO o.op=true\/NilCut ρ o)(h:aop P ρ o H=some (r,H')): ∃v,r= .val v:=by
 rcases A with A|A
 ·exact jQ A h
 exact(eH A h).2
structure Trace(P:Program)(G:Nat)(cf:cm)(ops:Array Oper)(st:Nat->St)(vl:Nat->Value)(nf:Nat->Inf):Prop where
 fact: ∀k o,ops[k]?=some o->OpFact P G cf ops o (st k) (st (k+1)) (vl k) (nf k)
 past: ∀k,ops.size<=k->st (k+1)=st k
 comp: ∀j k,j<k->k<ops.size->aV (bY ops) j k=true\/dj (nf j) (nf k)=true\/stst ops j k (nf j) (nf k)=true
 reg:RegFacts ops
 wf: ∀k,WF (st k).heap
section
variable {cf:cm} {ops:Array Oper} {st:Nat->St} {vl:Nat->Value} {nf:Nat->Inf}
theorem Trace.mono(T:Trace P G cf ops st vl nf)(k:Nat):(st k).heap.next<=(st (k+1)).heap.next:=by
 rcases a0s k ops.size with h|h
 ·exact(T.fact k ops[k] (a0D h)).next
 rw[T.past k h];exact a08 _
theorem Trace.monoL(T:Trace P G cf ops st vl nf){j k:Nat}(h:j<=k):(st j).heap.next<=(st k).heap.next:=by
 induction h with
 |refl=>exact a08 _
 |step _ ih=>exact a0a ih (T.mono _)
theorem Trace.sizeL(T:Trace P G cf ops st vl nf)(k:Nat):(st k).size=(st 0).size:=by
 induction k with
 |zero=>rfl
 |succ k ih=>
  rcases a0s k ops.size with h|h
  ·rw[(T.fact k ops[k] (a0D h)).size,ih]
  rw[T.past k h,ih]
theorem Trace.tm(T:Trace P G cf ops st vl nf)(k t:Nat):cH (st (k+1)).tmps t=if js ops k=some t then vl k else cH (st k).tmps t:=by
 unfold js;rcases a0s k ops.size with h|h
 ·have A:=a0D h;rw[(T.fact k ops[k] A).tm t,A];rfl
 rw[T.past k h,Array.getElem?_eq_none h];simp
theorem Trace.chg(T:Trace P G cf ops st vl nf){k b:Nat}(h:chg st k b):
  k<ops.size/\((st k).heap.next<=b/\b<(st (k+1)).heap.next\/∃w,nf k= .x w/\b∈w/\b<(st k).heap.next):=by
 have hk:k<ops.size:=by
  rcases a0s k ops.size with hk|hk
  ·exact hk
  exfalso;unfold R.chg at h;rw[T.past k hk]at h;exact h V
 refine⟨hk,?_⟩
 have F:=T.fact k ops[k] (a0D hk)
 have a3:b<(st (k+1)).heap.next:=by
  rcases a0s b (st (k+1)).heap.next with O|O
  ·exact O
  exact absurd (F.far b O) h
 rcases a0s b (st k).heap.next with hb|hb
 ·right;rcases F.how with⟨_,_,_,_,hs⟩|⟨_,_,H1,H2,ar,a5,E,Z,a6,a0⟩
  ·exact absurd (hs b) h
  rcases a0 with⟨hf,hv⟩|⟨hf,hv⟩|⟨b',hf,ax⟩|⟨w,hf,a7,a2,_⟩
  ·--a value operation changes nothing
   exfalso;unfold dK at E;split at E
   ·rename_i u O A;simp only[a03,a04]at E;have:=(either_heap hv A)
    rw[←E.2,this]at Z;exact h (by rw[Z b,ar b])
   ·rename_i O A;have:=(lF hv A)
    obtain⟨_,U⟩:=this;cases U
   ·rename_i f args O A;obtain⟨_,U⟩:=lF hv A;cases U
   cases E
  ·exfalso;unfold dK at E;split at E
   ·rename_i u O A;simp only[a03,a04]at E;obtain⟨_,a8,_,a1,_⟩:=fj hv A;rw[←E.2,a1]at Z;exact h (by rw[Z b,Heap.get_push_ne _ _ M,ar b])
   ·rename_i O A;obtain⟨_,_,U,_⟩:=fj hv A;cases U
   ·rename_i f args O A;obtain⟨_,_,U,_⟩:=fj hv A;cases U
   cases E
  ·exfalso;unfold dK at E;split at E
   ·rename_i u O A;simp only[a03,a04]at E;obtain⟨_,_,_,hH,_,_⟩:=eB ax A;rw[←E.2,hH]at Z;exact h (by rw[Z b,ar b])
   ·rename_i O A;obtain⟨_,_,U,_⟩:=eB ax A;cases U
   ·rename_i f args O A;obtain⟨_,_,U,_⟩:=eB ax A;cases U
   cases E
  rcases Classical.em (b∈w) with hm|hm
  ·exact⟨w,hf,hm,hb⟩
  exact absurd (a2 b hb hm) h
 exact .inl ⟨hb,a3⟩
end
end
end Go.R
set_option linter.unusedVariables false
namespace Go.R
section
variable {P:Program} {G:Nat} {cf:cm} {ops:Array Oper} {st:Nat->St} {vl:Nat->Value} {nf:Nat->Inf}
variable {μ0 μ:Emb} {w0 w:World} {d0:List Deferred} {S:Nat->Bool} {a:Act} {i:Nat} {o:Oper}
structure Ready(ops:Array Oper)(S:Nat->Bool)(i:Nat)(o:Oper):Prop where
 at_:ops[i]?=some o
 new:S i=false
 edges: ∀e∈o.after.toList,Region.binds .any e=true->S e.on=true
theorem Ready.lt(R:Ready ops S i o):i<ops.size:=(a0z.1 R.at_).1
theorem Ready.dc(R:Ready ops S i o)(h:DC ops S):DC ops (ji S i):=by
 intro k x A hs e U O;by_cases E:k=i
 ·subst E;rw[R.at_]at A;injection A with A;subst A;have:=R.edges e U O;unfold ji;rw[this];simp
 rw[gt S E]at hs;have:=h k x A hs e U O;unfold ji;rw[this];simp
theorem Ready.ahead(R:Ready ops S i o)(h:DC ops S){k:Nat}(A:k≠i)(E:aV (bY ops) k i=true):S k=true:=by have:=(R.dc h).anc i (gr S i) E;rwa [gt S A]at this
theorem Ready.behind(R:Ready ops S i o)(h:DC ops S){k:Nat}(A:aV (bY ops) i k=true):S k=false:=by
 cases hs:S k with
 |false=>rfl
 |true=>have:=h.anc k hs A;rw[R.new]at this;cases this
theorem Ready.iff_(R:Ready ops S i o)(h:DC ops S){k:Nat}(A:k<i->aV (bY ops) k i=true)(E:i<k->aV (bY ops) i k=true):S k=true↔k<i:=by
 rcases Nat.lt_trichotomy k i with hlt|rfl|hgt
 ·exact⟨fun _=>hlt,fun _=>R.ahead h M (A hlt)⟩
 ·rw[R.new];simp
 rw[R.behind h (E hgt)];simp;omega
theorem Ready.iffAdd(R:Ready ops S i o)(h:DC ops S){k:Nat}(E:k<i->aV (bY ops) k i=true)(O:i<k->aV (bY ops) i k=true):ji S i k=true↔k<i+1:=by
 by_cases A:k=i
 ·subst A;rw[gr];simp
 rw[gt S A,R.iff_ h E O];omega
theorem share(T:Trace P G cf ops st vl nf)(Z:ops[i]?=some o){t:Tmp}(A:t∈o.looksAt ops\/o.dst=some t){k:Nat}(hd:js ops k=some t):
  (k<i->aV (bY ops) k i=true)/\(i<k->aV (bY ops) i k=true):=by
 unfold js at hd
 cases O:ops[k]? with
 |none=>rw[O]at hd;simp at hd
 |some x=>
  rw[O]at hd
  simp only[a0o]at hd
  constructor
  ·intro E;rcases T.reg.pair k i x o E O Z with h|h
   ·exact h
   exfalso;obtain⟨p1,U,p3⟩:=Oper.apart_spec h;rcases A with A|A
   ·exact p1 t hd A
   exact U t hd A
  intro E
  rcases T.reg.pair i k o x E Z O with h|h
  ·exact h
  exfalso
  obtain⟨p1,U,p3⟩:=Oper.apart_spec h
  rcases A with A|A
  ·exact p3 t hd A
  exact U t A hd
theorem slot_here(T:Trace P G cf ops st vl nf)(I:Inv ops st vl μ0 w0 d0 S μ a w)(R:Ready ops S i o){t:Tmp}(A:t∈o.looksAt ops):
  VRel μ (cH (st i).tmps t) (a.tmps.getD t undef):=by
 have:=I.tm t
 rw[tv_eq st vl ops (i:=i) (fun k=>T.tm k t) ops.size (fun k _ hd=>R.iff_ I.dc (share T R.at_ (.inl A) hd).1 (share T R.at_ (.inl A) hd).2)]at this
 rwa [a1R (a1Y R.lt)]at this
theorem operand_here(T:Trace P G cf ops st vl nf)(I:Inv ops st vl μ0 w0 d0 S μ a w)(R:Ready ops S i o)(O:GRel μ G)(A:o.op.operands.toList.all (bu G)=true):
  ∀x∈o.op.operands,VRel μ (cI (st i).tmps x) (a.eval x):=by
 intro x E
 refine eval_of O (a0y.1 A x (by simpa using E)) fun t U=>?_
 subst U
 refine slot_here T I R ?_
 unfold Oper.looksAt
 rw[a0i]
 left
 rw[List.mem_filterMap]
 exact⟨.tmp t,by simpa using E,V⟩
theorem wanted_here(T:Trace P G cf ops st vl nf)(I:Inv ops st vl μ0 w0 d0 S μ a w)(R:Ready ops S i o):aU ops o (st i).tmps=Region.wanted o (yielded ops a.tmps):=by
 refine wanted_eq (μ:=μ) fun j w A d hd=>slot_here T I R ?_
 unfold Oper.looksAt;rw[a0i];right;rw[A];simp only;rw[hd];simp
theorem between(T:Trace P G cf ops st vl nf){j k b:Nat}(A:(st j).heap.next<=b)(E:b<(st (j+1)).heap.next)(O:(st k).heap.next<=b)(U:b<(st (k+1)).heap.next):j=k:=by
 rcases Nat.lt_trichotomy j k with h|h|h
 ·have:=T.monoL (show j+1<=k from h);omega
 ·exact h
 have:=T.monoL (show k+1<=j from h);omega
theorem lw(T:Trace P G cf ops st vl nf)(I:Inv ops st vl μ0 w0 d0 S μ a w)(R:Ready ops S i o)(b:Nat)(A:(st i).heap.next<=b)(E:b<(st (i+1)).heap.next):μ b=none:=by
 cases O:μ b with
 |none=>rfl
 |some l=>
  exfalso
  rcases I.dom b l O with h|⟨k,_,hs,h3,h4⟩|h
  ·have:=T.monoL (a0p i);omega
  ·have:=between T A E h3 h4;subst this;rw[R.new]at hs;cases hs
  have:=T.monoL (show i+1<=ops.size from R.lt);omega
theorem kw(T:Trace P G cf ops st vl nf)(I:Inv ops st vl μ0 w0 d0 S μ a w)(R:Ready ops S i o){b:Nat}{l:Loc}(hb:μ b=some l)(an:b<(st i).heap.next)
  (Z: ∀k w',nf k= .x w'->b∈w'->k<ops.size->(k<i->aV (bY ops) k i=true)/\(i<k->aV (bY ops) i k=true)):jF st S ops.size b=(st i).heap.get b:=by
 rw[ky st (i:=i) ops.size,a1R (a1Y R.lt)]
 intro k O hc
 obtain⟨_,⟨A,E⟩|⟨w',A,E,h3⟩⟩:=T.chg hc
 ·--made there
  have U:k<i:=by
   rcases a0s k i with h|h
   ·exact h
   have:=T.monoL h;omega
  refine⟨fun _=>U,fun _=>?_⟩;rcases I.dom b l hb with h|⟨k',_,hs,h4,h5⟩|h
  ·have:=T.monoL (a0p k);omega
  ·have:=between T A E h4 h5;subst this;exact hs
  have:=T.monoL (a1Y R.lt);omega
 exact R.iff_ I.dc (Z k w' A E O).1 (Z k w' A E O).2
theorem gC(T:Trace P G cf ops st vl nf)(I:Inv ops st vl μ0 w0 d0 S μ a w)(R:Ready ops S i o){b:Nat}(hb:b<(st i).heap.next->∃l,μ b=some l)(aA:b<(st (i+1)).heap.next)
  (hw: ∀k w',nf k= .x w'->b∈w'->k<ops.size->(k<i->aV (bY ops) k i=true)/\(i<k->aV (bY ops) i k=true)):jF st (ji S i) ops.size b=(st (i+1)).heap.get b:=by
 rw[ky st (i:=i+1) ops.size,a1R R.lt]
 intro k Z hc
 by_cases O:k=i
 ·subst O;rw[gr];simp
 obtain⟨_,⟨A,E⟩|⟨w',A,E,h3⟩⟩:=T.chg hc
 ·have al:k<i:=by
   rcases a0s k i with h|h
   ·exact h
   have:=T.monoL (show i+1<=k by omega);omega
  rw[gt S O];refine⟨fun _=>by omega,fun _=>?_⟩;have U:b<(st i).heap.next:=by have:=T.monoL (show k+1<=i from al);omega
  obtain⟨l,hl⟩:=hb U;rcases I.dom b l hl with h|⟨k',_,hs,h4,h5⟩|h
  ·have:=T.monoL (a0p k);omega
  ·have:=between T A E h4 h5;subst this;exact hs
  have:=T.monoL (a1Y R.lt);omega
 exact R.iffAdd I.dc (hw k w' A E Z).1 (hw k w' A E Z).2
theorem iz(T:Trace P G cf ops st vl nf){b:Nat}(h: ¬chg st i b):jF st (ji S i) ops.size b=jF st S ops.size b:=by refine(lH st ops.size fun k _ hc=>?_);exact gt S (fun e=>by subst e;exact h hc)
theorem ij{b:Nat}: ∀{l:List Nat},memB b l=true↔b∈l
 | []=>by simp[memB]
 |c::l=>by
  unfold memB;rw[a11,ij (l:=l),a0r];constructor
  ·rintro(h|h)
   ·exact .inl (a07 h)
   exact .inr h
  rintro(rfl|h)
  ·exact .inl (a0Z b)
  exact .inr h
theorem gx(T:Trace P G cf ops st vl nf)(I:Inv ops st vl μ0 w0 d0 S μ a w)(R:Ready ops S i o):
  (∀t,o.dst=some t->tv st vl ops (ji S i) ops.size t=vl i)/\(∀t,o.dst≠some t->tv st vl ops (ji S i) ops.size t=tv st vl ops S ops.size t):=by
 constructor
 ·intro t A;rw[tv_eq st vl ops (i:=i+1) (fun k=>T.tm k t) ops.size (fun k _ hd=>R.iffAdd I.dc (share T R.at_ (.inr A) hd).1 (share T R.at_ (.inr A) hd).2),a1R R.lt,T.tm];rw[if_pos (by unfold js;rw[R.at_];exact A)]
 intro t A
 refine tv_congr st vl ops ops.size fun k _ hd=>gt S ?_
 intro e
 subst e
 unfold js at hd
 rw[R.at_]at hd
 exact A hd
theorem gz(T:Trace P G cf ops st vl nf)(I:Inv ops st vl μ0 w0 d0 S μ a w)(R:Ready ops S i o)(A: ∀b,(st (i+1)).heap.get b=(st i).heap.get b){v':Value}(O:VRel μ (vl i) v'):
  Inv ops st vl μ0 w0 d0 (ji S i) μ (a.put o.dst v') w:=by
 obtain⟨U,Z⟩:=gx T I R
 refine Inv.next (H:=jI (st i).heap.next) (Hn:=jI (st i).heap.next) I R.lt R.at_ (Post.refl (jH μ _ w)) O (fun k=>T.mono k) (a08 _) (T.mono i)
  (fun b l x _ h=>by rw[cS]at h;cases h) (fun b l x _ h=>by rw[cS]at h;cases h) (fun b l x E _ hc=>⟨E,V,?_⟩) (R.dc I.dc) (fun d hd=>?_) U Z
 ·rw[iz T (fun e=>e (A b))]at hc;exact hc
 have:=(T.fact i o R.at_).dlt d hd
 rwa [T.sizeL i]at this
theorem no_st(R:Ready ops S i o)(h:gY o.op=false){k:Nat}{f g:Inf}:stst ops k i g f=false/\stst ops i k g f=false:=by
 have:stAt ops i=false:=by unfold stAt;rw[R.at_];exact h
 unfold stst;rw[this];cases stAt ops k<;>exact⟨V,V⟩
theorem new_nst{p:Op}(h:dM p=true):gY p=false:=by cases p<;>first|rfl|cases h
theorem reads_nst{ρ:Operand->Value}{b:Nat}(h:kE ρ o b):gY o.op=false:=by rcases h with⟨_,_,_,h,_⟩|⟨_,_,_,_,_,_,_,_,h,_⟩<;>rw[h]<;>rfl
theorem mC{b:Nat}: ∀{w u:List Nat},disjL w u=true->b∈w->b∈u->False
 | [],_,_,h,_=>by cases h
 |c::w,u,h,hb,hu=>by
  unfold disjL at h;rw[a05,a0X]at h;rcases a0r.1 hb with rfl|hb
  ·rw[ij.2 hu]at h;cases h.1
  exact mC h.2 hb hu
theorem inv_step(f6:el P G cf)(T:Trace P G cf ops st vl nf)(I:Inv ops st vl μ0 w0 d0 S μ a w)(hG:GRel μ0 G)(R:Ready ops S i o){K:Act->World->Prop}{Q:Exit->Act->World->Prop}
  (hK: ∀μ' a' w',Inv ops st vl μ0 w0 d0 (ji S i) μ' a' w'->K a' w'):wpOp P ops Q i K a w:=by
 have e8:GRel μ G:=hG.mono I.ext0
 have F:=T.fact i o R.at_
 have ds:=wanted_here T I R
 unfold wpOp
 rw[R.at_]
 simp only
 rcases F.how with⟨hq,hv,hf,hn,hs⟩|⟨hq,fu,H1,H2,ax,a5,U,a3,dn,e5⟩
 ·rw[ds]at hq;rw[hq];simp only[a0k,if_false];exact hK μ _ w (gz T I R hs (by rw[hv];exact VRel.undef))
 rw[ds]at hq
 rw[hq]
 simp only[if_true]
 left
 have hρ:=operand_here T I R e8 fu
 have c7:WF (st i).heap:=T.wf i
 rcases e5 with⟨hf,hk|hk⟩|⟨hf,hk⟩|⟨b,hf,bn⟩|⟨wr,hf,g0,g1,go⟩
 rotate_left
 ·--a part of the nil slice
  unfold dK at U;split at U
  case h_2=>rename_i Z A;obtain⟨_,_,E⟩:=eH hk A;cases E
  case h_3=>rename_i f args Z A;obtain⟨_,_,E⟩:=eH hk A;cases E
  case h_4=>cases U
  rename_i u Z A;simp only[a03,a04]at U;obtain⟨e1,_⟩:=eH hk A;subst e1;obtain⟨rfl,rfl⟩:=U;obtain⟨v',a2,hr⟩:=nilcut_sound hk hρ A w;unfold Oper.wp;rw[a2,Oper.upon_value];exact hK μ _ w (gz T I R (fun b=>by rw[a3 b,ax b]) hr)
 rotate_right
 ·--a value
  have A: ∃u,aop P (cI (st i).tmps) o H1=some (.val u,H1)/\u=vl i/\H2=H1:=by
   unfold dK at U;split at U
   ·rename_i u Z A;simp only[a03,a04]at U;have:=kU hk A;subst this;exact⟨u,A,U.1,U.2.symm⟩
   ·rename_i Z A;obtain⟨_,E⟩:=jQ hk A;cases E
   ·rename_i f args Z A;obtain⟨_,E⟩:=jQ hk A;cases E
   cases U
  obtain⟨u,A,rfl,rfl⟩:=A;obtain⟨_,v,v',d8,a2,hr⟩:=jR hk hρ A;injection d8 with d8;subst d8;unfold Oper.wp;rw[a2 w,Oper.upon_value];exact hK μ _ w (gz T I R (fun b=>by rw[a3 b,ax b]) hr)
 ·--a new block
  unfold dK at U;split at U
  case h_2=>rename_i Z A;obtain⟨_,_,E,_⟩:=fj hk A;cases E
  case h_3=>rename_i f args Z A;obtain⟨_,_,E,_⟩:=fj hk A;cases E
  case h_4=>cases U
  rename_i u Z A;simp only[a03,a04]at U;obtain⟨rfl,rfl⟩:=U;obtain⟨u,O,hu,e6,fz⟩:=fj hk A;injection hu with hu;subst hu e6;have d3:(st (i+1)).heap.next=(st i).heap.next+1:=by rw[dn,Heap.next_push,a5]
  have f5:=fz (jI (st i).heap.next) (by rw[a5];rfl);obtain⟨n,w',μ',a2,hp,hr⟩:=gp hρ (jH μ _ w) (fun b bw bF=>lw T I R b bw (by rw[d3];exact bF)) f5;unfold Oper.wp;rw[a2];cases n with
  |value v'=>
   rw[Oper.upon_value]
   obtain⟨t1,t2⟩:=gx T I R
   have hw: ∀k w',nf k= .x w'->(st i).heap.next∈w'->k<ops.size->(k<i->aV (bY ops) k i=true)/\(i<k->aV (bY ops) i k=true):=by
    intro k w' E hm a7;have gm:(st i).heap.next<(st k).heap.next:=by
     have Fk:=T.fact k ops[k] (a0D a7);rcases Fk.how with⟨_,_,al,_⟩|⟨_,_,_,_,_,_,_,_,_,f8⟩
     ·rw[E]at al;cases al
     rcases f8 with⟨al,_⟩|⟨al,_⟩|⟨_,al,_⟩|⟨w2,al,f9,_,_⟩
     ·rw[E]at al;cases al
     ·rw[E]at al;cases al
     ·rw[E]at al;cases al
     rw[E]at al;injection al with al;subst al;exact f9 _ hm
    constructor
    ·intro bf;have:=T.monoL (a1Y bf);omega
    intro bb;rcases T.comp i k bb a7 with h|h|h
    ·exact h
    ·rw[hf,E]at h;simp only[dj]at h;rw[ij.2 hm]at h;cases h
    rw[(no_st R (new_nst hk)).2]at h;cases h
   have f1:jF st (ji S i) ops.size (st i).heap.next=some O:=by rw[gC T I R (fun h=>absurd h (Nat.lt_irrefl _)) (by rw[d3];omega) hw,a3,←a5,Heap.get_push_same]
   have e4: ∀b x,((jI (st i).heap.next).push O).get b=some x->b=(st i).heap.next/\x=O:=by
    intro b x E;by_cases c8:(jI (st i).heap.next).next=b
    ·subst c8;rw[Heap.get_push_same]at E;injection E with E;exact⟨V,E.symm⟩
    rw[Heap.get_push_ne _ _ c8,cS]at E;cases E
   refine hK μ' _ w' (Inv.next (H:=jI (st i).heap.next) (Hn:=(jI (st i).heap.next).push O) I R.lt R.at_ hp hr (fun k=>T.mono k) (a08 _) (by rw[d3];exact a08 _)
    (fun b l x _ h=>by rw[cS]at h;cases h) (fun b l x _ h=>?_) (fun b l x hb hg hc=>?_) (R.dc I.dc) (fun d hd=>?_) t1 t2)
   ·obtain⟨rfl,rfl⟩:=e4 b x h;exact f1
   ·have c8:b≠(st i).heap.next:=by rintro rfl;have:((jI (st i).heap.next).push O).get (st i).heap.next=some O:=Heap.get_push_same (jI (st i).heap.next) O;rw[this]at hg;cases hg
    have c0: ¬chg st i b:=by intro cv;apply cv;rw[a3,Heap.get_push_ne _ _ (by rw[a5];exact Ne.symm c8),ax]
    rw[iz T c0]at hc;rcases hp.dom b l hb with Z|⟨Z,h2⟩
    ·exact⟨Z,V,hc⟩
    exfalso;have g8:(st i).heap.next<=b:=Z;have g9:b<(st i).heap.next+1:=h2;omega
   have:=F.dlt d hd
   rwa [T.sizeL i]at this
  |_=>exact hr.elim
 ·--a load,or a part of a slice
  unfold dK at U;split at U
  case h_2=>rename_i Z A;obtain⟨_,_,E,_⟩:=eB bn A;cases E
  case h_3=>rename_i f args Z A;obtain⟨_,_,E,_⟩:=eB bn A;cases E
  case h_4=>cases U
  rename_i u Z A;simp only[a03,a04]at U;obtain⟨rfl,rfl⟩:=U;obtain⟨u,O,hu,rfl,d4,b4⟩:=eB bn A;injection hu with hu;subst hu;obtain⟨l,hμ⟩:=reads_loc bn hρ;have b6:b<(st i).heap.next:=c7.lt (by rw[←ax];exact d4);have a9:=kw T I R hμ b6 (fun k w' a0 hm a7=>by
   constructor
   ·intro bf;rcases T.comp k i bf R.lt with h|h|h
    ·exact h
    ·rw[hf,a0]at h;simp only[dj]at h;rw[ij.2 hm]at h;cases h
    rw[(no_st R (reads_nst bn)).1]at h;cases h
   intro bb;rcases T.comp i k bb a7 with h|h|h
   ·exact h
   ·rw[hf,a0]at h;simp only[dj]at h;rw[ij.2 hm]at h;cases h
   rw[(no_st R (reads_nst bn)).2]at h;cases h)
  have b9:WRel μ ((jI (st i).heap.next).put b O) w:=by
   refine⟨fun b' l' o' ba a8=>?_,fun b1 b2 l1 l2 o1 o2 aA _ _ b0 b3=>?_⟩
   ·by_cases ar:b=b'
    ·subst ar;rw[Heap.get_put_same]at a8;injection a8 with a8;subst a8;exact I.obj b l' O ba (by rw[a9,←ax];exact d4)
    rw[Heap.get_put_ne _ _ ar,cS]at a8;cases a8
   exfalso;by_cases Z:b=b1
   ·by_cases h2:b=b2
    ·exact aA (Z.symm.trans h2)
    rw[Heap.get_put_ne _ _ h2,cS]at b3;cases b3
   rw[Heap.get_put_ne _ _ Z,cS]at b0;cases b0
  obtain⟨v',co,hr⟩:=reads_sound bn hρ b9 (b4 _ (Heap.get_put_same _ _ _));unfold Oper.wp;rw[co,Oper.upon_value];exact hK μ _ w (gz T I R (fun b=>by rw[a3 b,ax b]) hr)
 cases d7:gY o.op with
 |true=>
  obtain⟨ty,pa,px,b,off,fi,fq,d1⟩:=go d7
  have b9: ∀k w',nf k= .x w'->b∈w'->k<ops.size->(k<i->aV (bY ops) k i=true)/\(i<k->aV (bY ops) i k=true):=by
   intro k w' a0 hm a7;have aA:isNilL w'=false:=by cases w' with
    |nil=>simp at hm
    |cons _ _=>rfl
   constructor
   ·intro bf;rcases T.comp k i bf R.lt with h|h|h
    ·exact h
    ·rw[hf,a0]at h;simp only[dj,aA,Bool.false_and]at h;cases h
    unfold stst at h;rw[hf,a0,a05,a05]at h;exact(mC h.2.2 hm d1).elim
   intro bb;rcases T.comp i k bb a7 with h|h|h
   ·exact h
   ·rw[hf,a0]at h;simp only[dj,aA,Bool.and_false]at h;cases h
   unfold stst at h;rw[hf,a0,a05,a05]at h;exact(mC h.2.2 d1 hm).elim
  unfold dK at U
  cases A:aop P (cI (st i).tmps) o H1 with
  |none=>rw[A]at U;cases U
  |some q=>
   obtain⟨r,H3⟩:=q
   obtain⟨rfl,b2,g7,O,e0,d5,hg,rfl,b4⟩:=kX fi A
   rw[fq]at d5
   simp only[Value.pointer.injEq,a03,Addr.mk.injEq,and_true]at d5
   obtain⟨rfl,rfl⟩:=d5
   rw[A]at U
   simp only[a03,a04]at U
   obtain⟨gs,rfl⟩:=U
   have b6:b<(st i).heap.next:=g0 b d1
   have f0: ∃l,μ b=some l:=by have Z:=hρ pa (by rw[fi];simp[Op.operands]);rw[fq]at Z;obtain⟨l,hl,_⟩:=Z.ptr_inv;exact⟨l,hl⟩
   obtain⟨l,hμ⟩:=f0
   have a9:=kw T I R hμ b6 b9
   have fb:((jI (st i).heap.next).put b O).get b=some O:=Heap.get_put_same _ _ _
   have b8: ∀b' x,((jI (st i).heap.next).put b O).get b'=some x->b'=b/\x=O:=by
    intro b' x E;by_cases ar:b=b'
    ·subst ar;rw[fb]at E;injection E with E;exact⟨V,E.symm⟩
    rw[Heap.get_put_ne _ _ ar,cS]at E;cases E
   have ci:WRel μ ((jI (st i).heap.next).put b O) w:=by
    refine⟨fun b' l' o' ba a8=>?_,fun b1 b2 l1 l2 o1 o2 aA _ _ b0 b3=>?_⟩
    ·obtain⟨rfl,rfl⟩:=b8 b' o' a8;exact I.obj b' l' o' ba (by rw[a9,←ax];exact hg)
    exact absurd ((b8 b1 o1 b0).1.trans (b8 b2 o2 b3).1.symm) aA
   have a2:=b4 _ fb
   have f7: ∀b',((jI (st i).heap.next).put b O).next<=b'->b'<(((jI (st i).heap.next).put b O).put b e0).next->μ b'=none:=fun b' Z h2=>absurd h2 (Nat.not_lt_of_le Z)
   obtain⟨n,w',μ',co,hp,hr⟩:=gp hρ ci f7 a2
   unfold Oper.wp
   rw[co]
   cases n with
   |skip=>
    rw[Oper.upon_skip]
    obtain⟨t1,t2⟩:=gx T I R
    refine hK μ' _ w' (Inv.next (H:=(jI (st i).heap.next).put b O) (Hn:=((jI (st i).heap.next).put b O).put b e0) I R.lt R.at_ hp (by rw[←gs];exact VRel.undef) (fun k=>T.mono k) (a08 _) (T.mono i)
     (fun b' l' x ba E=>?_) (fun b' l' x ba E=>?_) (fun b' l' x ba E hc=>?_) (R.dc I.dc) (fun d hd=>?_) t1 t2)
    ·obtain⟨rfl,rfl⟩:=b8 b' x E;rw[a9,←ax];exact hg
    ·by_cases ar:b=b'
     ·subst ar;rw[Heap.get_put_same]at E;rw[gC T I R (fun _=>⟨l,hμ⟩) (a10 b6 (T.mono i)) b9,a3,Heap.get_put_same];exact E
     rw[Heap.get_put_ne _ _ ar,Heap.get_put_ne _ _ ar,cS]at E;cases E
    ·have ar:b≠b':=by rintro rfl;rw[Heap.get_put_same]at E;cases E
     have c0: ¬chg st i b':=by intro cv;exact cv (by rw[a3,Heap.get_put_ne _ _ ar,ax])
     rw[iz T c0]at hc;rcases hp.dom b' l' ba with Z|⟨Z,h2⟩
     ·exact⟨Z,by rw[Heap.get_put_ne _ _ ar,cS],hc⟩
     exact absurd h2 (Nat.not_lt_of_le Z)
    have:=F.dlt d hd
    rwa [T.sizeL i]at this
   |_=>exact hr.elim
 |false=>
 have em: ∀b k w',nf k= .x w'->b∈w'->k<ops.size->(k<i->aV (bY ops) k i=true)/\(i<k->aV (bY ops) i k=true):=by
  intro b k w' a0 hm a7;have aA:isNilL w'=false:=by cases w' with
   |nil=>simp at hm
   |cons _ _=>rfl
  constructor
  ·intro bf;rcases T.comp k i bf R.lt with h|h|h
   ·exact h
   ·rw[hf,a0]at h;simp only[dj,aA,Bool.false_and]at h;cases h
   rw[(no_st R d7).1]at h;cases h
  intro bb;rcases T.comp i k bb a7 with h|h|h
  ·exact h
  ·rw[hf,a0]at h;simp only[dj,aA,Bool.and_false]at h;cases h
  rw[(no_st R d7).2]at h;cases h
 have c9: ∀b l x,μ b=some l->H1.get b=some x->jF st S ops.size b=some x:=by intro b l x hb E;rw[ax]at E;rw[kw T I R hb (c7.lt E) (em b)];exact E
 have ee:WF H1:=fun b hb=>by rw[ax];exact c7 b (by rw[←a5];exact hb)
 have ci:WRel μ H1 w:=⟨fun b l x hb E=>I.obj b l x hb (c9 b l x hb E),fun b1 b2 l1 l2 o1 o2 aA bw bF b0 b3=>I.inj b1 b2 l1 l2 o1 o2 aA bw bF (c9 b1 l1 o1 bw b0) (c9 b2 l2 o2 bF b3)⟩
 refine i9 f6 ee hρ e8 ci (fun b bw bF=>lw T I R b (by rw[←a5];exact bw) (by rw[dn];exact bF)) U ?_
 intro μ' w' v' hp hv
 obtain⟨t1,t2⟩:=gx T I R
 have dk: ∀b l,μ' b=some l->b<(st i).heap.next->∃l,μ b=some l:=by
  intro b l hb gm;rcases hp.dom b l hb with h|⟨h,_⟩
  ·exact⟨l,h⟩
  rw[a5]at h;omega
 refine hK μ' _ w' (Inv.next (H:=H1) (Hn:=H2) I R.lt R.at_ hp hv (fun k=>T.mono k) (by rw[a5];exact a08 _) (by rw[dn];exact a08 _) c9 (fun b l x hb E=>?_) (fun b l x hb E hc=>?_) (R.dc I.dc) (fun d hd=>?_) t1 t2)
 ·rw[←a3]at E;rw[gC T I R (dk b l hb) ((T.wf (i+1)).lt E) (em b)];exact E
 ·rw[←a3]at E;have fd:(st (i+1)).heap.next<=b:=by
   rcases a0s b (st (i+1)).heap.next with h|h
   ·rw[gC T I R (dk b l hb) h (em b),E]at hc;cases hc
   exact h
  have c0: ¬chg st i b:=fun cv=>cv (F.far b fd)
  rw[iz T c0]at hc;refine⟨?_,?_,hc⟩
  ·rcases hp.dom b l hb with h|⟨_,h⟩
   ·exact h
   rw[←dn]at h;omega
  exact ee b (by rw[a5];exact a0a F.next fd)
 have:=F.dlt d hd
 rwa [T.sizeL i]at this
end
end Go.R
namespace Go.R
section
variable {P:Program} {G:Nat} {cf:cm} {ops:Array Oper} {st:Nat->St} {vl:Nat->Value} {nf:Nat->Inf}
variable {μ0 μ:Emb} {w0 w:World} {d0:List Deferred} {a:Act}
def cnt(S:Nat->Bool):Nat->Nat
 |0=>0
 |n+1=>cnt S n+if S n=true then 0 else 1
theorem cnt_far{S:Nat->Bool}{i:Nat}: ∀n,n<=i->cnt (ji S i) n=cnt S n
 |0,_=>rfl
 |n+1,h=>by have:=cnt_far (S:=S) (i:=i) n M;simp only[cnt,this,gt S (show n≠i by omega)]
theorem cnt_add{S:Nat->Bool}{i:Nat}(hs:S i=false): ∀n,i<n->cnt (ji S i) n+1=cnt S n
 |0,h=>by omega
 |n+1,h=>by
  by_cases hi:i=n
  ·subst hi;simp only[cnt,cnt_far i (a08 i),gr,hs,if_true,a0k,if_false]
  have:=cnt_add hs n M;simp only[cnt,gt S (show n≠i by omega)];omega
theorem cnt_zero{S:Nat->Bool}: ∀n,cnt S n=0->∀k,k<n->S k=true
 |0,_,k,h=>by omega
 |n+1,h,k,hk=>by
  simp only[cnt]at h;by_cases hs:S n=true
  ·by_cases A:k=n
   ·subst A;exact hs
   exact cnt_zero n M k M
  rw[if_neg hs]at h;omega
theorem cnt_le{S:Nat->Bool}: ∀n,cnt S n<=n
 |0=>a08 _
 |n+1=>by have:=cnt_le (S:=S) n;simp only[cnt];split<;>omega
def gN(listed:Array Bool):Nat->Bool:=fun k=>listed.getD k false
theorem setOf_set{listed:Array Bool}{i:Nat}(hi:i<listed.size):gN (listed.setIfInBounds i true)=ji (gN listed) i:=by
 funext k;unfold gN ji;simp only[a0M,a1b];by_cases A:i=k
 ·subst A;simp[hi]
 have:Nat.beq k i=false:=by
  cases E:Nat.beq k i with
  |false=>rfl
  |true=>exact absurd (a07 E).symm A
 simp[A,this]
theorem j3{listed:Array Bool}(hl:listed.size=ops.size){i:Nat}:i∈Region.ready .any ops listed↔
  ∃o,Ready ops (gN listed) i o:=by
 unfold Region.ready
 rw[List.mem_filter,a20]
 constructor
 ·rintro⟨hi,h⟩;have A:ops[i]?=some ops[i]:=a0D hi;rw[A]at h;simp only[a05,a0X,a1A,a1p]at h;refine⟨ops[i],A,?_,fun e O E=>?_⟩
  ·unfold gN;have Z:=h.1;simp only[a0M,a0D (show i<listed.size by omega),a1p]at Z⊢;exact Z
  have h2:=h.2;rw[Array.all_eq_true']at h2;have:=h2 e (by simpa using O);rw[E]at this;simpa[gN] using this
 rintro⟨o,A,U,O⟩
 have hi:i<ops.size:=(a0z.1 A).1
 refine⟨hi,?_⟩
 rw[A]
 simp only[a05,a0X,a1A,a1p]
 constructor
 ·unfold gN at U;simp only[a0M,a0D (show i<listed.size by omega),a1p]at U⊢;exact U
 rw[Array.all_eq_true']
 intro e an
 cases E:Region.binds .any e with
 |false=>rfl
 |true=>
  have:=O e (by simpa using an) E
  simpa[gN] using this
theorem all_of_none(T:Trace P G cf ops st vl nf){listed:Array Bool}(hl:listed.size=ops.size)(h:Region.ready .any ops listed=[]): ∀k,k<ops.size->gN listed k=true:=by
 intro k;induction k using Nat.strongRecOn with
 |_ k ih=>
  intro Z
  cases hs:gN listed k with
  |true=>rfl
  |false=>
   exfalso
   have E:=a0D Z
   have:k∈Region.ready .any ops listed:=(j3 hl).2 ⟨ops[k],E,hs,fun e U O=>by
    have A:=T.reg.back k ops[k] E e U O;exact ih e.on A M⟩
   rw[h]at this;simp at this
theorem any_sound(O:el P G cf)(T:Trace P G cf ops st vl nf)(Z:GRel μ0 G){Q:Exit->Act->World->Prop}
  (U: ∀S μ a w,(∀k,k<ops.size->S k=true)->Inv ops st vl μ0 w0 d0 S μ a w->Q .normal a w):
  ∀(fuel:Nat) (listed:Array Bool) (μ:Emb) (a:Act) (w:World),listed.size=ops.size->cnt (gN listed) ops.size<=fuel->Inv ops st vl μ0 w0 d0 (gN listed) μ a w->
   wpAny P .any ops Q fuel listed a w
 |0,listed,μ,a,w,hl,hc,I=>by
  have A:=cnt_zero ops.size (by omega:cnt (gN listed) ops.size=0);refine⟨?_,U _ μ a w A I⟩;cases hr:Region.ready .any ops listed with
  |nil=>rfl
  |cons i t=>
   exfalso
   have hm:i∈Region.ready .any ops listed:=by rw[hr];simp
   obtain⟨o,R⟩:=(j3 hl).1 hm
   have:=A i R.lt
   rw[R.new]at this;cases this
 |fuel+1,listed,μ,a,w,hl,hc,I=>by
  refine⟨fun h=>U _ μ a w (all_of_none T hl h) I,fun i hi=>?_⟩;obtain⟨o,R⟩:=(j3 hl).1 hi;refine inv_step O T I Z R fun μ' a' w' I'=>?_
  have E:=setOf_set (listed:=listed) (i:=i) (by rw[hl];exact R.lt);refine any_sound O T Z U fuel (listed.setIfInBounds i true) μ' a' w' (by simp[hl]) ?_ (by rw[E];exact I');rw[E];have:=cnt_add R.new ops.size R.lt;omega
theorem inv_start(T:Trace P G cf ops st vl nf)(ht:TRel μ0 (st 0).tmps (st 0).size a.tmps)(hw:WRel μ0 (st 0).heap w)(O: ∀b l,μ0 b=some l->b<(st 0).heap.next\/(st ops.size).heap.next<=b)(S:Nat->Bool)(E: ∀k,S k=false):
  Inv ops st vl μ0 w a.defers S μ0 a w:=by
 have hc: ∀b,jF st S ops.size b=(st 0).heap.get b:=by intro b;have:=ky st (S:=S) (b:=b) (i:=0) ops.size (fun k _ _=>by rw[E k];simp);rwa [Nat.min_zero]at this
 have a2: ∀t,tv st vl ops S ops.size t=cH (st 0).tmps t:=by intro t;have:=tv_eq st vl ops (S:=S) (t:=t) (i:=0) (fun k=>T.tm k t) ops.size (fun k _ _=>by rw[E k];simp);rwa [Nat.min_zero]at this
 refine⟨(fun k o _ hk=>by rw[E k]at hk;cases hk),fun b l A=>?_,fun b l o A U=>hw.obj b l o A (by rw[←hc];exact U),fun b1 b2 l1 l2 o1 o2 ax Z al aA a0=>hw.inj b1 b2 l1 l2 o1 o2 ax Z al (by rw[←hc];exact aA) (by rw[←hc];exact a0),
  ht.1,fun t=>by rw[a2];exact ht.2 t,V,fun _ _ h=>h,fun _ _ h=> .inl h,a08 _,V,V,V,fun _ _ _=>rfl,fun b l o A U ar=> .inr ⟨b,l,o,A,by rw[←hc];exact U,ar,id,V⟩⟩
 rcases O b l A with h|h
 ·exact .inl h
 exact .inr (.inr h)
theorem inv_end(T:Trace P G cf ops st vl nf){S:Nat->Bool}(A: ∀k,k<ops.size->S k=true)(I:Inv ops st vl μ0 w0 d0 S μ a w):
  Post μ0 (st 0).heap w0 μ (st ops.size).heap w/\TRel μ (st ops.size).tmps (st ops.size).size a.tmps/\a.defers=d0:=by
 have hc: ∀b,jF st S ops.size b=(st ops.size).heap.get b:=by intro b;have:=ky st (S:=S) (b:=b) (i:=ops.size) ops.size (fun k E _=>by rw[A k E];simp[E]);rwa [Nat.min_self]at this
 have a0: ∀t,tv st vl ops S ops.size t=cH (st ops.size).tmps t:=by intro t;have:=tv_eq st vl ops (S:=S) (t:=t) (i:=ops.size) (fun k=>T.tm k t) ops.size (fun k E _=>by rw[A k E];simp[E]);rwa [Nat.min_self]at this
 refine⟨⟨I.ext0,I.dom0,I.grow0,I.os0,I.tape0,I.out0,I.keep0,fun b l o O U an=>I.img0 b l o O (by rw[hc];exact U) an,
  ⟨fun b l o O U=>I.obj b l o O (by rw[hc];exact U),fun b1 b2 l1 l2 o1 o2 ar Z al ax aA=>I.inj b1 b2 l1 l2 o1 o2 ar Z al (by rw[hc];exact ax) (by rw[hc];exact aA)⟩⟩,⟨?_,fun t=>?_⟩,I.defers⟩
 ·rw[I.size,T.sizeL ops.size]
 have:=I.tm t
 rwa [a0]at this
end
section
variable {P:Program} {G:Nat} {cf:cm} {ops:Array Oper}
theorem ig(an:el P G cf): ∀(l:List Oper) (k:Nat) (fs:List (Nat×Inf)) (s s':St),ops.toList.drop k=l->k+l.length=ops.size->bh P G cf ops k fs l s=some s'->WF s.heap->
  ∃(st:Nat->St) (vl:Nat->Value) (nf:Nat->Inf),st k=s/\st ops.size=s'/\(∀j,ops.size<=j->st (j+1)=st j)/\(∀j,k<=j->WF (st j).heap)/\
   (∀j o,k<=j->ops[j]?=some o->OpFact P G cf ops o (st j) (st (j+1)) (vl j) (nf j))/\
   (∀j,k<=j->j<ops.size->∀q∈fs,aV (bY ops) q.1 j=true\/dj q.2 (nf j)=true\/stst ops q.1 j q.2 (nf j)=true)/\
   (∀i j,k<=i->i<j->j<ops.size->aV (bY ops) i j=true\/dj (nf i) (nf j)=true\/stst ops i j (nf i) (nf j)=true)
 | [],k,fs,s,s',hd,hlen,h,hw=>by simp only[bh,a03]at h;subst h;simp only[a02,a1X]at hlen;refine⟨fun _=>s,fun _=>undef,fun _=> .v,V,V,fun _ _=>rfl,fun _ _=>hw,fun j o O U=>?_,fun j O bt=>by omega,fun i j hi ax O=>by omega⟩;have:=(a0z.1 U).1;omega
 |x::os,k,fs,s,s',hd,hlen,h,hw=>by
  simp only[a01]at hlen;unfold bh at h;split at h
  case h_2=>cases h
  rename_i s1 f h1;cases E:bZ ops (bY ops) k f fs with
  |false=>rw[E]at h;cases h
  |true=>
   rw[E]at h
   simp only[cond_true]at h
   obtain⟨v,F⟩:=stepD_fact an hw h1
   have a6:WF s1.heap:=fun b hb=>by rw[F.far b hb];exact hw b (a0a F.next hb)
   have hk:k<ops.toList.length:=by simp;omega
   have ar:=a0W hk
   rw[hd]at ar
   injection ar with e1 e2
   have a5:ops[k]?=some x:=by rw[←a1O,a09 hk,←e1]
   obtain⟨st,vl,nf,g1,g2,g3,g4,g5,g6,g7⟩:=ig an os (k+1) ((k,f)::fs) s1 s' e2.symm M h a6
   have al: ∀(l:List (Nat×Inf)),bZ ops (bY ops) k f l=true->∀q∈l,aV (bY ops) q.1 k=true\/dj q.2 f=true\/stst ops q.1 k q.2 f=true:=by
    intro l;induction l with
    |nil=>intro _ q E;simp at E
    |cons p l ih=>
     intro hl q E
     obtain⟨pj,pg⟩:=p
     simp only[bZ,a05,a11]at hl
     rcases a0r.1 E with rfl|E
     ·exact hl.1
     exact ih hl.2 q E
   refine⟨fun j=>if j<=k then s else st j,fun j=>if j<=k then v else vl j,fun j=>if j<=k then f else nf j,by simp,?_,fun j O=>?_,fun j O=>?_,fun j o O U=>?_,fun j O Z q aA=>?_,fun i j hi ax Z=>?_⟩
   ·simp only[show ¬(ops.size<=k) by omega,if_false];exact g2
   ·simp only[show ¬(j<=k) by omega,show ¬(j+1<=k) by omega,if_false];exact g3 j O
   ·by_cases A:j<=k
    ·simp only[A,if_true];exact hw
    simp only[A,if_false];exact g4 j M
   ·by_cases A:j=k
    ·subst A;rw[a5]at U;injection U with U;subst U;simp only[a08,if_true,show ¬(j+1<=j) by omega,if_false,g1];exact F
    simp only[show ¬(j<=k) by omega,show ¬(j+1<=k) by omega,if_false];exact g5 j o M U
   ·by_cases A:j=k
    ·subst A;simp only[a08,if_true];exact al fs E q aA
    simp only[show ¬(j<=k) by omega,if_false];exact g6 j M Z q (a0m _ aA)
   by_cases a3:i=k
   ·subst a3;simp only[a08,if_true,show ¬(j<=i) by omega,if_false];exact g6 j M Z (i,f) (by simp)
   simp only[show ¬(i<=k) by omega,show ¬(j<=k) by omega,if_false]
   exact g7 i j M ax Z
def Dom(μ:Emb)(H:Heap):Prop:= ∀b l,μ b=some l->b<H.next
theorem region_sound(Z:el P G cf){id:Nat}{E:Bool}{s A:St}(h:bL P G cf ops E s=some A){μ:Emb}{a:Act}{w:World}{Q:Exit->Act->World->Prop}
  (a0:WF s.heap) (ht:TRel μ s.tmps s.size a.tmps) (hG:GRel μ G) (hw:WRel μ s.heap w) (al: ∀b l,μ b=some l->b<s.heap.next\/A.heap.next<=b)
  (hQ: ∀μ' w' O,Post μ s.heap w μ' A.heap w'->TRel μ' A.tmps A.size O.tmps->O.defers=a.defers->Q .normal O w'):(Code.region id ops E).wp P Q a w:=by
 have an: ∀b,s.heap.next<=b->b<A.heap.next->μ b=none:=by
  intro b h1 h2;cases hb:μ b with
  |none=>rfl
  |some l=>rcases al b l hb with h3|h3<;>omega
 unfold bL at h
 cases E with
 |false=>
  simp only[cond_false]at h
  refine wp_region ?_
  rw[List.range_eq_range']
  have:=i0 Z ops.toList 0 s A V h μ a w a0 ht hG hw an (Q:=Q) hQ
  simpa using this
 |true=>
  simp only[cond_true]at h
  cases hq:(jp ops&&P.follows .mixedOrders) with
  |false=>rw[hq]at h;cases h
  |true=>
   rw[hq]at h
   simp only[cond_true]at h
   simp only[a05]at hq
   obtain⟨st,vl,nf,U,g2,g3,g4,g5,_,g7⟩:=ig Z ops.toList 0 [] s A V (by simp) h a0
   have T:Trace P G cf ops st vl nf:=⟨fun k o ho=>g5 k o (a0p _) ho,g3,fun j k a5 hk=>g7 j k (a0p _) a5 hk,regOK_facts hq.1,fun k=>g4 k (a0p _)⟩
   refine wp_region_any hq.2 ?_
   rw[World.drew_eq]
   have I:=inv_start (a:=a) (w:=w.drew) (μ0:=μ) T (by rw[U];exact ht) (by rw[U];exact hw.drew) (by rw[U,g2];exact al) (gN (Array.replicate ops.size false)) (fun k=>by
    unfold gN;simp[a0M,Array.getElem?_replicate];split<;>rfl)
   refine any_sound Z T hG (fun S μ' O w' hS I'=>?_) ops.size _ μ a w.drew (by simp) (cnt_le _) I
   obtain⟨hp,aA,a4⟩:=inv_end T hS I'
   rw[U,g2]at hp
   rw[g2]at aA
   refine hQ μ' w' O ((Post.drew hw).trans hp (a08 _) ?_) aA a4
   have:=T.monoL (a0p ops.size)
   rwa [U,g2]at this
end
end Go.R
namespace Go.R
open Go.RowKit
def Ex.toExit:Ex->Exit
 | .normal=> .normal
 | .exit id=> .exit id
 | .ret=> .ret
def LoopWp(P:Program)(c:Code)(Q:Exit->Act->World->Prop)(a:Act)(w:World):Prop:=
 ∀(b:Frame) (k:List Item) (cs:List Frame),∃e A w',Q e A w'/\Arrives P (lone (b.at a (.code c:: .inLoop c::k)) cs w) b k cs e A w'
theorem LoopWp.wp{P:Program}{c:Code}{Q:Exit->Act->World->Prop}{a:Act}{w:World}(h:LoopWp P c Q a w):(Code.loop c).wp P Q a w:=
 fun b k cs=>let⟨e,a',w',q,r⟩:=h b k cs;⟨e,a',w',q,.of_steps (.one step_loop) r⟩
theorem LoopWp.round{P:Program}{c:Code}{Q:Exit->Act->World->Prop}{a:Act}{w:World}(h:c.wp P (Exit.then (LoopWp P c Q) Q) a w):LoopWp P c Q a w:=by
 intro b k cs;obtain⟨e,O,U,E,A⟩:=h b (.inLoop c::k) cs;cases e with
 |normal=>
  obtain⟨e₂,a₂,w₂,al,Z⟩:=E b k cs
  exact⟨e₂,a₂,w₂,al,.of_steps (Steps.trans A (.one step_inLoop)) Z⟩
 |exit id=>exact⟨_,O,U,E,.pass (x:= .inLoop c) V (fun _ _=> .inl (by simp)) A⟩
 |goto l=>exact⟨_,O,U,E,.pass (x:= .inLoop c) V (fun _ _=> .inl (by simp)) A⟩
 |ret=>exact⟨_,O,U,E,.pass (x:= .inLoop c) V (fun _ _=> .inl (by simp)) A⟩
 |panic ch=>exact⟨_,O,U,E,.pass (x:= .inLoop c) V (fun _ _=> .inl (by simp)) A⟩
 |outgrown=>exact⟨_,O,U,E,.pass (x:= .inLoop c) V (fun _ _=> .inl (by simp)) A⟩
def Wp(P:Program)(c:Code)(Q:Exit->Act->World->Prop)(a:Act)(w:World):Prop:=
 match c with
 | .loop b=>LoopWp P b Q a w
 |c=>c.wp P Q a w
theorem Wp.wp{P:Program}{c:Code}{Q:Exit->Act->World->Prop}{a:Act}{w:World}(h:Wp P c Q a w):c.wp P Q a w:=by cases c<;>first|exact LoopWp.wp h|exact h
def After(μ:Emb)(s:St)(w:World)(e:Ex)(A:St):Exit->Act->World->Prop:=fun O E U=>
 O=e.toExit/\E.defers=[]/\∃μ',Post μ s.heap w μ' A.heap U/\TRel μ' A.tmps A.size E.tmps
def ExOK(P:Program)(G:Nat)(ex:Code->St->Option (Ex×St)):Prop:= ∀c s e A,ex c s=some (e,A)->WF s.heap->Ext s.heap A.heap/\
 ∀μ a w,a.defers=[]->TRel μ s.tmps s.size a.tmps->GRel μ G->WRel μ s.heap w->(∀b,s.heap.next<=b->b<A.heap.next->μ b=none)->Wp P c (After μ s w e A) a w
section
variable {P:Program} {G:Nat}
theorem lu{μ A:Emb}{H H1 E:Heap}{w w1:World}(hp:Post μ H w A H1 w1)(O:H.next<=H1.next)(hf: ∀b,H.next<=b->b<E.next->μ b=none): ∀b,H1.next<=b->b<E.next->A b=none:=by
 intro b U Z;cases hb:A b with
 |none=>rfl
 |some l=>
  rcases hp.dom b l hb with h|⟨_,h⟩
  ·rw[hf b (a0a O U) Z]at h;cases h
  omega
theorem After.trans{μ μ1:Emb}{s A U:St}{w w1:World}{e:Ex}(hp:Post μ s.heap w μ1 A.heap w1)(h1:s.heap.next<=A.heap.next)(h2:A.heap.next<=U.heap.next):
  ∀O E Z,After μ1 A w1 e U O E Z->After μ s w e U O E Z:=by
 rintro O E Z ⟨he,hd,μ2,hp2,ht⟩
 exact⟨he,hd,μ2,hp.trans hp2 h1 h2,ht⟩
theorem region_ext{cf:cm}(al:el P G cf){ops:Array Oper}{E:Bool}{s A:St}(Z:WF s.heap)(h:bL P G cf ops E s=some A):Ext s.heap A.heap:=by
 unfold bL at h;cases E with
 |false=>exact iN al _ _ _ Z h
 |true=>
  simp only[cond_true]at h
  cases U:(jp ops&&P.follows .mixedOrders) with
  |false=>rw[U]at h;cases h
  |true=>
   rw[U]at h
   simp only[cond_true]at h
   have key: ∀(l:List Oper) (k:Nat) (fs:List (Nat×Inf)) (s A:St),WF s.heap->bh P G cf ops k fs l s=some A->Ext s.heap A.heap:=by
    intro l;induction l with
    |nil=>intro k fs s A _ h;simp only[bh,a03]at h;subst h;exact Ext.refl _
    |cons o os ih=>
     intro k fs s A Z h
     unfold bh at h
     split at h
     case h_2=>cases h
     rename_i s1 f O
     cases U:bZ ops (bY ops) k f fs with
     |false=>rw[U]at h;cases h
     |true=>
      rw[U]at h
      simp only[cond_true]at h
      have e1:Ext s.heap s1.heap:=by
       unfold gM at O;split at O
       case h_2=>cases O
       rename_i t aA;simp only[a03,a04]at O;obtain⟨rfl,_⟩:=O;have e0:=jz al (s:={s with heap:={s.heap with log:=[]}}) Z aA;obtain⟨d,hd,hs⟩:=e0.log;refine⟨e0.next,⟨dI s.heap.next t.heap.log,V,fun b hb hn=>?_⟩,e0.far⟩;refine hs b hb fun hm=>hn (fk.2 ⟨?_,hb⟩)
       rw[hd,a0f];exact hm
      exact e1.trans (ih _ _ _ _ (Z.ext e1) h)
   exact key _ _ _ _ _ Z h
theorem execC_ok{rec_:Code->St->Option (Ex×St)}{cf:cm}(bb:ExOK P G rec_)(a9:el P G cf):ExOK P G (eJ P G rec_ cf):=by
 intro c;induction c with
 |skip=>
  intro s e s' h hw
  rw[lA]at h
  simp only[a03,a04]at h
  obtain⟨rfl,rfl⟩:=h
  exact⟨Ext.refl _,fun μ a w hd E O Z _=>wp_skip ⟨V,hd,μ,Post.refl Z,E⟩⟩
 |region id ops draw=>
  intro s e s' h hw
  rw[gh]at h
  unfold ec at h
  split at h
  ·rename_i s1 h1;simp only[a03,a04]at h;obtain⟨rfl,rfl⟩:=h;refine⟨region_ext a9 hw h1,fun μ a w hd E O Z hf=>?_⟩;refine region_sound a9 h1 hw E O Z (fun b l hb=>?_) fun μ' w' a' hp bl bf=>⟨V,bf.trans hd,μ',hp,bl⟩
   rcases a0s b s.heap.next with h2|h2
   ·exact .inl h2
   right;rcases a0s b s1.heap.next with h3|h3
   ·rw[hf b h2 h3]at hb;cases hb
   exact h3
  cases h
 |seq x y ihx ihy=>
  intro s e s' h hw
  rw[kr]at h
  cases hx:eJ P G rec_ cf x s with
  |none=>rw[hx]at h;cases h
  |some p=>
   obtain⟨e1,s1⟩:=p
   obtain⟨A,U⟩:=ihx s e1 s1 hx hw
   rw[hx]at h
   cases e1 with
   |normal=>
    simp only[gi]at h
    obtain⟨ax,a6⟩:=ihy s1 e s' h (hw.ext A)
    refine⟨A.trans ax,fun μ a w hd E O Z hf=>wp_seq ?_⟩
    refine wp_mono (U μ a w hd E O Z (fun b h1 h2=>hf b h1 (a10 h2 ax.next))).wp ?_
    rintro e2 a2 w2 ⟨rfl,hd2,μ2,hp2,ht2⟩
    exact wp_mono (a6 μ2 a2 w2 hd2 ht2 (O.mono hp2.ext) hp2.wrel (lu hp2 A.next hf)).wp (After.trans hp2 A.next ax.next)
   |exit i=>
    simp only[gi,a03,a04]at h
    obtain⟨rfl,rfl⟩:=h
    refine⟨A,fun μ a w hd E O Z hf=>wp_seq ?_⟩
    refine wp_mono (U μ a w hd E O Z hf).wp ?_
    rintro e2 a2 w2 ⟨rfl,hrest⟩
    exact⟨V,hrest⟩
   |ret=>
    simp only[gi,a03,a04]at h
    obtain⟨rfl,rfl⟩:=h
    refine⟨A,fun μ a w hd E O Z hf=>wp_seq ?_⟩
    refine wp_mono (U μ a w hd E O Z hf).wp ?_
    rintro e2 a2 w2 ⟨rfl,hrest⟩
    exact⟨V,hrest⟩
 |cond c x y ihx ihy=>
  intro s e s' h hw
  rw[iS]at h
  cases hq:bu G c with
  |false=>rw[hq]at h;cases h
  |true=>
   rw[hq]at h
   simp only[cond_true]at h
   unfold lD at h
   split at h
   ·rename_i t hv;have a7: ∀(μ:Emb) (a:Act),TRel μ s.tmps s.size a.tmps->GRel μ G->a.eval c= .bool t:=by
     intro μ a E O;have:=eval_of O hq (tm:=s.tmps) (a:=a) fun k _=>E.2 k
     rw[hv]at this;exact this.bool_inv
    cases t with
    |true=>
     obtain⟨A,U⟩:=ihx s e s' h hw
     exact⟨A,fun μ a w hd E O Z hf=>wp_cond_true (a7 μ a E O) (U μ a w hd E O Z hf).wp⟩
    |false=>
     obtain⟨A,U⟩:=ihy s e s' h hw
     exact⟨A,fun μ a w hd E O Z hf=>wp_cond_false (a7 μ a E O) (U μ a w hd E O Z hf).wp⟩
   cases h
 |block id x ih=>
  intro s e s' h hw
  rw[hE]at h
  cases hx:eJ P G rec_ cf x s with
  |none=>rw[hx]at h;cases h
  |some p=>
   obtain⟨e1,s1⟩:=p
   obtain⟨A,U⟩:=ih s e1 s1 hx hw
   rw[hx]at h
   cases e1 with
   |normal=>
    simp only[cW,a03,a04]at h
    obtain⟨rfl,rfl⟩:=h
    refine⟨A,fun μ a w hd E O Z hf=>wp_block ?_⟩
    refine wp_mono (U μ a w hd E O Z hf).wp ?_
    rintro e2 a2 w2 ⟨rfl,hrest⟩
    exact⟨V,hrest⟩
   |exit i=>
    simp only[cW]at h
    cases hb:Nat.beq i id with
    |true=>
     rw[hb]at h
     simp only[cond_true,a03,a04]at h
     obtain⟨rfl,rfl⟩:=h
     have hi:i=id:=a07 hb
     subst hi
     refine⟨A,fun μ a w hd E O Z hf=>wp_block ?_⟩
     refine wp_mono (U μ a w hd E O Z hf).wp ?_
     rintro e2 a2 w2 ⟨rfl,hrest⟩
     simp only[Ex.toExit,Exit.inBlock,if_true]
     exact⟨V,hrest⟩
    |false=>
     rw[hb]at h
     simp only[cond_false,a03,a04]at h
     obtain⟨rfl,rfl⟩:=h
     have hi: ¬i=id:=fun e=>by subst e;rw[a0Z]at hb;cases hb
     refine⟨A,fun μ a w hd E O Z hf=>wp_block ?_⟩
     refine wp_mono (U μ a w hd E O Z hf).wp ?_
     rintro e2 a2 w2 ⟨rfl,hrest⟩
     simp only[Ex.toExit,Exit.inBlock,hi,if_false]
     exact⟨V,hrest⟩
   |ret=>
    simp only[cW,a03,a04]at h
    obtain⟨rfl,rfl⟩:=h
    refine⟨A,fun μ a w hd E O Z hf=>wp_block ?_⟩
    refine wp_mono (U μ a w hd E O Z hf).wp ?_
    rintro e2 a2 w2 ⟨rfl,hrest⟩
    exact⟨V,hrest⟩
 |loop x ih=>
  intro s e s' h hw
  rw[iR]at h
  cases hx:eJ P G rec_ cf x s with
  |none=>rw[hx]at h;cases h
  |some p=>
   obtain⟨e1,s1⟩:=p
   obtain⟨A,U⟩:=ih s e1 s1 hx hw
   rw[hx]at h
   cases e1 with
   |normal=>
    simp only[gi]at h
    obtain⟨ax,a6⟩:=bb (.loop x) s1 e s' h (hw.ext A)
    refine⟨A.trans ax,fun μ a w hd E O Z hf=>LoopWp.round ?_⟩
    refine wp_mono (U μ a w hd E O Z (fun b h1 h2=>hf b h1 (a10 h2 ax.next))).wp ?_
    rintro e2 a2 w2 ⟨rfl,hd2,μ2,hp2,ht2⟩
    have hl:LoopWp P x (After μ2 s1 w2 e s') a2 w2:=a6 μ2 a2 w2 hd2 ht2 (O.mono hp2.ext) hp2.wrel (lu hp2 A.next hf)
    intro b k cs
    obtain⟨e3,a3,w3,q,r⟩:=hl b k cs
    exact⟨e3,a3,w3,After.trans hp2 A.next ax.next _ _ _ q,r⟩
   |exit i=>
    simp only[gi,a03,a04]at h
    obtain⟨rfl,rfl⟩:=h
    refine⟨A,fun μ a w hd E O Z hf=>LoopWp.round ?_⟩
    refine wp_mono (U μ a w hd E O Z hf).wp ?_
    rintro e2 a2 w2 ⟨rfl,hrest⟩
    exact⟨V,hrest⟩
   |ret=>
    simp only[gi,a03,a04]at h
    obtain⟨rfl,rfl⟩:=h
    refine⟨A,fun μ a w hd E O Z hf=>LoopWp.round ?_⟩
    refine wp_mono (U μ a w hd E O Z hf).wp ?_
    rintro e2 a2 w2 ⟨rfl,hrest⟩
    exact⟨V,hrest⟩
 |exit id=>
  intro s e s' h hw
  rw[lB]at h
  simp only[a03,a04]at h
  obtain⟨rfl,rfl⟩:=h
  exact⟨Ext.refl _,fun μ a w hd E O Z _=>wp_exit ⟨V,hd,μ,Post.refl Z,E⟩⟩
 |ret=>
  intro s e s' h hw
  rw[execC_ret]at h
  simp only[a03,a04]at h
  obtain⟨rfl,rfl⟩:=h
  exact⟨Ext.refl _,fun μ a w hd E O Z _=>wp_ret ⟨V,hd,μ,Post.refl Z,E⟩⟩
 |rangeFunc f ps x y _ _=>intro s e s' h;cases h
 |scope x _=>intro s e s' h;cases h
 |label l=>intro s e s' h;cases h
 |goto l=>intro s e s' h;cases h
 |refuse m=>intro s e s' h;cases h
theorem hO: ∀(args:List Value) (i:Nat) (t:Tr Value) (k:Nat),cH (fc i args t) k=if i<=k/\k<i+args.length then args.getD (k-i) undef else cH t k
 | [],i,t,k=>by rw[if_neg (by simp only[a02];omega)];rfl
 |v::l,i,t,k=>by
  simp only[fc];rw[hO l (i+1) _ k];by_cases A:i+1<=k/\k<i+1+l.length
  ·rw[if_pos A,if_pos (by simp only[a01];omega),show k-i=(k-(i+1))+1 by omega];rfl
  rw[if_neg A,fZ];by_cases E:i=k
  ·subst E;rw[if_pos V,if_pos (by simp only[a01];omega)];simp
  rw[if_neg E,if_neg (by simp only[a01];omega)]
theorem args_rel{μ:Emb}{args:List Value}{A:Array Value}(h:LRel μ args A.toList)(n:Nat):
  TRel μ (fc 0 args .nil) (Nat.max args.length n) (A++Array.replicate (n-A.size) undef):=by
 have U:args.length=A.size:=by rw[h.1];simp
 refine⟨by simp only[Array.size_append,Array.size_replicate];rw[U];show _=max _ _;omega,fun i=>?_⟩
 rw[hO]
 simp only[a0p,true_and,a0G,a1n,lget_nil,a0M,Array.getElem?_append]
 by_cases hi:i<args.length
 ·rw[if_pos hi,if_pos M];have E:args[i]?=some args[i]:=a09 hi;obtain⟨v',O,Z⟩:=h.get E;have:A[i]?=some v':=by simpa using O
  rw[this,a0b,E];exact Z
 rw[if_neg hi,if_neg M]
 rw[Array.getElem?_replicate]
 split
 ·exact VRel.undef
 exact VRel.undef
theorem gQ{μ:Emb}{s:St}{a:Array Value}{w:World}(E:TRel μ s.tmps s.size a)(hw:WRel μ s.heap w): ∀(rs:List ResultVar) (l:List Value),cF P s rs=some l->
  ∃l',(rs.mapM (m:=Sem) fun| .tmp t=>Pure.pure (a.getD t undef)| .cell x t=>do loadVar t (←asAddr (a.getD x undef))).run P w= .ok l' w/\LRel μ l l'
 | [],l,h=>by simp only[cF,a03]at h;subst h;exact⟨[],by simp,.nil⟩
 | .tmp t::rs,l,h=>by
  unfold cF at h;split at h
  ·rename_i l1 U;injection h with h;subst h;obtain⟨l',A,Z⟩:=gQ E hw rs l1 U;exact⟨a.getD t undef::l',by simp only[List.mapM_cons,Sem.run_bind,Sem.run_pure,Result.andThen_ok,A],.cons (E.2 t) Z⟩
  cases h
 | .cell x t::rs,l,h=>by
  unfold cF at h;split at h
  ·rename_i p hp;split at h
   ·rename_i v l1 hv U;injection h with h;subst h;obtain⟨l',A,Z⟩:=gQ E hw rs l1 U;have hx:=E.2 x;rw[hp]at hx;obtain⟨b,o,sp⟩:=p;have ax:sp=none:=hx.ptr_some.1;subst ax;obtain⟨O,hμ,a0⟩:=hx.ptr_inv;obtain⟨v',ar,aA⟩:=gW (P:=P) hw hμ hv;exact⟨v'::l',by simp only[List.mapM_cons,Sem.run_bind,a0,show(asAddr (Value.pointer (some ⟨O.c,O.sh+o,none⟩))).run P w= .ok ⟨O.c,O.sh+o,none⟩ w from V,Sem.run_pure,Result.andThen_ok,ar,A],.cons aA Z⟩
   cases h
  cases h
theorem result_rel{μ:Emb}{l l':List Value}(h:LRel μ l l'):VRel μ (ew l) (if h:l'.toArray.size=1 then l'.toArray[0] else .tuple l'.toArray):=by
 match l,l',h with
 | [],l',h=>
  have:=h.nil_left
  subst this
  exact .tuple _ _ V (fun i v v' h=>by simp at h)
 | [v],l',h=>
  obtain⟨v',t,rfl,E,A⟩:=h.cons_left
  have:=A.nil_left
  subst this
  exact E
 |v::u::r,l',h=>
  obtain⟨v',t,rfl,E,A⟩:=h.cons_left
  obtain⟨u',Z,rfl,U,O⟩:=A.cons_left
  simp only[List.size_toArray,a01,show ¬(Z.length+1+1=1) by omega,dite_false]
  have:=LRel.cons E (LRel.cons U O)
  exact .tuple _ _ (by simpa[ew] using this.1) (by simpa[ew] using this.2)
theorem lX{μ:Emb}{s:St}{fn:Func}{a:Array Value}{w:World}(O:TRel μ s.tmps s.size a)(U:WRel μ s.heap w){l:List Value}(h:cF P s fn.results.toList=some l):
  ∃v',(results fn a).run P w= .ok v' w/\VRel μ (ew l) v':=by
 obtain⟨l',E,A⟩:=gQ (P:=P) O U _ l h
 refine⟨_,?_,result_rel A⟩
 unfold results
 rw[Array.mapM_eq_mapM_toList]
 simp only[Sem.run_bind,Sem.run_map]
 have e: ∀(r:Result (List Value)),r= .ok l' w->((r.andThen fun a w'=>(.ok a.toArray w':Result (Array Value))).andThen fun vs w'=>((Pure.pure (if h:vs.size=1 then vs[0] else Value.tuple vs):Sem Value).run P w'))=
   .ok (if h:l'.toArray.size=1 then l'.toArray[0] else .tuple l'.toArray) w:=by
  intro r A;subst A;rfl
 exact e _ E
theorem callC_ok{ex:Code->St->Option (Ex×St)}(al:ExOK P G ex):el P G (mH P ex):=by
 intro f args H v H' h ax;unfold mH at h;split at h
 case h_2=>cases h
 rename_i fn an;split at h
 case h_2=>cases h
 rename_i c hc;have Z: ∀e s,(e=Ex.normal\/e=Ex.ret)->ex c {tmps:=fc 0 args .nil,size:=Nat.max args.length fn.ntmps,heap:=H}=some (e,s)->
   (match cF P s fn.results.toList with|some l=>some (ew l,s.heap)|none=>none)=some (v,H')->Ext H H'/\
   ∀μ w (A:Array Value),LRel μ args A.toList->GRel μ G->WRel μ H w->(∀b,H.next<=b->b<H'.next->μ b=none)->
    Calls P f A w fun e w'=> ∃μ' v',e= .returned v'/\VRel μ' v v'/\Post μ H w μ' H' w':=by
  intro e s he U E
  split at E
  ·rename_i l hl;simp only[a03,a04]at E;obtain⟨rfl,rfl⟩:=E;obtain⟨ext,aA⟩:=al c _ e s U ax;refine⟨ext,fun μ w A ha hG hw hf=>?_⟩;refine calls_of_wp an hc ?_;refine wp_mono (aA μ {tmps:=A++Array.replicate (fn.ntmps-A.size) undef,defers:=[]} w V (args_rel ha fn.ntmps) hG hw hf).wp ?_;rintro e2 a2 w2 ⟨rfl,hd,μ',hp,ht⟩;obtain⟨v',O,hr⟩:=lX (P:=P) (fn:=fn) ht hp.wrel hl;rcases he with rfl|rfl
   ·exact⟨hd,v',O,μ',v',V,hr,hp⟩
   exact⟨hd,v',O,μ',v',V,hr,hp⟩
  cases E
 split at h
 ·rename_i s U;exact Z .normal s (.inl V) U h
 ·rename_i s U;exact Z .ret s (.inr V) U h
 cases h
def gu(P:Program)(G:Nat)(K:bz):Prop:= ∀f args H v,K f args H=some v->args.all noA2=true/\noA2 v=true/\∀(μ:Emb) (A:Array Value) (w:World),A.toList=args->GRel μ G->WRel μ H w->
 Calls P f A w fun e w'=>e= .returned v/\Below w.heap.size w w'
theorem LRel.eq2{μ:Emb}{l l':List Value}(h:LRel μ l l')(A:l.all noA2=true):l'=l:=by
 induction l generalizing l' with
 |nil=>exact h.nil_left
 |cons v l ih=>
  obtain⟨v',U,rfl,O,E⟩:=h.cons_left
  simp only[a0j,a05]at A
  rw[O.eq2 A.1,ih E A.2]
theorem LRel.refl2{μ:Emb}{l:List Value}(h:l.all noA2=true):LRel μ l l:=by refine⟨V,fun i v v' E A=>?_⟩;rw[E]at A;injection A with A;subst A;exact VRel.refl2 (a0y.1 h v (a0q E))
theorem callK_ok{K:bz}{cf:cm}(hK:gu P G K)(Z:el P G cf):el P G (kz K cf):=by
 intro f args H v H' h ar;unfold kz at h;split at h
 ·rename_i u hu;simp only[a03,a04]at h;obtain⟨rfl,rfl⟩:=h;obtain⟨h1,h2,h3⟩:=hK f args H u hu;refine⟨Ext.refl _,fun μ w A ha hG U hf=>?_⟩;refine(h3 μ A w (ha.eq2 h1) hG U).mono ?_;rintro e w' ⟨rfl,hb⟩;refine⟨μ,u,V,VRel.refl2 h2,⟨fun _ _ h=>h,fun _ _ h=> .inl h,hb.size,hb.os,hb.tape,hb.output,fun c hc _=>hb.block c hc,fun b l o E O h6=> .inr ⟨b,l,o,E,O,h6,id,V⟩,⟨fun b l o E O=>?_,U.inj⟩⟩⟩;have hr:=U.obj b l o E O;exact hr.keep (fun _ _ h=>h) hb.size (fun al=>hb.block l.c (hr.lt al))
 exact Z f args H v H' h ar
theorem exec_ok{K:bz}(A:gu P G K): ∀n,ExOK P G (lC P G K n)
 |0=>fun c s e E h=>by cases h
 |n+1=>execC_ok (exec_ok A n) (callK_ok A (callC_ok (exec_ok A n)))
theorem call_ok{K:bz}(A:gu P G K)(n:Nat):el P G (call P G K n):=callK_ok A (callC_ok (exec_ok A n))
theorem none_ok:gu P G noneKnown:=fun f args H v h=>by cases h
theorem mG{K:bz}(hK:gu P 0 K){n:Nat}{f:FuncId}{args:List Value}{v:Value}{H':Heap}(ha:args.all noA2=true)(hv:noA2 v=true)
  (h:call P 0 K n f args Heap.empty=some (v,H')) (A:Array Value) (w:World) (hc:A.toList=args):
  Calls P f A w fun e w'=>e= .returned v/\Below w.heap.size w w':=by
 have Z:WF Heap.empty:=fun b _=>rfl
 obtain⟨_,O⟩:=call_ok (G:=0) hK n f args Heap.empty v H' h Z
 have U:WRel (fun _=>none) Heap.empty w:=⟨fun b l o E=>(by cases E),fun b1 b2 l1 l2 o1 o2 _ E=>(by cases E)⟩
 refine(O (fun _=>none) w A (by rw[hc];exact LRel.refl2 ha) (fun g hg=>by omega) U (fun _ _ _=>rfl)).mono ?_
 rintro e w' ⟨μ',v',rfl,hr,hp⟩
 rw[hr.eq2 hv]
 refine⟨V,hp.os,hp.tape,hp.out,hp.grow,fun k hk=>hp.keep k hk fun b l o E=>by cases E⟩
end
end Go.R
namespace Go.R
open Go.RowKit
theorem walk_of_eval{P:Program}{K:bz}(E:gu P 0 K){n:Nat}{f:FuncId}(h:saysTrue (call P 0 K n f [] Heap.empty)=true)(w:World):
  Calls P f #[] w fun e w'=>e= .returned (.bool true)/\Below w.heap.size w w':=by
 revert h
 cases hc:call P 0 K n f [] Heap.empty with
 |none=>intro h;cases h
 |some r=>
  obtain⟨v,H'⟩:=r
  intro h
  have O:v= .bool true:=by
   unfold saysTrue at h;split at h
   ·rename_i A;simp only[a03,a04]at A;exact A.1
   cases h
  subst O
  exact mG E V V hc #[] w V
open Go.WideShapes Go.ChangeShapes in
theorem lY{H:Type}{enc:TypeId×Value->H}{P:Program}{f:Func}{s:ChangeSpec}{O a3 ar a2:Bool}{W W':World}{args:Array Value}{v:Value}{ds gs:List (DataW H)}{A pa pv:List MemPlace}
  (hW:DataW.Whole enc P f.params.toList s.vars O W args.toList ds gs A)
  (a1: ∀(b:Nat) (sp:Nat->Bool) (hd:Bool),DataW.TrodAll enc P W' b sp hd f.resultTypes.toList (v.resultList f.resultTypes.size) (s.fn H (ds++gs)).results [])
  (U: ∀sp:Nat->Bool,(∀p∈A,sp p.block=true)->DataW.TrodAll enc P W' 0 sp true f.params.toList args.toList (s.fn H (ds++gs)).args pa)
  (al: ∀sp:Nat->Bool,(∀p∈A,sp p.block=true)->DataW.TrodVars enc P W' sp s.vars (s.fn H (ds++gs)).vars pv)
  (Z:A=pa++pv) (hb:Below W.heap.size W W')
  (ba: ∀(j:Nat) (t:TypeId) (r:Value),f.resultTypes[j]?=some t->(v.resultList f.resultTypes.size)[j]?=some r->Value.okWide P W' .any 0 t r):
  s.post enc P f O a3 ar a2 W args v W':=by
 have a0: ∀p∈A,(fun b=>decide (b<W.heap.size)) p.block=true:=fun p E=>by simpa using hW.lt p E
 have a9: ∀p∈A,p.block<W.heap.size:=fun p E=>by simpa using hW.lt p E
 refine⟨ds,gs,A,[],pa,pv,hW,a1 _ _ _,U _ a0,al _ a0,World.keptBut_mono (fun p E=>⟨E,?_⟩) (hb.frame (· ∈A)),fun _=>?_⟩
 ·rw[Z,a0i]at E;exact Or.inr E
 obtain⟨_,_,_,_,_,hz,hn⟩:=hW
 refine⟨ba,_,_,([]++pa)++pv,⟨[]++pa,pv,trodAll_append (U _ (fun _ _=>rfl)) (a1 _ _ _),al _ (fun _ _=>rfl),V,?_,?_⟩,?_⟩
 ·intro b off E;have a5:MemPlace.cell b off∈A:=by rw[Z];simpa using E
  have h1:=hb.frozen (p:=⟨b,off,none⟩) (a9 _ a5);have h2:=hz b off a5;first|(rw[h1];exact h2)|(exact h1.trans h2)|(simp_all)
 ·intro ha;have:=hn ha;rw[Z]at this;simpa using this
 intro p E _
 rw[Z]
 simpa using E
end Go.R
noncomputable section
namespace Go.R
open Go.RowKit
section
variable {P:Program} {w:World} {base:Nat} {held:Bool} {enc:TypeId×Value->Unit}
def lit1(P:Program)(t:TypeId)(d:DataW Unit):Option Value:=
 match P.underlying t,d with
 |some .bool,.lit (.bool b)=>some (.bool b)
 |some (.int k),.lit (.int _ n)=>some (.int k n)
 |some .string,.lit (.string l)=>some (.string ⟨⟨l⟩⟩)
 |_,_=>none
def flatFs(P:Program):Nat->List Field->Bool
 |_,[]=>true
 |i,f::fs=>Nat.beq f.offset i&&Nat.beq (P.cellsOf f.type) 1&&flatFs P (i+1) fs
def litFs(P:Program):List Field->List (DataW Unit)->Option (List Value)
 | [],[]=>some []
 |f::fs,d::ds=>
  match lit1 P f.type d,litFs P fs ds with
  |some v,some l=>some (v::l)
  |_,_=>none
 |_,_=>none
def litRows(P:Program)(fs:List Field):List (DataW Unit)->Option (List (List Value))
 | []=>some []
 | .agg ds::r=>
  match litFs P fs ds,litRows P fs r with
  |some l,some m=>some (l::m)
  |_,_=>none
 |_::_=>none
end
end Go.R
end
namespace Go.R
def CfLe(cf cf':cm):Prop:= ∀f a H r,cf f a H=some r->cf' f a H=some r
def ExLe(ex A:Code->St->Option (Ex×St)):Prop:= ∀c s r,ex c s=some r->A c s=some r
section
variable {P:Program} {G:Nat} {cf cf':cm} {ops:Array Oper}
theorem step_mono(h:CfLe cf cf'){o:Oper}{s O:St}(hs:step P G cf ops o s=some O):step P G cf' ops o s=some O:=by
 unfold step at hs⊢;cases E:aU ops o s.tmps with
 |false=>rw[E]at hs;exact hs
 |true=>
  rw[E]at hs
  cases A:o.op.operands.toList.all (bu G) with
  |false=>rw[A]at hs;cases hs
  |true=>
   rw[A]at hs
   simp only[cond_true]at hs⊢
   split at hs
   ·exact hs
   ·exact hs
   ·split at hs
    ·rename_i v U hc;rw[h _ _ _ _ hc];exact hs
    cases hs
   cases hs
theorem gP(h:CfLe cf cf'): ∀(l:List Oper) (s A:St),fM P G cf ops l s=some A->fM P G cf' ops l s=some A
 | [],_,_,hs=>hs
 |o::l,s,A,hs=>by
  rw[bS]at hs⊢;split at hs
  ·rename_i t E;rw[step_mono h E];exact gP h l _ _ hs
  cases hs
theorem stepD_mono(h:CfLe cf cf'){o:Oper}{s:St}{r:St×Inf}(hs:gM P G cf ops o s=some r):gM P G cf' ops o s=some r:=by
 unfold gM at hs⊢;split at hs
 ·rename_i t A;rw[step_mono h A];exact hs
 cases hs
theorem eQ(h:CfLe cf cf'): ∀(l:List Oper) (i:Nat) (fs:List (Nat×Inf)) (s s':St),bh P G cf ops i fs l s=some s'->bh P G cf' ops i fs l s=some s'
 | [],_,_,_,_,hs=>by unfold bh at hs⊢;exact hs
 |o::l,i,fs,s,s',hs=>by
  unfold bh at hs⊢;split at hs
  ·rename_i t f E;rw[stepD_mono h E];simp only;cases A:bZ ops (bY ops) i f fs with
   |false=>rw[A]at hs;cases hs
   |true=>rw[A]at hs;simp only[cond_true]at hs⊢;exact eQ h l _ _ _ _ hs
  cases hs
theorem kL(h:CfLe cf cf'){A:Bool}{s O:St}(hs:bL P G cf ops A s=some O):bL P G cf' ops A s=some O:=by
 unfold bL at hs⊢;cases A with
 |false=>exact gP h _ _ _ hs
 |true=>
  simp only[cond_true]at hs⊢
  cases E:jp ops&&P.follows .mixedOrders with
  |false=>rw[E]at hs;cases hs
  |true=>rw[E]at hs;simp only[cond_true]at hs⊢;exact eQ h _ _ _ _ _ hs
theorem gB{r O:Option (Ex×St)}{k E:St->Option (Ex×St)}(Z: ∀x,r=some x->O=some x)(U: ∀s x,k s=some x->E s=some x){x:Ex×St}(h:gi r k=some x):gi O E=some x:=by
 cases A:r with
 |none=>rw[A]at h;cases h
 |some y=>
  rw[Z y A]
  rw[A]at h
  obtain⟨e,s⟩:=y
  cases e with
  |normal=>exact U _ _ h
  |exit i=>exact h
  |ret=>exact h
theorem i8{id:Nat}{r E:Option (Ex×St)}(O: ∀x,r=some x->E=some x){x:Ex×St}(h:cW id r=some x):cW id E=some x:=by
 cases A:r with
 |none=>rw[A]at h;cases h
 |some y=>rw[O y A];rw[A]at h;exact h
theorem execC_mono(h:CfLe cf cf'){ex O:Code->St->Option (Ex×St)}(U:ExLe ex O)(c:Code): ∀(s:St) (x:Ex×St),eJ P G ex cf c s=some x->eJ P G O cf' c s=some x:=by
 induction c with
 |skip=>intro s x A;exact A
 |region id ops draw=>
  intro s x A
  rw[gh]at A⊢
  cases E:bL P G cf ops draw s with
  |none=>rw[E]at A;cases A
  |some t=>rw[kL h E];rw[E]at A;exact A
 |seq a b iha ihb=>
  intro s x A
  rw[kr]at A⊢
  exact gB (iha s) ihb A
 |cond c t e iht ihe=>
  intro s x A
  rw[iS]at A⊢
  cases E:bu G c with
  |false=>rw[E]at A;cases A
  |true=>
   rw[E]at A
   simp only[cond_true]at A⊢
   unfold lD at A⊢
   split at A
   ·rename_i b Z;cases b with
    |true=>exact iht s x A
    |false=>exact ihe s x A
   cases A
 |block id b ih=>
  intro s x A
  rw[hE]at A⊢
  exact i8 (ih s) A
 |loop b ih=>
  intro s x A
  rw[iR]at A⊢
  exact gB (ih s) (U _) A
 |exit id=>intro s x A;exact A
 |ret=>intro s x A;exact A
 |_=>intro s x A;cases A
theorem lJ{ex A:Code->St->Option (Ex×St)}(E:ExLe ex A):CfLe (mH P ex) (mH P A):=by
 intro f a H r h;unfold mH at h⊢;split at h
 ·split at h
  ·split at h
   ·rename_i s O;rw[E _ _ _ O];exact h
   ·rename_i s O;rw[E _ _ _ O];exact h
   cases h
  cases h
 cases h
theorem lI{K:bz}(h:CfLe cf cf'):CfLe (kz K cf) (kz K cf'):=by
 intro f a H r A;unfold kz at A⊢;split at A
 ·exact A
 exact h _ _ _ _ A
theorem iv{K:bz}: ∀n,ExLe (lC P G K n) (lC P G K (n+1))
 |0=>fun c s r h=>by cases h
 |n+1=>fun c s r h=>execC_mono (lI (lJ (iv n))) (iv n) c s r h
theorem iw{K:bz}{n m:Nat}(h:n<=m):ExLe (lC P G K n) (lC P G K m):=by
 induction h with
 |refl=>exact fun _ _ _ h=>h
 |step _ ih=>exact fun c s r h=>iv _ c s r (ih c s r h)
theorem fp{K:bz}{n m:Nat}(h:n<=m):CfLe (call P G K n) (call P G K m):=lI (lJ (iw h))
end
end Go.R
