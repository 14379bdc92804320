/-
The evaluator is sound: regions, code, calls, laws.
-/
import Derived.Test.YtapgbjedgcpffaaZTRA
import Derived.Below
import Derived.ChangeSame
import Derived.ChangeArms
namespace Go.R
structure Ext(H H':Heap):Prop where
 next:H.next<=H'.next
 log: ∃d,H'.log=d++H.log/\∀b,b<H.next->b∉d->H'.get b=H.get b
 far: ∀b,H'.next<=b->H'.get b=H.get b
theorem Ext.refl(H:Heap):Ext H H:=⟨a07 _,⟨[],rfl,fun _ _ _=>rfl⟩,fun _ _=>rfl⟩
theorem Ext.trans{H H1 O:Heap}(h:Ext H H1)(k:Ext H1 O):Ext H O:=by
 obtain⟨T,Y,g1⟩:=h.log;obtain⟨U,Z,g2⟩:=k.log;refine⟨a05 h.next k.next,⟨U++T,by rw[Z,Y,a0a],fun b hb E=>?_⟩,fun b hb=>?_⟩
 ·rw[a0f,not_or]at E;rw[g2 b (a0V hb h.next) E.1,g1 b hb E.2]
 rw[k.far b hb,h.far b (a05 k.next hb)]
theorem Ext.push(H:Heap)(o:AObj):Ext H (H.push o):=by refine⟨by simp,⟨[],rfl,fun b hb _=>Heap.get_push_ne H o (by omega)⟩,fun b hb=>Heap.get_push_ne H o ?_⟩;simp at hb;omega
theorem Ext.put{H:Heap}{b:Nat}(o:AObj)(hb:b<H.next):Ext H (H.put b o):=by refine⟨a07 _,⟨[b],rfl,fun k _ E=>Heap.get_put_ne H o (fun e=>E (by simp[e]))⟩,fun k E=>Heap.get_put_ne H o ?_⟩;simp at E;omega
def WF(H:Heap):Prop:= ∀b,H.next<=b->H.get b=none
theorem WF.ext{H H':Heap}(h:WF H)(e:Ext H H'):WF H':=fun b hb=>by rw[e.far b hb];exact h b (a05 e.next hb)
theorem WF.lt{H:Heap}(h:WF H){b:Nat}{o:AObj}(E:H.get b=some o):b<H.next:=by
 rcases a0d b H.next with hl|hl
 ·exact hl
 rw[h b hl]at E;cases E
section ext
variable {P:Program} {H H':Heap}
def ER(H:Heap){α:Type}(r:Option (α×Heap)):Prop:= ∀a H',r=some (a,H')->Ext H H'
theorem ER.none_{α:Type}:ER H (none:Option (α×Heap)):=fun _ _ h=>by cases h
theorem ER.some_{α:Type}{a:α}{H1:Heap}(h:Ext H H1):ER H (some (a,H1)):=fun _ _ e=>by injection e with e;injection e with _ e;subst e;exact h
theorem ER.same{α:Type}{a:α}:ER H (some (a,H)):=ER.some_ (Ext.refl H)
theorem ER.bif_{α:Type}{c:Bool}{x y:Option (α×Heap)}(h:ER H x)(k:ER H y):ER H (bif c then x else y):=by cases c<;>assumption
def EO(H:Heap)(r:Option Heap):Prop:= ∀H',r=some H'->Ext H H'
theorem EO.none_:EO H none:=fun _ h=>by cases h
theorem EO.some_{H1:Heap}(h:Ext H H1):EO H (some H1):=fun _ e=>by injection e with e;subst e;exact h
theorem EO.bif_{c:Bool}{x y:Option Heap}(h:EO H x)(k:EO H y):EO H (bif c then x else y):=by cases c<;>assumption
theorem ER.ovl_(r:Option Value):ER H (ovl r H):=by unfold ovl;split;exact ER.same;exact ER.none_
theorem ER.ovh_{r:Option (Value×Heap)}(h:ER H r):ER H (ovh r):=by
 unfold ovh;split
 ·rename_i v E;exact ER.some_ (h v E rfl)
 exact ER.none_
theorem ER.osk_{r:Option Heap}(h:EO H r):ER H (osk r):=by
 unfold osk;split
 ·rename_i E;exact ER.some_ (h E rfl)
 exact ER.none_
theorem ER.lift_(s:Sem Value):ER H (lift P s H):=by unfold lift;split;exact ER.same;exact ER.none_
theorem ER.plain_(ρ:Operand->Value)(o:Oper):ER H (bF P ρ o H):=by
 unfold bF;refine ER.bif_ ?_ ER.none_;split
 ·exact ER.bif_ ER.same ER.none_
 exact ER.none_
theorem js(O:WF H)(a:Addr)(vs:List Value):EO H (H.storeL a vs):=by
 unfold Heap.storeL;split
 ·split
  ·rename_i E;exact EO.bif_ (EO.some_ (Ext.put _ (O.lt E))) EO.none_
  exact EO.none_
 exact EO.none_
theorem append_ext(O:WF H)(types:Array TypeId)(s x:Value):ER H (gj P types s x H):=by
 unfold gj;split
 case h_2=>exact ER.none_
 split
 case h_2=>exact ER.none_
 split
 ·exact ER.none_
 split
 case h_2=>exact ER.none_
 split
 ·exact ER.none_
 split
 ·exact ER.bif_ ER.same (ER.bif_ (ER.some_ (Ext.push _ _)) ER.none_)
 ·split
  ·rename_i U;refine ER.bif_ (ER.bif_ ER.same ?_) (ER.bif_ ?_ ER.none_)
   ·split
    ·rename_i T E;exact ER.some_ (js O _ _ T E)
    exact ER.none_
   split
   ·exact ER.none_
   split
   ·exact ER.some_ (Ext.push _ _)
   exact ER.bif_ (ER.some_ ((Ext.put .dead (O.lt U)).trans (Ext.push _ _))) ER.none_
  exact ER.none_
 exact ER.none_
theorem copy_ext(T:WF H)(types:Array TypeId)(d s:Value):ER H (aCopy P types d s H):=by
 unfold aCopy;split
 case h_2=>exact ER.none_
 split
 case h_2=>exact ER.none_
 split
 case h_2=>exact ER.none_
 refine ER.bif_ ER.same ?_;split
 ·split
  ·rename_i O E;exact ER.some_ (js T _ _ O E)
  exact ER.none_
 exact ER.none_
theorem lS(O:WF H)(t:TypeId)(m k v:Value):EO H (gR P t m k v H):=by
 unfold gR;split
 ·split
  ·split
   ·rename_i E;exact EO.bif_ (EO.some_ (Ext.put _ (O.lt E))) EO.none_
   exact EO.none_
  exact EO.none_
 exact EO.none_
theorem aop_er(E:WF H)(ρ:Operand->Value)(o:Oper):ER H (aop P ρ o H):=by
 unfold aop;split
 ·exact ER.same
 ·exact ER.same
 ·unfold gG;split;exact ER.same;exact ER.none_
 ·unfold eT;split;exact ER.some_ (Ext.push _ _);exact ER.none_
 ·exact ER.some_ (Ext.push _ _)
 ·unfold iB;split;exact ER.lift_ _;exact ER.none_
 ·unfold bw;split
  ·refine ER.bif_ ?_ ER.none_;split
   ·exact ER.some_ (Ext.push _ _)
   exact ER.none_
  exact ER.none_
 ·unfold eC;split;exact ER.ovl_ _;exact ER.none_
 ·unfold iA;split
  ·split
   ·exact ER.bif_ (ER.osk_ (js E _ _)) ER.none_
   exact ER.none_
  exact ER.none_
 ·unfold opNil;split;exact ER.same;exact ER.same;exact ER.none_
 ·unfold aBin;split
  ·unfold binInt;split;exact ER.ovl_ _;exact ER.none_
  ·unfold binStr;split;exact ER.ovl_ _;exact ER.none_
  unfold nj;split
  ·exact ER.plain_ _ _
  ·exact ER.plain_ _ _
  intro a H' h;rw[(jy h).1];exact Ext.refl _
 ·unfold fB;split;exact ER.ovl_ _;exact ER.ovl_ _;exact ER.plain_ _ _
 ·exact ER.same
 ·exact ER.some_ (Ext.push _ _)
 ·refine ER.ovh_ ?_;unfold aMake;split
  ·split
   ·exact ER.bif_ (ER.some_ (Ext.push _ _)) ER.none_
   exact ER.none_
  exact ER.none_
 ·exact ER.ovl_ _
 ·exact ER.ovl_ _
 ·exact ER.ovl_ _
 ·exact ER.ovl_ _
 ·unfold lC;split;exact ER.ovl_ _;exact ER.lift_ _
 ·exact ER.ovl_ _
 ·exact ER.osk_ (lS E _ _ _ _)
 ·exact ER.osk_ (lS E _ _ _ _)
 ·refine ER.ovh_ ?_;unfold aRange;split;exact ER.some_ (Ext.push _ _);exact ER.none_
 ·refine ER.ovh_ ?_;unfold aNext;split
  ·split
   ·rename_i O;exact ER.bif_ (ER.some_ (Ext.put _ (E.lt O))) ER.same
   exact ER.none_
  exact ER.none_
 ·exact ER.ovl_ _
 ·unfold opCall;split
  ·unfold nv;split
   ·unfold bLen;split;exact ER.ovl_ _;exact ER.none_
   ·unfold bAppend;split;exact ER.ovh_ (append_ext E _ _ _);exact ER.none_
   ·unfold bCopy;split;exact ER.ovh_ (copy_ext E _ _ _);exact ER.none_
   ·exact ER.plain_ _ _
   ·exact ER.plain_ _ _
   exact ER.none_
  ·unfold gW;split;exact ER.same;exact ER.none_
  exact ER.none_
 ·unfold aUn;split
  ·split;exact ER.same;exact ER.none_
  exact ER.plain_ _ _
 exact ER.none_
theorem nq(E:WF H){ρ:Operand->Value}{o:Oper}{r:AN}(h:aop P ρ o H=some (r,H')):Ext H H':=aop_er E ρ o r H' h
end ext
section
variable {P:Program} {μ:Emb} {H H':Heap} {w:World}
theorem two_of{l:List Value}{a b:Value}{E:Array Value}(h:LRel μ l E.toList)(Z:l=[a,b]): ∃a' O,E= #[a',O]/\VRel μ a a'/\VRel μ b O:=by subst Z;obtain⟨a',t,U,ha,ht⟩:=h.cons_left;obtain⟨O,t2,Y,hb,T⟩:=ht.cons_left;have:=T.nil_left;subst this Y;exact⟨a',O,a17.1 (by rw[U]),ha,hb⟩
theorem lY{l:List Value}{a:Value}{E:Array Value}(h:LRel μ l E.toList)(T:l=[a]): ∃a',E= #[a']/\VRel μ a a':=by subst T;obtain⟨a',t,O,ha,U⟩:=h.cons_left;have:=U.nil_left;subst this;exact⟨a',a17.1 (by rw[O]),ha⟩
theorem OpOK.of_value{s:Sem Next}{v v':Value}(h: ∀w,s.run P w= .ok (.value v') w)(O:WRel μ H w)(E:VRel μ v v'):OpOK P μ H w s (.val v) H:=
 ⟨.value v',w,μ,h w,Post.refl O,E⟩
theorem f8{ρ ρ':Operand->Value}{x:Option Operand}(h: ∀y,x=some y->VRel μ (ρ y) (ρ' y)):
  (∀v,x.map ρ=some v->∃v',x.map ρ'=some v'/\VRel μ v v')/\(x.map ρ=none->x.map ρ'=none):=by
 cases x with
 |none=>exact⟨fun v E=>by simp at E,fun _=>rfl⟩
 |some y=>exact⟨fun v E=>by simp at E;subst E;exact⟨_,rfl,h y rfl⟩,fun O=>by simp at O⟩
set_option maxHeartbeats 4000000 in
theorem jj{ρ ρ':Operand->Value}{o:Oper}{r:AN}(U: ∀x∈o.op.operands,VRel μ (ρ x) (ρ' x))(Y:WRel μ H w)
  (hf: ∀b,H.next<=b->b<H'.next->μ b=none) (h:aop P ρ o H=some (r,H')):OpOK P μ H w (execOp ρ' o) r H':=by
 cases hk:bh o.op with
 |true=>
  obtain⟨rfl,v,v',rfl,E,hr⟩:=kK hk U h
  exact OpOK.of_value E Y hr
 |false=>
  obtain⟨a4,op,type,pos,after,Z⟩:=o
  cases op<;>simp only[bh,reduceCtorEq]at hk
  case alloc e=>
   have O:eT P e H=some (r,H'):=h
   have:=alloc_sound Y hf O
   exact this
  case box e x=>
   have O:some (AN.val (ptrTo H.next),aS H (ρ x).cells.toList none)=some (r,H'):=h
   simp only[a01,a06]at O
   obtain⟨rfl,rfl⟩:=O
   have:=box_sound (P:=P) (e:=e) Y (hf H.next (a07 _) (by simp[aS])) (U x (by simp[Op.operands]))
   exact this
  case buildSlice t n parts=>
   have O:bw P t n (ge (fun p=>(p.1,ρ p.2)) parts.toList) H=some (r,H'):=h
   rw[li]at O
   have:=kj (ps':=parts.map fun(i,x)=>(i,ρ' x)) Y hf (by simp) (fun i x x' h1 h2=>?_) O
   ·exact this
   simp only[Array.toList_map,a1E,a1C]at h1 h2
   obtain⟨y,hy,rfl⟩:=h1
   obtain⟨z,hz,rfl⟩:=h2
   rw[hy]at hz;injection hz with hz;subst hz
   refine⟨rfl,U _ ?_⟩
   have:=a0p hy
   simp only[Op.operands,List.mem_toArray,a0v]
   exact⟨y,this,rfl⟩
  case load t a=>
   have O:eC P t (ρ a) H=some (r,H'):=h
   have:=load_sound Y (U a (by simp[Op.operands])) O
   exact this
  case store t a x=>
   have O:iA P t (ρ a) (ρ x) H=some (r,H'):=h
   have:=store_sound Y (U a (by simp[Op.operands])) (U x (by simp[Op.operands])) O
   exact this
  case convert s d x=>
   have O:fB P ρ ⟨a4,.convert s d x,type,pos,after,Z⟩ s d (ρ x) H=some (r,H'):=h
   exact m9 (o:=⟨a4,.convert s d x,type,pos,after,Z⟩) Y rfl U O
  case makeMap t rsv=>
   cases rsv with
   |some _=>simp[aop]at h
   |none=>
    have O:some (AN.val (.map (some H.next)),H.push (.tab []))=some (r,H'):=h
    simp only[a01,a06]at O
    obtain⟨rfl,rfl⟩:=O
    have:=mT (P:=P) t Y (hf H.next (a07 _) (by simp))
    exact this
  case makeSlice t l c=>
   have O:ovh (aMake P t (ρ l) (ρ c) H)=some (r,H'):=h
   have:=make_sound Y hf (U l (by simp[Op.operands])) (U c (by simp[Op.operands])) O
   exact this
  case slice t x lo hi mx=>
   obtain⟨a1,a2⟩:=f8 (μ:=μ) (ρ:=ρ) (ρ':=ρ') (x:=lo) fun y hy=>U y (by subst hy;simp[Op.operands])
   obtain⟨b1,b2⟩:=f8 (μ:=μ) (ρ:=ρ) (ρ':=ρ') (x:=hi) fun y hy=>U y (by subst hy;simp[Op.operands])
   obtain⟨_,c2⟩:=f8 (μ:=μ) (ρ:=ρ) (ρ':=ρ') (x:=mx) fun y hy=>U y (by subst hy;simp[Op.operands])
   have O:ovl (bz P t (ρ x) (lo.map ρ) (hi.map ρ) (mx.map ρ) H) H=some (r,H'):=h
   have:=slice_sound Y (U x (by simp[Op.operands])) a1 a2 b1 b2 c2 O
   exact this
  case lookup t m k ok=>
   have O:ovl (gS P t (ρ m) (ρ k) ok H) H=some (r,H'):=h
   obtain⟨rfl,v,hv,rfl⟩:=cw O
   obtain⟨v',E,hr⟩:=lookup_sound (P:=P) Y (U m (by simp[Op.operands])) (U k (by simp[Op.operands])) hv
   have:=OpOK.value E (Post.refl Y) hr
   exact this
  case mapUpdate t m k x=>
   have O:osk (gR P t (ρ m) (ρ k) (ρ x) H)=some (r,H'):=h
   obtain⟨hu,rfl⟩:=osk_inv O
   obtain⟨w',E,hp⟩:=jL (P:=P) Y (U m (by simp[Op.operands])) (U k (by simp[Op.operands])) (U x (by simp[Op.operands])) hu
   have:=OpOK.skip E hp
   exact this
  case insert t m k x=>
   have O:osk (gR P t (ρ m) (ρ k) (ρ x) H)=some (r,H'):=h
   obtain⟨hu,rfl⟩:=osk_inv O
   obtain⟨w',E,hp⟩:=jL (P:=P) Y (U m (by simp[Op.operands])) (U k (by simp[Op.operands])) (U x (by simp[Op.operands])) hu
   have:=OpOK.skip E hp
   exact this
  case range t x=>
   have O:ovh (aRange P t (ρ x) H)=some (r,H'):=h
   have:=range_sound Y hf (U x (by simp[Op.operands])) O
   exact this
  case next it isS=>
   cases isS with
   |false=>simp[aop]at h
   |true=>
    have O:ovh (aNext H (ρ it))=some (r,H'):=h
    have:=next_sound (P:=P) (type:=type) Y (U it (by simp[Op.operands])) O
    exact this
  case call c=>
   obtain⟨ar,args,T⟩:=c
   have an:LRel μ (ge ρ args.toList) (args.map ρ').toList:=by
    rw[li];have:=kE (μ:=μ) (ops:=args) (ρ:=ρ) (ρ':=ρ') fun x hx=>U x (by simp[Op.operands,Call.operands];exact .inr hx)
    simpa using this
   have h:opCall P ρ ⟨a4,.call ⟨ar,args,T⟩,type,pos,after,Z⟩ ⟨ar,args,T⟩ H=some (r,H'):=h
   unfold opCall at h
   cases ar with
   |invoke rv nm=>simp at h
   |value f=>
    simp only at h
    unfold gW at h
    split at h
    ·rename_i n hn;simp only[a01,a06]at h;obtain⟨rfl,rfl⟩:=h;obtain⟨i,cL,rfl,b5,E,hr⟩:=callee_sound (P:=P) (U f (by simp[Op.operands,Call.operands])) an hn;refine⟨.enter i b5,w,μ,?_,Post.refl Y,rfl,hr⟩;have:=E w;simpa only[execOp,resolve] using this
    cases h
   |builtin b=>
    simp only at h
    unfold nv at h
    have a5:bF P ρ ⟨a4,.call ⟨.builtin b,args,T⟩,type,pos,after,Z⟩ H=some (r,H')->OpOK P μ H w (execOp ρ' ⟨a4,.call ⟨.builtin b,args,T⟩,type,pos,after,Z⟩) r H':=by intro hp;obtain⟨rfl,v,v',rfl,E,hr⟩:=dG hp (fun _ _=>by simp) U;exact OpOK.of_value E Y hr
    split at h
    ·--len
     unfold bLen at h;split at h
     ·rename_i t x ht hx;obtain⟨x',a6,b4⟩:=lY an hx;obtain⟨rfl,v,hv,rfl⟩:=cw h;obtain⟨E,hn⟩:=len_sound (P:=P) (ty:=type) Y b4 hv;have b0:T= #[t]:=a17.1 (by rw[ht]);refine⟨.value v,w,μ,?_,Post.refl Y,.atom v hn⟩;simp only[execOp,resolve,Sem.run_bind,Sem.run_pure,Result.andThen_ok,invoke,builtin,a6,b0,E]
     cases h
    ·unfold bAppend at h;split at h
     ·rename_i t1 t2 s x ht hx;obtain⟨s',x',a6,b3,b4⟩:=two_of an hx;obtain⟨v,hv,rfl⟩:=kY h;have b0:T= #[t1,t2]:=a17.1 (by rw[ht]);obtain⟨v',w',μ',E,hp,hr⟩:=append_sound (P:=P) (ty:=type) Y hf b3 b4 (by rw[b0];rfl) hv;refine⟨.value v',w',μ',?_,hp,hr⟩;simp only[execOp,resolve,Sem.run_bind,Sem.run_pure,Result.andThen_ok,invoke,builtin,a6,E]
     cases h
    ·unfold bCopy at h;split at h
     ·rename_i d s hx;obtain⟨d',s',a6,cl,b3⟩:=two_of an hx;obtain⟨v,hv,rfl⟩:=kY h;obtain⟨v',w',E,hp,hr⟩:=copy_sound (P:=P) (ty:=type) Y cl b3 hv;refine⟨.value v',w',μ,?_,hp,hr⟩;simp only[execOp,resolve,Sem.run_bind,Sem.run_pure,Result.andThen_ok,invoke,builtin,a6,E]
     cases h
    ·exact a5 h
    ·exact a5 h
    cases h
  all_goals simp[aop]at h
end
end Go.R
namespace Go.R
@[simp] theorem lget_nil(i:Nat):cU .nil i=undef:=rfl
@[simp] theorem lget_lset_same(t:Tr Value)(d:Nat)(v:Value):cU (lset t d v) d=v:=by simp[cU,lset]
theorem lget_lset_ne(t:Tr Value){d k:Nat}(v:Value)(h:d≠k):cU (lset t d v) k=cU t k:=by simp[cU,lset,Tr.get_set_ne _ _ h]
theorem gI(t:Tr Value)(d k:Nat)(v:Value):cU (lset t d v) k=if d=k then v else cU t k:=by
 by_cases h:d=k
 ·subst h;simp
 rw[if_neg h,lget_lset_ne t v h]
def TRel(μ:Emb)(t:Tr Value)(n:Nat)(a:Array Value):Prop:=a.size=n/\∀i,VRel μ (cU t i) (a.getD i undef)
def GRel(μ:Emb)(G:Nat):Prop:= ∀g,g<G->∃l,μ g=some l/\l.c=g/\l.sh=0
section
variable {P:Program} {G:Nat} {μ μ':Emb}
theorem TRel.mono(h: ∀b l,μ b=some l->μ' b=some l){t:Tr Value}{n:Nat}{a:Array Value}(E:TRel μ t n a):TRel μ' t n a:=⟨E.1,fun i=>(E.2 i).mono h⟩
theorem GRel.mono(h: ∀b l,μ b=some l->μ' b=some l)(Y:GRel μ G):GRel μ' G:=fun g E=>by obtain⟨l,O,T,U⟩:=Y g E;exact⟨l,h _ _ O,T,U⟩
theorem getD_set(a:Array Value)(d i:Nat)(v:Value):(a.setIfInBounds d v).getD i undef=if d=i/\d<a.size then v else a.getD i undef:=by
 simp only[a0G,a10];by_cases h:d=i
 ·subst h;by_cases E:d<a.size
  ·simp[E]
  simp[E]
 simp[h]
theorem TRel.put{t:Tr Value}{n:Nat}{a:Array Value}(h:TRel μ t n a){d:Nat}(hd:d<n){v v':Value}(E:VRel μ v v'):TRel μ (lset t d v) n (a.setIfInBounds d v'):=by
 refine⟨by simp[h.1],fun i=>?_⟩;rw[gI,getD_set];by_cases hi:d=i
 ·rw[if_pos hi,if_pos ⟨hi,by rw[h.1];exact hd⟩];exact E
 rw[if_neg hi,if_neg (fun e=>hi e.1)];exact h.2 i
theorem eval_of(Y:GRel μ G){tm:Tr Value}{a:Act}{x:Operand}(E:br G x=true)(h: ∀t,x= .tmp t->VRel μ (cU tm t) (a.tmps.getD t undef)):
  VRel μ (dy tm x) (a.eval x):=by
 cases x with
 |tmp t=>exact h t rfl
 |const v=>exact VRel.refl2 E
 |global g=>
  obtain⟨l,O,T,U⟩:=Y g (a0e E)
  have:=VRel.ptr (μ:=μ) g 0 l O
  rw[T,U]at this;exact this
 |func f=>exact .atom _ rfl
theorem yield_eq{ops:Array Oper}{tm:Tr Value}{a:Array Value}{j:Nat}(h: ∀d,(ops[j]?).bind (·.dst)=some d->VRel μ (cU tm d) (a.getD d undef)):
  lM ops tm j=yielded ops a j:=by
 unfold lM yielded
 cases hd:(ops[j]?).bind (·.dst) with
 |none=>rfl
 |some d=>
  have E:=h d hd
  simp only[a0s]
  simp only[a0G]at E
  cases ha:a[d]? with
  |none=>
   rw[ha]at E
   simp only[Option.getD_none]at E
   have: ∀b,cU tm d≠ .bool b:=by intro b e;rw[e]at E;have:=E.bool_inv;cases this
   cases O:cU tm d<;>first|rfl|exact absurd O (this _)
  |some x=>
   rw[ha]at E
   simp only[a1h]at E
   cases x with
   |bool b=>
    have:cU tm d= .bool b:=by generalize cU tm d=y at E;cases E;rfl
    rw[this]
   |_=>
    have: ∀b,cU tm d≠ .bool b:=by intro b e;rw[e]at E;have:=E.bool_inv;cases this
    cases O:cU tm d<;>first|rfl|exact absurd O (this _)
theorem wanted_eq{ops:Array Oper}{o:Oper}{tm:Tr Value}{a:Array Value}(h: ∀j w,o.guard=some (j,w)->∀d,(ops[j]?).bind (·.dst)=some d->VRel μ (cU tm d) (a.getD d undef)):
  bl ops o tm=Region.wanted o (yielded ops a):=by
 unfold bl Region.wanted
 cases E:o.guard with
 |none=>rfl
 |some p=>
  obtain⟨j,w⟩:=p
  simp only
  rw[yield_eq (h j w E)]
def eo(P:Program)(G:Nat)(cf:cF):Prop:= ∀f args H v H',cf f args H=some (v,H')->WF H->Ext H H'/\
 ∀μ w (cargs:Array Value),LRel μ args cargs.toList->GRel μ G->WRel μ H w->(∀b,H.next<=b->b<H'.next->μ b=none)->
  Calls P f cargs w fun e w'=> ∃μ' v',e= .returned v'/\VRel μ' v v'/\Post μ H w μ' H' w'
noncomputable def eD (P : Program) (cf : cF) (ρ : Operand -> Value) (o : Oper) (H : Heap) : Option (Value × Heap) :=
 match aop P ρ o H with
 |some (.val v,h)=>some (v,h)
 |some (.skip,h)=>some (undef,h)
 |some (.enter f args,h)=>cf f args h
 |none=>none
theorem step_eq(cf:cF)(ops:Array Oper)(o:Oper)(s:St):step P G cf ops o s=
  bif bl ops o s.tmps then
   bif o.op.operands.toList.all (br G) then
    match eD P cf (dy s.tmps) o s.heap with
    |some (v,h)=>{s with heap:=h}.put o.dst v
    |none=>none
   else none
  else s.put o.dst undef:=by
 unfold step eD
 cases bl ops o s.tmps with
 |false=>rfl
 |true=>
  cases o.op.operands.toList.all (br G) with
  |false=>rfl
  |true=>
   simp only[cond_true]
   cases aop P (dy s.tmps) o s.heap with
   |none=>rfl
   |some p=>
    obtain⟨r,h⟩:=p
    cases r with
    |val v=>rfl
    |skip=>rfl
    |enter f args=>
     simp only
     cases cf f args h with
     |none=>rfl
     |some q=>rfl
theorem iw{s O:St}{E:Option Tmp}{v:Value}(h:s.put E v=some O):
  O.size=s.size/\O.heap=s.heap/\((E=none/\O.tmps=s.tmps)\/∃d,E=some d/\d<s.size/\O.tmps=lset s.tmps d v):=by
 unfold St.put at h
 split at h
 ·rename_i d;cases T:Nat.ble (d+1) s.size with
  |false=>rw[T]at h;cases h
  |true=>
   rw[T]at h;simp only[cond_true,a01]at h;subst h
   exact⟨rfl,rfl,.inr ⟨d,rfl,a0e T,rfl⟩⟩
 injection h with h;subst h;exact⟨rfl,rfl,.inl ⟨rfl,rfl⟩⟩
theorem mj{cf:cF}(U:eo P G cf){ρ:Operand->Value}{o:Oper}{H H':Heap}{v:Value}(E:WF H)(h:eD P cf ρ o H=some (v,H')):Ext H H':=by
 unfold eD at h;split at h
 ·rename_i u O ha;simp only[a01,a06]at h;rw[←h.2];exact nq E ha
 ·rename_i O ha;simp only[a01,a06]at h;rw[←h.2];exact nq E ha
 ·rename_i f args O ha;have T:=nq E ha;exact T.trans (U f args O v H' h (E.ext T)).1
 cases h
theorem jW{cf:cF}(a8:eo P G cf){ρ:Operand->Value}{o:Oper}{a:Act}{H H':Heap}{v:Value}{w:World}(a1:WF H)(hρ: ∀x∈o.op.operands,VRel μ (ρ x) (a.eval x))
  (hG:GRel μ G) (hw:WRel μ H w) (hf: ∀b,H.next<=b->b<H'.next->μ b=none) (h:eD P cf ρ o H=some (v,H')) {K:Act->World->Prop} {Q:Exit->Act->World->Prop}
  (hK: ∀μ' w' v',Post μ H w μ' H' w'->VRel μ' v v'->K (a.put o.dst v') w'):o.wp P a w K Q:=by
 unfold eD at h
 unfold Oper.wp
 split at h
 ·rename_i u h1 ha;simp only[a01,a06]at h;obtain⟨rfl,rfl⟩:=h;obtain⟨n,w1,U,E,O,T⟩:=jj hρ hw hf ha;rw[E];cases n<;>first|exact hK U w1 _ O T|exact T.elim
 ·rename_i h1 ha;simp only[a01,a06]at h;obtain⟨rfl,rfl⟩:=h;obtain⟨n,w1,U,E,O,T⟩:=jj hρ hw hf ha;rw[E];cases n<;>first|exact hK U w1 _ O VRel.undef|exact T.elim
 ·rename_i f args h1 ha;have e1:=nq a1 ha;obtain⟨e2,ar⟩:=a8 f args h1 v H' h (a1.ext e1);obtain⟨n,w1,U,E,O,T⟩:=jj hρ hw (fun b Y Z=>hf b Y (a0V Z e2.next)) ha;rw[E];cases n with
  |enter f' cargs=>
   obtain⟨rfl,an⟩:=T
   rw[Oper.upon_enter]
   refine(ar U w1 cargs an (hG.mono O.ext) O.wrel (fun b Y Z=>?_)).mono ?_
   ·cases hb:U b with
    |none=>rfl
    |some l=>
     rcases O.dom b l hb with hb0|⟨_,hb3⟩
     ·rw[hf b (a05 e1.next Y) Z]at hb0;cases hb0
     omega
   rintro e w2 ⟨μ2,v',rfl,hv,hp2⟩
   exact hK μ2 w2 v' (O.trans hp2 e1.next e2.next) hv
  |_=>exact T.elim
 cases h
theorem kp{cf:cF}(O:eo P G cf){ops:Array Oper}{o:Oper}{s U:St}(Z:WF s.heap)(h:step P G cf ops o s=some U):Ext s.heap U.heap:=by
 rw[step_eq]at h;cases T:bl ops o s.tmps with
 |false=>rw[T]at h;rw[(iw h).2.1];exact Ext.refl _
 |true=>
  rw[T]at h
  cases E:o.op.operands.toList.all (br G) with
  |false=>rw[E]at h;cases h
  |true=>
   rw[E]at h
   simp only[cond_true]at h
   split at h
   ·rename_i v h1 Y;rw[(iw h).2.1];exact mj O Z Y
   cases h
theorem fF(a:Act)(E:Option Tmp)(v:Value):(a.put E v).defers=a.defers:=by cases E<;>rfl
theorem put_rel{s T:St}{E:Option Tmp}{v v':Value}{a:Act}(h:s.put E v=some T)(Y:TRel μ s.tmps s.size a.tmps)(Z:VRel μ v v'):
  TRel μ T.tmps T.size (a.put E v').tmps:=by
 obtain⟨U,_,⟨rfl,O⟩|⟨d,rfl,hd,O⟩⟩:=iw h
 ·rw[U,O];exact Y
 rw[U,O];exact Y.put hd Z
theorem step_sound{cf:cF}(ar:eo P G cf){ops:Array Oper}{i:Nat}{o:Oper}(ho:ops[i]?=some o){s T:St}{a:Act}{w:World}(a4:WF s.heap)(U:TRel μ s.tmps s.size a.tmps)
  (Z:GRel μ G) (hw:WRel μ s.heap w) (hf: ∀b,s.heap.next<=b->b<T.heap.next->μ b=none) (h:step P G cf ops o s=some T) {K:Act->World->Prop} {Q:Exit->Act->World->Prop}
  (hK: ∀μ' w' a',Post μ s.heap w μ' T.heap w'->TRel μ' T.tmps T.size a'.tmps->a'.defers=a.defers->K a' w'):wpOp P ops Q i K a w:=by
 unfold wpOp
 rw[ho]
 simp only
 have Y:bl ops o s.tmps=Region.wanted o (yielded ops a.tmps):=wanted_eq (μ:=μ) fun _ _ _ d _=>U.2 d
 rw[step_eq,Y]at h
 cases hq:Region.wanted o (yielded ops a.tmps) with
 |false=>
  rw[hq]at h
  simp only[cond_false]at h
  simp only[a0k,if_false]
  have E:=(iw h).2.1
  exact hK μ w _ (by rw[E];exact Post.refl hw) (put_rel h U VRel.undef) (fF _ _ _)
 |true=>
  rw[hq]at h
  simp only[if_true]
  left
  cases O:o.op.operands.toList.all (br G) with
  |false=>rw[O]at h;cases h
  |true=>
   rw[O]at h
   simp only[cond_true]at h
   split at h
   ·rename_i v h1 he;have E:=(iw h).2.1;simp only at E;refine jW ar a4 (fun x hx=>eval_of Z (a0l.1 O x (by simpa using hx)) fun t _=>U.2 t) Z hw (by rw[←E];exact hf) he ?_;intro μ' w' v' hp hv;have a2:TRel μ' s.tmps s.size a.tmps:=U.mono hp.ext;exact hK μ' w' _ (by rw[E];exact hp) (put_rel (s:={s with heap:=h1}) h a2 hv) (fF _ _ _)
   cases h
theorem jx{cf:cF}(O:eo P G cf){ops:Array Oper}: ∀(l:List Oper) (s E:St),WF s.heap->gk P G cf ops l s=some E->Ext s.heap E.heap
 | [],s,E,_,h=>by rw[jv]at h;injection h with h;subst h;exact Ext.refl _
 |o::os,s,E,hw,h=>by
  rw[bS]at h;split at h
  ·rename_i Y U;have T:=kp O hw U;exact T.trans (jx O os Y E (hw.ext T) h)
  cases h
theorem jO{cf:cF}(O:eo P G cf){ops:Array Oper}{Q:Exit->Act->World->Prop}: ∀(l:List Oper) (k:Nat) (s E:St),ops.toList.drop k=l->gk P G cf ops l s=some E->
  ∀(μ:Emb) (a:Act) (w:World),WF s.heap->TRel μ s.tmps s.size a.tmps->GRel μ G->WRel μ s.heap w->(∀b,s.heap.next<=b->b<E.heap.next->μ b=none)->
  (∀μ' w' a',Post μ s.heap w μ' E.heap w'->TRel μ' E.tmps E.size a'.tmps->a'.defers=a.defers->Q .normal a' w')->wpOps P ops Q (List.range' k l.length) a w
 | [],k,s,E,_,h,μ,a,w,hwf,ht,hG,hw,hf,hQ=>by rw[jv]at h;injection h with h;subst h;simp only[a03,List.range'_zero,wpOps];exact hQ μ w a (Post.refl hw) ht rfl
 |o::os,k,s,E,hd,h,μ,a,w,hwf,ht,hG,hw,hf,hQ=>by
  rw[bS]at h;split at h
  ·rename_i s1 h1;have Y:=kp O hwf h1;have e2:=jx O os s1 E (hwf.ext Y) h;have hk:k<ops.toList.length:=by
    rcases a0d k ops.toList.length with hl|hl
    ·exact hl
    rw[a0O hl]at hd;cases hd
   have an:=a0K hk;rw[hd]at an;injection an with h2 h3;have ho:ops[k]?=some o:=by
    have:ops.toList[k]?=some o:=by rw[a0b hk,←h2]
    simpa using this
   simp only[a02,List.range'_succ];rw[wpOps_cons];refine step_sound O ho hwf ht hG hw (fun b T U=>hf b T (a0V U e2.next)) h1 ?_;intro μ1 w1 a1 Z a7 a3;refine jO O os (k+1) s1 E h3.symm h μ1 a1 w1 (hwf.ext Y) a7 (hG.mono Z.ext) Z.wrel (fun b T U=>?_) ?_
   ·cases hb:μ1 b with
    |none=>rfl
    |some l=>
     rcases Z.dom b l hb with hb0|⟨_,hb3⟩
     ·rw[hf b (a05 Y.next T) U]at hb0;cases hb0
     omega
   intro μ2 w2 a2 a6 a8 a4;exact hQ μ2 w2 a2 (Z.trans a6 Y.next e2.next) a8 (a4.trans a3)
  cases h
end
end Go.R
set_option linter.unusedVariables false
set_option linter.unusedSimpArgs false
namespace Go.R
def lL(l:List Nat)(o:Oper):Nat:=o.after.toList.foldl (fun s e=>bif Region.binds .any e then s|||2^e.on|||l.getD e.on 0 else s) 0
theorem iO: ∀(os:List Oper) (E:List Nat),∃t,ancs os E=E++t/\t.length=os.length
 | [],E=>⟨[],by simp[ancs],rfl⟩
 |o::os,E=>by obtain⟨t,h,O⟩:=iO os (E++[lL E o]);refine⟨lL E o::t,?_,by simp[O]⟩;show ancs os (E++[lL E o])=_;rw[h];simp
theorem ancs_at: ∀(os:List Oper) (E:List Nat) (k:Nat) (o:Oper),os[k]?=some o->
  (ancs os E).getD (E.length+k) 0=lL ((ancs os E).take (E.length+k)) o
 | [],E,k,o,h=>by simp at h
 |x::os,E,0,o,h=>by
  simp at h;subst h;obtain⟨t,h,_⟩:=iO os (E++[lL E x]);have e:ancs (x::os) E=E++([lL E x]++t):=by show ancs os (E++[lL E x])=_;rw[h];simp
  rw[e];simp
 |x::os,E,k+1,o,h=>by have ih:=ancs_at os (E++[lL E x]) k o (by simpa using h);have e:ancs (x::os) E=ancs os (E++[lL E x]):=rfl;rw[e];simp only[a00,a0q]at ih;rw[show E.length+(k+1)=E.length+1+k by omega];exact ih
theorem fold_bit(l:List Nat)(j:Nat): ∀(es:List Edge) (s:Nat),(es.foldl (fun s e=>bif Region.binds .any e then s|||2^e.on|||l.getD e.on 0 else s) s).testBit j=true->
  s.testBit j=true\/∃e∈es,Region.binds .any e=true/\(e.on=j\/(l.getD e.on 0).testBit j=true)
 | [],s,h=> .inl h
 |e::es,s,h=>by
  simp only[List.foldl_cons]at h;rcases fold_bit l j es _ h with h1|⟨e',he,h2⟩
  ·cases hb:Region.binds .any e with
   |false=>rw[hb]at h1;exact .inl h1
   |true=>
    rw[hb]at h1
    simp only[cond_true,Nat.testBit_or,a0S]at h1
    rcases h1 with(h1|h1)|h1
    ·exact .inl h1
    ·rw[Nat.testBit_two_pow]at h1;exact .inr ⟨e,by simp,hb,.inl (by simpa using h1)⟩
    exact .inr ⟨e,by simp,hb,.inr h1⟩
  exact .inr ⟨e',by simp[he],h2⟩
theorem ordered_edge{ops:Array Oper}{j k:Nat}(h:bm (cC ops) j k=true):
  ∃o,ops[k]?=some o/\∃e∈o.after.toList,Region.binds .any e=true/\(e.on=j\/(e.on<k/\bm (cC ops) j e.on=true)):=by
 unfold bm at h
 have O:k<ops.toList.length:=by
  obtain⟨t,T,U⟩:=iO ops.toList [];rcases a0d k ops.toList.length with hlt|hge
  ·exact hlt
  have:(cC ops).getD k 0=0:=by unfold cC;rw[T,a0z,a0c,a0Z (by omega)];rfl
  rw[this]at h;simp at h
 have E:ops.toList[k]?=some ops.toList[k]:=a0b O
 have ha:=ancs_at ops.toList [] k _ E
 simp only[a03,a0B]at ha
 change (cC ops).getD k 0=lL ((cC ops).take k) _ at ha
 rw[ha]at h
 rcases fold_bit _ j _ 0 h with h1|⟨e,he,hb,h2⟩
 ·simp at h1
 refine⟨ops.toList[k],by rw[←Array.getElem?_toList];exact E,e,he,hb,?_⟩
 rcases h2 with h2|h2
 ·exact .inl h2
 right
 rcases a0d e.on k with hlt|hge
 ·refine⟨hlt,?_⟩;unfold bm;rw[a0c,a0x,if_pos hlt,←a0c]at h2;exact h2
 rw[a0c,a0x,if_neg (by omega)]at h2
 simp at h2
def DC(ops:Array Oper)(S:Nat->Bool):Prop:= ∀(k:Nat) o,ops[k]?=some o->S k=true->∀e∈o.after.toList,Region.binds .any e=true->S e.on=true
theorem DC.anc{ops:Array Oper}{S:Nat->Bool}(h:DC ops S){j:Nat}: ∀(k:Nat),S k=true->bm (cC ops) j k=true->S j=true:=by
 intro k;induction k using Nat.strongRecOn with
 |_ k ih=>
  intro U Y
  obtain⟨o,E,e,T,hb,O⟩:=ordered_edge Y
  have hs:=h k o E U e T hb
  rcases O with rfl|⟨hlt,h2⟩
  ·exact hs
  exact ih e.on hlt hs h2
structure RegFacts(ops:Array Oper):Prop where
 back: ∀(j:Nat) o,ops[j]?=some o->∀e∈o.after.toList,Region.binds .any e=true->e.on<j
 pair: ∀(i j:Nat) x o,i<j->ops[i]?=some x->ops[j]?=some o->bm (cC ops) i j=true\/x.apart ops o=true
theorem regOK_facts{ops:Array Oper}(h:kU ops=true):RegFacts ops:=by
 unfold kU at h;simp only[a0l,List.mem_range]at h;refine⟨fun j o O e Y hb=>?_,fun i j x o U Z O=>?_⟩
 ·have T:j<ops.size:=(a0I.1 O).1;have:=h j T;rw[O]at this;simp only[a04,a0l]at this;have E:=this.1.1 e Y;rw[hb]at E;simp only[a1x,a1O]at E;exact a0e E
 have T:j<ops.size:=(a0I.1 O).1;have:=h j T;rw[O]at this;simp only[a04,a0l,List.mem_range]at this;have E:=this.2 i U;rw[Z]at E;simpa using E
section
variable (st:Nat->St) (vl:Nat->Value) (ops:Array Oper)
def chg(k b:Nat):Prop:=(st (k+1)).heap.get b≠(st k).heap.get b
open Classical in
noncomputable def kC (S : Nat -> Bool) : Nat -> Nat -> Option AObj
 |0,b=>(st 0).heap.get b
 |k+1,b=>if S k=true/\chg st k b then(st (k+1)).heap.get b else kC S k b
def kg(k:Nat):Option Tmp:=(ops[k]?).bind (·.dst)
open Classical in
noncomputable def tv (S : Nat -> Bool) : Nat -> Nat -> Value
 |0,t=>cU (st 0).tmps t
 |k+1,t=>if S k=true/\kg ops k=some t then vl k else tv S k t
theorem lu{S:Nat->Bool}{b i:Nat}: ∀m,(∀k,k<m->chg st k b->(S k=true↔k<i))->kC st S m b=(st (min m i)).heap.get b
 |0,_=>by simp[kC]
 |m+1,h=>by
  have ih:=lu m fun k O=>h k (by omega)
  unfold kC;by_cases E:m<i
  ·rw[show min (m+1) i=m+1 by omega];rw[show min m i=m by omega]at ih;by_cases hc:chg st m b
   ·rw[if_pos ⟨(h m (by omega) hc).2 E,hc⟩]
   rw[if_neg (fun e=>hc e.2),ih];unfold chg at hc;exact(Classical.not_not.1 hc).symm
  rw[show min (m+1) i=i by omega];rw[show min m i=i by omega]at ih;rw[if_neg (fun e=>E ((h m (by omega) e.2).1 e.1)),ih]
theorem mq{S S':Nat->Bool}{b:Nat}: ∀m,(∀k,k<m->chg st k b->S k=S' k)->kC st S m b=kC st S' m b
 |0,_=>rfl
 |m+1,h=>by
  have ih:=mq m fun k E=>h k (by omega)
  unfold kC;by_cases hc:chg st m b
  ·rw[h m (by omega) hc,ih]
  rw[if_neg (fun e=>hc e.2),if_neg (fun e=>hc e.2),ih]
theorem tv_eq{S:Nat->Bool}{t i:Nat}(E: ∀k,cU (st (k+1)).tmps t=if kg ops k=some t then vl k else cU (st k).tmps t):
  ∀m,(∀k,k<m->kg ops k=some t->(S k=true↔k<i))->tv st vl ops S m t=cU (st (min m i)).tmps t
 |0,_=>by simp[tv]
 |m+1,h=>by
  have ih:=tv_eq E m fun k T=>h k (by omega)
  unfold tv;by_cases O:m<i
  ·rw[show min (m+1) i=m+1 by omega];rw[show min m i=m by omega]at ih;by_cases hc:kg ops m=some t
   ·rw[if_pos ⟨(h m (by omega) hc).2 O,hc⟩,E,if_pos hc]
   rw[if_neg (fun e=>hc e.2),ih,E,if_neg hc]
  rw[show min (m+1) i=i by omega];rw[show min m i=i by omega]at ih;rw[if_neg (fun e=>O ((h m (by omega) e.2).1 e.1)),ih]
theorem tv_congr{S S':Nat->Bool}{t:Nat}: ∀m,(∀k,k<m->kg ops k=some t->S k=S' k)->tv st vl ops S m t=tv st vl ops S' m t
 |0,_=>rfl
 |m+1,h=>by
  have ih:=tv_congr m fun k E=>h k (by omega)
  unfold tv;by_cases hc:kg ops m=some t
  ·rw[h m (by omega) hc,ih]
  rw[if_neg (fun e=>hc e.2),if_neg (fun e=>hc e.2),ih]
end
structure Inv(ops:Array Oper)(st:Nat->St)(vl:Nat->Value)(μ0:Emb)(w0:World)(d0:List Deferred)(S:Nat->Bool)(μ:Emb)(a:Act)(w:World):Prop where
 dc:DC ops S
 dom: ∀b l,μ b=some l->b<(st 0).heap.next\/(∃k,k<ops.size/\S k=true/\(st k).heap.next<=b/\b<(st (k+1)).heap.next)\/(st ops.size).heap.next<=b
 obj: ∀b l o,μ b=some l->kC st S ops.size b=some o->ObjRel μ w l o
 inj: ∀b1 b2 l1 l2 o1 o2,b1≠b2->μ b1=some l1->μ b2=some l2->kC st S ops.size b1=some o1->kC st S ops.size b2=some o2->o1.rw=true->o2.live=true->l1.c≠l2.c
 size:a.tmps.size=(st 0).size
 tm: ∀t,VRel μ (tv st vl ops S ops.size t) (a.tmps.getD t undef)
 defers:a.defers=d0
 ext0: ∀b l,μ0 b=some l->μ b=some l
 dom0: ∀b l,μ b=some l->μ0 b=some l\/((st 0).heap.next<=b/\b<(st ops.size).heap.next)
 grow0:w0.heap.size<=w.heap.size
 os0:w.os=w0.os
 tape0:w.tape=w0.tape
 out0:w.output=w0.output
 keep0: ∀c,c<w0.heap.size->(∀b l o,μ0 b=some l->(st 0).heap.get b=some o->o.rw=true->l.c≠c)->w.heap[c]?=w0.heap[c]?
 img0: ∀b l o,μ b=some l->kC st S ops.size b=some o->o.live=true->
  w0.heap.size<=l.c\/∃b0 l0 o0,μ0 b0=some l0/\(st 0).heap.get b0=some o0/\o0.live=true/\(o.rw=true->o0.rw=true)/\l0.c=l.c
def j6(S:Nat->Bool)(i:Nat):Nat->Bool:=fun k=>Nat.beq k i||S k
theorem gP(S:Nat->Bool)(i:Nat):j6 S i i=true:=by simp[j6]
theorem gQ(S:Nat->Bool){i k:Nat}(h:k≠i):j6 S i k=S k:=by
 have:Nat.beq k i=false:=by
  cases hb:Nat.beq k i with
  |false=>rfl
  |true=>exact absurd (a08 hb) h
 simp[j6,this]
theorem Inv.next{ops:Array Oper}{st:Nat->St}{vl:Nat->Value}{μ0 μ μ':Emb}{w0 w w':World}{d0:List Deferred}{S:Nat->Bool}{a:Act}{i:Nat}{H Hn:Heap}{o:Oper}{v':Value}
  (I:Inv ops st vl μ0 w0 d0 S μ a w) (hi:i<ops.size) (ho:ops[i]?=some o) (O:Post μ H w μ' Hn w') (hv:VRel μ' (vl i) v') (b4: ∀k,(st k).heap.next<=(st (k+1)).heap.next)
  (dn:(st i).heap.next<=H.next) (dp:Hn.next<=(st (i+1)).heap.next)
  (c1: ∀b l x,μ b=some l->H.get b=some x->kC st S ops.size b=some x)
  (c2: ∀b l x,μ' b=some l->Hn.get b=some x->kC st (j6 S i) ops.size b=some x)
  (c3: ∀b l x,μ' b=some l->Hn.get b=none->kC st (j6 S i) ops.size b=some x->μ b=some l/\H.get b=none/\kC st S ops.size b=some x)
  (c4:DC ops (j6 S i)) (c5: ∀d,o.dst=some d->d<(st 0).size)
  (c8: ∀t,o.dst=some t->tv st vl ops (j6 S i) ops.size t=vl i) (cv: ∀t,o.dst≠some t->tv st vl ops (j6 S i) ops.size t=tv st vl ops S ops.size t):
  Inv ops st vl μ0 w0 d0 (j6 S i) μ' (a.put o.dst v') w':=by
 have ci: ∀k,(st 0).heap.next<=(st k).heap.next:=by
  intro k;induction k with
  |zero=>exact a07 _
  |succ k ih=>exact a05 ih (b4 k)
 have monoL: ∀j k,j<=k->(st j).heap.next<=(st k).heap.next:=by
  intro j k h;induction h with
  |refl=>exact a07 _
  |step _ ih=>exact a05 ih (b4 _)
 have c9:=monoL (i+1) ops.size hi
 have far: ∀b l x,μ b=some l->H.get b=none->kC st S ops.size b=some x->x.live=true->w'.heap[l.c]?=w.heap[l.c]?:=by
  intro b l x hb hh hc a1;refine O.keep l.c ((I.obj b l x hb hc).lt a1) fun U l2 o2 Y b9 a2=>?_
  exact I.inj U b l2 l o2 x (fun e=>by subst e;rw[hh]at b9;cases b9) Y hb (c1 U l2 o2 Y b9) hc a2 a1
 refine⟨c4,fun b l hb=>?_,fun b l x hb hc=>?_,fun b1 U l1 l2 o1 o2 co a9 Y a5 T a3 a2=>?_,?_,fun t=>?_,?_,fun b l hb=>O.ext b l (I.ext0 b l hb),fun b l hb=>?_,a05 I.grow0 O.grow,
  O.os.trans I.os0,O.tape.trans I.tape0,O.out.trans I.out0,fun c hc b8=>?_,fun b l x hb hc a1=>?_⟩
 ·rcases O.dom b l hb with E|⟨E,h2⟩
  ·rcases I.dom b l E with h2|⟨k,hk,hs,Z,h4⟩|h2
   ·exact .inl h2
   ·refine .inr (.inl ⟨k,hk,?_,Z,h4⟩);unfold j6;rw[hs];simp
   exact .inr (.inr h2)
  exact .inr (.inl ⟨i,hi,gP S i,by omega,by omega⟩)
 ·cases hg:Hn.get b with
  |some y=>
   have:=c2 b l y hb hg
   rw[this]at hc;injection hc with hc;subst hc
   exact O.wrel.obj b l y hb hg
  |none=>
   obtain⟨E,h2,Z⟩:=c3 b l x hb hg hc
   exact(I.obj b l x E Z).keep O.ext O.grow (fun a1=>far b l x E h2 Z a1)
 ·--no two blocks at one place
  cases bb:Hn.get b1 with
  |some y1=>
   have e1:=c2 b1 l1 y1 a9 bb
   rw[e1]at a5;injection a5 with a5;subst a5
   cases ax:Hn.get U with
   |some y2=>
    have e2:=c2 U l2 y2 Y ax
    rw[e2]at T;injection T with T;subst T
    exact O.wrel.inj b1 U l1 l2 y1 y2 co a9 Y bb ax a3 a2
   |none=>
    obtain⟨E,h2,Z⟩:=c3 U l2 o2 Y ax T
    have c6:=(I.obj U l2 o2 E Z).lt a2
    rcases O.img b1 l1 y1 a9 bb (ip a3) with hh|⟨b0,l0,o0,g1,g2,g3,g4,g5⟩
    ·omega
    rw[←g5]
    exact I.inj b0 U l0 l2 o0 o2 (fun e=>by subst e;rw[h2]at g2;cases g2) g1 E (c1 b0 l0 o0 g1 g2) Z (g4 a3) a2
  |none=>
   obtain⟨E,h2,Z⟩:=c3 b1 l1 o1 a9 bb a5
   cases ax:Hn.get U with
   |some y2=>
    have e2:=c2 U l2 y2 Y ax
    rw[e2]at T;injection T with T;subst T
    have c6:=(I.obj b1 l1 o1 E Z).lt (ip a3)
    rcases O.img U l2 y2 Y ax a2 with hh|⟨b0,l0,o0,g1,g2,g3,g4,g5⟩
    ·omega
    rw[←g5]
    exact I.inj b1 b0 l1 l0 o1 o0 (fun e=>by subst e;rw[h2]at g2;cases g2) E g1 Z (c1 b0 l0 o0 g1 g2) a3 g3
   |none=>
    obtain⟨k1,k2,k3⟩:=c3 U l2 o2 Y ax T
    exact I.inj b1 U l1 l2 o1 o2 co E k1 Z k3 a3 a2
 ·cases hd:o.dst with
  |none=>exact I.size
  |some d=>simp only[Act.put,Array.size_setIfInBounds];exact I.size
 ·have ch:=(I.tm t).mono O.ext;cases hd:o.dst with
  |none=>rw[cv t (by rw[hd];simp)];exact ch
  |some d=>
   simp only[Act.put,getD_set]
   by_cases b7:d=t
   ·subst b7;rw[c8 d hd,if_pos ⟨rfl,by rw[I.size];exact c5 d hd⟩];exact hv
   rw[cv t (by rw[hd];simpa using b7),if_neg (fun e=>b7 e.1)];exact ch
 ·rw[fF];exact I.defers
 ·rcases O.dom b l hb with E|⟨E,h2⟩
  ·exact I.dom0 b l E
  exact .inr ⟨by have:=ci i;omega,by omega⟩
 ·rw[O.keep c (a0V hc I.grow0) ?_,I.keep0 c hc b8];intro b l x hb hx hr he;rcases I.img0 b l x hb (c1 b l x hb hx) (ip hr) with hh|⟨b0,l0,o0,g1,g2,g3,g4,g5⟩
  ·omega
  exact b8 b0 l0 o0 g1 g2 (g4 hr) (g5.trans he)
 cases hg:Hn.get b with
 |some y=>
  have:=c2 b l y hb hg
  rw[this]at hc;injection hc with hc;subst hc
  rcases O.img b l y hb hg a1 with hh|⟨b0,l0,o0,g1,g2,g3,g4,g5⟩
  ·exact .inl (a05 I.grow0 hh)
  rcases I.img0 b0 l0 o0 g1 (c1 b0 l0 o0 g1 g2) g3 with hh|⟨b3,l3,o3,e1,e2,e3,e4,e5⟩
  ·exact .inl (g5▸hh)
  exact .inr ⟨b3,l3,o3,e1,e2,e3,fun hx=>e4 (g4 hx),e5.trans g5⟩
 |none=>
  obtain⟨E,h2,Z⟩:=c3 b l x hb hg hc
  exact I.img0 b l x E Z a1
end Go.R
namespace Go.R
section
variable {P:Program} {G:Nat}
def nw(ρ:Operand->Value)(o:Oper)(b:Nat):Prop:=
 (∃t a off,o.op= .load t a/\ρ a= .pointer (some ⟨b,off,none⟩))\/
 (∃t x lo hi E off n k,o.op= .slice t x lo hi E/\ρ x= .slice (some ⟨b,off,none⟩) n k)
def NilCut(ρ:Operand->Value)(o:Oper):Prop:=(∃t x lo hi E n k,o.op= .slice t x lo hi E/\ρ x= .slice none n k)\/
 (∃xs ts x,o.op= .call ⟨.builtin .len,xs,ts⟩/\ge ρ xs.toList=[x]/\((∃a n k,x= .slice a n k)\/∃s,x= .string s))
structure OpFact(P:Program)(G:Nat)(cf:cF)(ops:Array Oper)(o:Oper)(s s':St)(v:Value)(f:Inf):Prop where
 size:s'.size=s.size
 tm: ∀t,cU s'.tmps t=if o.dst=some t then v else cU s.tmps t
 dlt: ∀d,o.dst=some d->d<s.size
 next:s.heap.next<=s'.heap.next
 far: ∀b,s'.heap.next<=b->s'.heap.get b=s.heap.get b
 how:(bl ops o s.tmps=false/\v=undef/\f= .v/\s'.heap.next=s.heap.next/\∀b,s'.heap.get b=s.heap.get b)\/
  (bl ops o s.tmps=true/\o.op.operands.toList.all (br G)=true/\∃H1 H2,(∀b,H1.get b=s.heap.get b)/\H1.next=s.heap.next/\
   eD P cf (dy s.tmps) o H1=some (v,H2)/\(∀b,s'.heap.get b=H2.get b)/\s'.heap.next=H2.next/\
   ((f= .v/\(bh o.op=true\/NilCut (dy s.tmps) o))\/(f= .a s.heap.next/\eu o.op=true)\/
    (∃b,f= .l b/\nw (dy s.tmps) o b)\/
    (∃w,f= .x w/\(∀b,b∈w->b<s.heap.next)/\∀b,b<s.heap.next->b∉w->s'.heap.get b=s.heap.get b)))
theorem gH{n b:Nat}: ∀{l:List Nat},b∈dT n l↔b∈l/\b<n
 | []=>by simp[dT]
 |c::l=>by
  unfold dT;cases T:Nat.ble n c with
  |true=>
   have:=a0e T
   simp only[cond_true,a0m]
   rw[gH (l:=l)]
   constructor
   ·rintro⟨E,O⟩;exact⟨.inr E,O⟩
   rintro⟨rfl|E,O⟩
   ·omega
   exact⟨E,O⟩
  |false=>
   have Y: ¬n<=c:=fun U=>by rw[a0t U]at T;cases T
   simp only[cond_false,a0m]
   rw[gH (l:=l)]
   constructor
   ·rintro(rfl|⟨E,O⟩)
    ·exact⟨.inl rfl,by omega⟩
    exact⟨.inr E,O⟩
   rintro⟨rfl|E,O⟩
   ·exact .inl rfl
   exact .inr ⟨E,O⟩
theorem loadV_spot{P:Program}{H:Heap}{t:TypeId}{p:Addr}{v:Value}(h:H.loadV P t p=some v):p.spot=none:=by
 obtain⟨b,o,sp⟩:=p;cases sp with
 |none=>rfl
 |some _=>
  unfold Heap.loadV at h
  split at h
  ·split at h
   ·simp[Heap.loadN]at h
   cases h
  ·simp[Heap.cellAt]at h
  cases h
theorem loadV_congr{H H':Heap}{t:TypeId}{b off:Nat}(h:H.get b=H'.get b):H.loadV P t ⟨b,off,none⟩=H'.loadV P t ⟨b,off,none⟩:=by unfold Heap.loadV Heap.loadN Heap.cellAt;simp only[h]
theorem loadV_some{H:Heap}{t:TypeId}{b off:Nat}{v:Value}(h:H.loadV P t ⟨b,off,none⟩=some v): ∃x,H.get b=some x:=by
 cases E:H.get b with
 |some x=>exact⟨x,rfl⟩
 |none=>
  unfold Heap.loadV Heap.loadN Heap.cellAt at h
  simp only[E]at h
  split at h
  ·split at h<;>cases h
  ·cases h
  cases h
theorem aSlice_spot{P:Program}{H:Heap}{t:TypeId}{p:Addr}{n k:Nat}{lo hi E:Option Value}{v:Value}(h:bz P t (.slice (some p) n k) lo hi E H=some v):p.spot=none:=by
 obtain⟨b,o,sp⟩:=p;cases sp with
 |none=>rfl
 |some _=>
  unfold bz at h
  split at h
  ·cases h
  split at h<;>simp_all
theorem aSlice_get{P:Program}{H:Heap}{t:TypeId}{b off n k:Nat}{lo hi T:Option Value}{v:Value}(h:bz P t (.slice (some ⟨b,off,none⟩) n k) lo hi T H=some v):
  ∃E,H.get b=some E/\∀O:Heap,O.get b=some E->bz P t (.slice (some ⟨b,off,none⟩) n k) lo hi T O=some v:=by
 cases Y:H.get b with
 |some E=>
  refine⟨E,rfl,fun O U=>?_⟩
  rw[←h]
  unfold bz
  cases T with
  |some _=>rfl
  |none=>
   cases P.underlying t with
   |none=>rfl
   |some d=>cases d<;>first|rfl|simp only[U,Y]
 |none=>
  exfalso
  unfold bz at h
  split at h
  ·cases h
  split at h<;>simp_all
theorem eP{P:Program}{ρ:Operand->Value}{o:Oper}{b:Nat}{H H':Heap}{r:AN}(hr:nw ρ o b)(h:aop P ρ o H=some (r,H')):
  ∃v O,r= .val v/\H'=H/\H.get b=some O/\∀U:Heap,U.get b=some O->aop P ρ o U=some (.val v,U):=by
 rcases hr with⟨t,a,off,Y,ha⟩|⟨t,x,lo,hi,mx,off,n,k,Y,hx⟩
 ·have E: ∀H,aop P ρ o H=eC P t (ρ a) H:=fun H=>by unfold aop;rw[Y]
  rw[E,ha]at h;unfold eC at h;simp only at h;obtain⟨rfl,v,Z,rfl⟩:=cw h;obtain⟨O,T⟩:=loadV_some Z;refine⟨v,O,rfl,rfl,T,fun U h2=>?_⟩;rw[E,ha];unfold eC;simp only;rw[loadV_congr (H':=H') (by rw[h2,T]),Z];rfl
 have E: ∀H,aop P ρ o H=ovl (bz P t (ρ x) (lo.map ρ) (hi.map ρ) (mx.map ρ) H) H:=fun H=>by unfold aop;rw[Y]
 rw[E,hx]at h
 obtain⟨rfl,v,Z,rfl⟩:=cw h
 obtain⟨O,T,ar⟩:=aSlice_get Z
 refine⟨v,O,rfl,rfl,T,fun U h2=>?_⟩
 rw[E,hx,ar U h2]
 rfl
theorem reads_sound{P:Program}{μ:Emb}{ρ ρ':Operand->Value}{o:Oper}{b:Nat}{H:Heap}{w:World}{v:Value}(hr:nw ρ o b)(hρ: ∀x∈o.op.operands,VRel μ (ρ x) (ρ' x))(hw:WRel μ H w)
  (h:aop P ρ o H=some (.val v,H)): ∃v',(execOp ρ' o).run P w= .ok (.value v') w/\VRel μ v v':=by
 rcases hr with⟨t,a,off,E,ha⟩|⟨t,x,lo,hi,mx,off,n,k,E,hx⟩
 ·have T: ∀H,aop P ρ o H=eC P t (ρ a) H:=fun H=>by unfold aop;rw[E]
  rw[T,ha]at h;unfold eC at h;simp only at h;obtain⟨_,v1,hv,O⟩:=cw h;injection O with O;subst O;have ax:VRel μ (ρ a) (ρ' a):=hρ a (by rw[E];simp[Op.operands]);rw[ha]at ax;obtain⟨l,hμ,a4⟩:=ax.ptr_inv;obtain⟨v',U,Y⟩:=iC (P:=P) hw hμ hv;refine⟨v',?_,Y⟩;obtain⟨a3,op,type,pos,after,ar⟩:=o;simp only at E;subst E;simp only[execOp,a4,Instr.loadAt,Instr.sureAddr,Sem.run_bind,Sem.run_pure,Result.andThen_ok,U]
 have T: ∀H,aop P ρ o H=ovl (bz P t (ρ x) (lo.map ρ) (hi.map ρ) (mx.map ρ) H) H:=fun H=>by unfold aop;rw[E]
 rw[T]at h
 obtain⟨a3,op,type,pos,after,ar⟩:=o
 simp only at E
 subst E
 obtain⟨a1,a2⟩:=f8 (μ:=μ) (ρ:=ρ) (ρ':=ρ') (x:=lo) fun y Z=>hρ y (by subst Z;simp[Op.operands])
 obtain⟨b1,b2⟩:=f8 (μ:=μ) (ρ:=ρ) (ρ':=ρ') (x:=hi) fun y Z=>hρ y (by subst Z;simp[Op.operands])
 obtain⟨_,c2⟩:=f8 (μ:=μ) (ρ:=ρ) (ρ':=ρ') (x:=mx) fun y Z=>hρ y (by subst Z;simp[Op.operands])
 obtain⟨v1,v',O,_,U,Y⟩:=kQ (P:=P) hw (hρ x (by simp[Op.operands])) a1 a2 b1 b2 c2 h
 injection O with O;subst O
 refine⟨v',?_,Y⟩
 simp only[execOp,Sem.run_bind,U,Result.andThen_ok,Sem.run_pure]
theorem reads_loc{μ:Emb}{ρ ρ':Operand->Value}{o:Oper}{b:Nat}(Y:nw ρ o b)(U: ∀x∈o.op.operands,VRel μ (ρ x) (ρ' x)): ∃l,μ b=some l:=by
 rcases Y with⟨t,a,off,O,ha⟩|⟨t,x,lo,hi,mx,off,n,k,O,Z⟩
 ·have E:VRel μ (ρ a) (ρ' a):=U a (by rw[O];simp[Op.operands]);rw[ha]at E;obtain⟨l,T,_⟩:=E.ptr_inv;exact⟨l,T⟩
 have E:VRel μ (ρ x) (ρ' x):=U x (by rw[O];simp[Op.operands]);rw[Z]at E;obtain⟨l,T,_⟩:=E.slice_inv;exact⟨l,T⟩
theorem stepD_fact{cf:cF}(bb:eo P G cf){ops:Array Oper}{o:Oper}{s s':St}{f:Inf}(hw:WF s.heap)(h:im P G cf ops o s=some (s',f)):
  ∃v,OpFact P G cf ops o s s' v f:=by
 unfold im at h
 split at h
 case h_2=>cases h
 rename_i t E
 simp only[a01,a06]at h
 obtain⟨rfl,rfl⟩:=h
 have b0:WF {s.heap with log:=[]}:=hw
 have ext:=kp bb (s:={s with heap:={s.heap with log:=[]}}) b0 E
 rw[step_eq]at E
 cases hq:bl ops o s.tmps with
 |false=>
  rw[hq]at E
  simp only[cond_false]at E
  obtain⟨h1,U,h3⟩:=iw E
  refine⟨undef,h1,?_,?_,by rw[U];exact a07 _,fun b _=>by rw[U];rfl,.inl ⟨hq,rfl,by unfold ev;rw[hq];rfl,by rw[U],fun b=>by rw[U];rfl⟩⟩
  ·intro k;rcases h3 with⟨O,h5⟩|⟨d,O,hd,h5⟩
   ·simp[O,h5]
   rw[O];simp only[h5,gI,a01]
  intro d hd
  rcases h3 with⟨O,_⟩|⟨d',O,a4,_⟩
  ·rw[O]at hd;cases hd
  rw[O]at hd;injection hd with hd;subst hd;exact a4
 |true=>
  rw[hq]at E
  cases a6:o.op.operands.toList.all (br G) with
  |false=>rw[a6]at E;cases E
  |true=>
   rw[a6]at E
   simp only[cond_true]at E
   split at E
   case h_2=>cases E
   rename_i v H2 Y
   obtain⟨h1,U,h3⟩:=iw E
   simp only at U
   have a1:Ext {s.heap with log:=[]} H2:=mj bb b0 Y
   refine⟨v,h1,?_,?_,by simp only[U];exact a1.next,fun b hb=>by simp only[U]at hb⊢;exact a1.far b hb,.inr ⟨hq,a6,{s.heap with log:=[]},H2,fun _=>rfl,rfl,Y,fun b=>by simp only[U];rfl,by simp only[U],?_⟩⟩
   ·intro k;rcases h3 with⟨O,h5⟩|⟨d,O,hd,h5⟩
    ·simp[O,h5]
    rw[O];simp only[h5,gI,a01]
   ·intro d hd;rcases h3 with⟨O,_⟩|⟨d',O,a4,_⟩
    ·rw[O]at hd;cases hd
    rw[O]at hd;injection hd with hd;subst hd;exact a4
   ·--which kind
    have hx:(∃w,Inf.x (dT s.heap.next t.heap.log)= .x w/\(∀b,b∈w->b<s.heap.next)/\∀b,b<s.heap.next->b∉w->t.heap.get b=s.heap.get b):=by
     refine⟨_,rfl,fun b hb=>(gH.1 hb).2,fun b hb hn=>?_⟩;obtain⟨d,hd,a7⟩:=a1.log;rw[U];refine a7 b hb fun hm=>hn (gH.2 ⟨?_,hb⟩)
     rw[U,hd,a0o];exact hm
    unfold ev;rw[hq];cases hv:bh o.op with
    |true=>exact .inl ⟨rfl,.inl rfl⟩
    |false=>
     simp only[a1x,Bool.or_false,cond_false]
     cases b9:eu o.op with
     |true=>exact .inr (.inl ⟨rfl,rfl⟩)
     |false=>
      simp only[cond_false]
      split
      ·rename_i ty a T;split
       ·rename_i p Z;have an:p.spot=none:=by
         unfold eD at Y;have ax:aop P (dy s.tmps) o {s.heap with log:=[]}=eC P ty (dy s.tmps a) {s.heap with log:=[]}:=by unfold aop;rw[T]
         rw[ax,Z]at Y;unfold eC at Y;simp only at Y;cases hl:Heap.loadV P {s.heap with log:=[]} ty p with
         |none=>rw[hl]at Y;simp[ovl]at Y
         |some u=>exact loadV_spot hl
        obtain⟨b,off,sp⟩:=p;simp only at an;subst an;exact .inr (.inr (.inl ⟨b,rfl,.inl ⟨ty,a,off,T,Z⟩⟩))
       exact .inr (.inr (.inr hx))
      ·rename_i ty x lo hi mx T;split
       ·rename_i p n k Z;have an:p.spot=none:=by
         unfold eD at Y;have ax:aop P (dy s.tmps) o {s.heap with log:=[]}=ovl (bz P ty (dy s.tmps x) (lo.map (dy s.tmps)) (hi.map (dy s.tmps)) (mx.map (dy s.tmps)) {s.heap with log:=[]}) {s.heap with log:=[]}:=by unfold aop;rw[T]
         rw[ax,Z]at Y;cases hl:bz P ty (.slice (some p) n k) (lo.map (dy s.tmps)) (hi.map (dy s.tmps)) (mx.map (dy s.tmps)) {s.heap with log:=[]} with
         |none=>rw[hl]at Y;simp[ovl]at Y
         |some u=>exact aSlice_spot hl
        obtain⟨b,off,sp⟩:=p;simp only at an;subst an;exact .inr (.inr (.inl ⟨b,rfl,.inr ⟨ty,x,lo,hi,mx,off,n,k,T,Z⟩⟩))
       ·rename_i n k Z;exact .inl ⟨rfl,.inr (.inl ⟨ty,x,lo,hi,mx,n,k,T,Z⟩)⟩
       exact .inr (.inr (.inr hx))
      ·rename_i xs ts T;split
       ·rename_i a n k Z;exact .inl ⟨rfl,.inr (.inr ⟨xs,ts,_,T,Z,.inl ⟨a,n,k,rfl⟩⟩)⟩
       ·rename_i b4 Z;exact .inl ⟨rfl,.inr (.inr ⟨xs,ts,_,T,Z,.inr ⟨b4,rfl⟩⟩)⟩
       exact .inr (.inr (.inr hx))
      exact .inr (.inr (.inr hx))
theorem kW{ρ:Operand->Value}{o:Oper}{H H':Heap}{r:AN}(h:bF P ρ o H=some (r,H')):H'=H/\∃v,r= .val v:=by
 unfold bF at h;cases O:o.op.operands.toList.all fun x=>ke (ρ x) with
 |false=>rw[O]at h;cases h
 |true=>
  rw[O]at h
  simp only[cond_true]at h
  split at h
  ·rename_i v T;cases E:noA2 v with
   |false=>rw[E]at h;cases h
   |true=>
    rw[E]at h;simp only[cond_true,a01,a06]at h
    exact⟨h.2.symm,v,h.1.symm⟩
  cases h
theorem lift_val{s:Sem Value}{H H':Heap}{r:AN}(h:lift P s H=some (r,H')):H'=H/\∃v,r= .val v:=by obtain⟨E,v,O,_⟩:=lj h;exact⟨E,v,O⟩
theorem fZ{x:Option Value}{H H':Heap}{r:AN}(h:ovl x H=some (r,H')):H'=H/\∃v,r= .val v:=by obtain⟨E,v,_,O⟩:=cw h;exact⟨E,v,O⟩
theorem fX{v:Value}{H H':Heap}{r:AN}(h:some (AN.val v,H)=some (r,H')):H'=H/\∃v,r= .val v:=by simp only[a01,a06]at h;exact⟨h.2.symm,v,h.1.symm⟩
theorem aop_value{ρ:Operand->Value}{o:Oper}{H H':Heap}{r:AN}(Z:bh o.op=true)(h:aop P ρ o H=some (r,H')):H'=H/\∃v,r= .val v:=by
 obtain⟨T,op,type,pos,after,O⟩:=o;cases op<;>simp only[bh,a0k]at Z
 case move x=>exact fX (v:=ρ x) h
 case assign x=>exact fX (v:=ρ x) h
 case pick c a b=>
  have E:gG ρ c a b H=some (r,H'):=h
  unfold gG at E
  split at E
  ·exact fX E
  cases E
 case build t parts=>
  have E:iB P t (parts.map fun p=>(p.1,ρ p.2)) H=some (r,H'):=h
  unfold iB at E
  split at E
  ·exact lift_val E
  cases E
 case nilCheck x=>
  have E:opNil (ρ x) H=some (r,H'):=h
  unfold opNil at E
  split at E
  ·exact fX E
  ·exact fX E
  cases E
 case binOp op t x y yt=>
  have E:aBin P ρ ⟨T,.binOp op t x y yt,type,pos,after,O⟩ op t (ρ x) y H=some (r,H'):=h
  unfold aBin at E
  split at E
  ·unfold binInt at E;split at E
   ·exact fZ E
   cases E
  ·unfold binStr at E;split at E
   ·exact fZ E
   cases E
  unfold nj at E;split at E
  ·exact kW E
  ·exact kW E
  obtain⟨Y,b,_,hc⟩:=jy E
  rcases hc with⟨_,U⟩|⟨_,U⟩
  ·exact⟨Y,_,U⟩
  exact⟨Y,_,U⟩
 case unOp op t x=>
  have E:aUn P ρ ⟨T,.unOp op t x,type,pos,after,O⟩ op (ρ x) H=some (r,H'):=h
  unfold aUn at E
  split at E
  ·split at E
   ·exact fX E
   cases E
  exact kW E
 case makeFunc fn first captured=>exact fX (v:= .func fn (first.map ρ) (captured.map ρ)) h
 case fieldAddr s x f=>
  have E:ovl (jm P s (ρ x) f) H=some (r,H'):=h
  exact fZ E
 case field t x f=>
  have E:ovl (iP P t (ρ x) f) H=some (r,H'):=h
  exact fZ E
 case indexAddr t x i=>
  have E:ovl (dw P t (ρ x) (ρ i)) H=some (r,H'):=h
  exact fZ E
 case index t x i=>
  have E:lC P t (ρ x) (ρ i) H=some (r,H'):=h
  unfold lC at E
  split at E
  ·exact fZ E
  exact lift_val E
 case extract x i=>
  have E:ovl (hT (ρ x) i) H=some (r,H'):=h
  exact fZ E
theorem lP{ρ:Operand->Value}{o:Oper}{H H':Heap}{r:AN}(E:bh o.op=true)(h:aop P ρ o H=some (r,H')):H'=H:=by have:=aop_value E h;exact this.1
theorem kJ{ρ:Operand->Value}{o:Oper}{H H':Heap}{r:AN}(E:bh o.op=true)(h:aop P ρ o H=some (r,H')): ∃v,r= .val v:=(aop_value E h).2
theorem fJ{ρ:Operand->Value}{o:Oper}{H H':Heap}{r:AN}(hk:eu o.op=true)(h:aop P ρ o H=some (r,H')):
  ∃v U,r= .val v/\H'=H.push U/\∀O:Heap,O.next=H.next->aop P ρ o O=some (.val v,O.push U):=by
 obtain⟨ax,op,type,pos,after,ar⟩:=o
 cases op<;>simp only[eu,a0k]at hk
 case alloc e=>
  have E:eT P e H=some (r,H'):=h
  unfold eT at E
  split at E
  ·rename_i z Z;simp only[a01,a06]at E;obtain⟨rfl,rfl⟩:=E;refine⟨_,_,rfl,rfl,fun O T=>?_⟩;show eT P e O=_;unfold eT;rw[Z,T];rfl
  cases E
 case box e x=>
  have E:some (AN.val (ptrTo H.next),aS H (ρ x).cells.toList none)=some (r,H'):=h
  simp only[a01,a06]at E
  obtain⟨rfl,rfl⟩:=E
  refine⟨_,_,rfl,rfl,fun O T=>?_⟩
  show some (AN.val (ptrTo O.next),aS O (ρ x).cells.toList none)=_
  rw[T];rfl
 case buildSlice t n parts=>
  have E:bw P t n (ge (fun p=>(p.1,ρ p.2)) parts.toList) H=some (r,H'):=h
  unfold bw at E
  split at E
  ·rename_i sz z Z;cases Y:Nat.ble (n *sz) 16777216 with
   |false=>rw[Y]at E;cases E
   |true=>
    rw[Y]at E
    simp only[cond_true]at E
    split at E
    ·rename_i cells hc;simp only[a01,a06]at E;obtain⟨rfl,rfl⟩:=E;refine⟨_,_,rfl,rfl,fun O T=>?_⟩;show bw P t n (ge (fun p=>(p.1,ρ p.2)) parts.toList) O=_;unfold bw;rw[Z];simp only[Y,cond_true,hc,T];rfl
    cases E
  cases E
 case makeMap t rsv=>
  cases rsv with
  |some _=>simp at hk
  |none=>
   have E:some (AN.val (.map (some H.next)),H.push (.tab []))=some (r,H'):=h
   simp only[a01,a06]at E
   obtain⟨rfl,rfl⟩:=E
   refine⟨_,_,rfl,rfl,fun O T=>?_⟩
   show some (AN.val (.map (some O.next)),O.push (.tab []))=_
   rw[T]
def bare(n:Nat):Heap:={tr:= .nil,next:=n,log:=[]}
theorem eO(n b:Nat):(bare n).get b=none:=rfl
theorem kD(μ:Emb)(n:Nat)(w:World):WRel μ (bare n) w:=
 ⟨(fun b l o _ h=>by rw[eO]at h;cases h),(fun E O l1 T U Y _ _ _ h=>by rw[eO]at h;cases h)⟩
theorem aSlice_nil{t:TypeId}{n k:Nat}{lo hi E:Option Value}(H O:Heap):bz P t (.slice none n k) lo hi E H=bz P t (.slice none n k) lo hi E O:=by
 unfold bz;cases E with
 |some _=>rfl
 |none=>
  cases P.underlying t with
  |none=>rfl
  |some d=>cases d<;>first|rfl|(cases n<;>cases k<;>rfl)
theorem eV{ρ:Operand->Value}{o:Oper}{H H':Heap}{r:AN}(T:NilCut ρ o)(h:aop P ρ o H=some (r,H')):H'=H/\∃v,r= .val v:=by
 rcases T with⟨t,x,lo,hi,Y,n,k,O,U⟩|⟨xs,ts,x,O,U,_⟩
 ·have E: ∀H,aop P ρ o H=ovl (bz P t (ρ x) (lo.map ρ) (hi.map ρ) (Y.map ρ) H) H:=fun H=>by unfold aop;rw[O]
  rw[E]at h;exact fZ h
 have E:aop P ρ o H=bLen P ts (ge ρ xs.toList) H:=by unfold aop;rw[O];rfl
 rw[E]at h;unfold bLen at h;split at h
 ·exact fZ h
 cases h
theorem aLen_any{t:TypeId}{x:Value}(O:(∃a n k,x= .slice a n k)\/∃s,x= .string s)(H E:Heap):aLen P t x H=aLen P t x E:=by
 rcases O with⟨a,n,k,rfl⟩|⟨s,rfl⟩<;>(unfold aLen;cases P.underlying t with
  |none=>rfl
  |some d=>cases d<;>rfl)
theorem nilcut_sound{μ:Emb}{ρ ρ':Operand->Value}{o:Oper}{H:Heap}{v:Value}(hr:NilCut ρ o)(hρ: ∀x∈o.op.operands,VRel μ (ρ x) (ρ' x))(h:aop P ρ o H=some (.val v,H))(w:World):
  ∃v',(execOp ρ' o).run P w= .ok (.value v') w/\VRel μ v v':=by
 rcases hr with hr|⟨xs,ts,x,E,hxs,Y⟩
 rotate_left
 ·have T:aop P ρ o H=bLen P ts (ge ρ xs.toList) H:=by unfold aop;rw[E];rfl
  rw[T,hxs]at h;obtain⟨a7,op,type,pos,after,ax⟩:=o;simp only at E;subst E;unfold bLen at h;split at h
  ·rename_i t x1 ht a4;simp only[List.cons.injEq,and_true]at a4;subst a4;obtain⟨_,v1,Z,O⟩:=cw h;injection O with O;subst O;rw[aLen_any Y H (bare 0)]at Z;have a3:LRel μ (ge ρ xs.toList) (xs.map ρ').toList:=by
    rw[li];have:=kE (μ:=μ) (ops:=xs) (ρ:=ρ) (ρ':=ρ') fun x Y=>hρ x (by simp[Op.operands,Call.operands];exact Y)
    simpa using this
   obtain⟨x',bb,b0⟩:=lY a3 hxs;obtain⟨U,hn⟩:=len_sound (P:=P) (ty:=type) (kD μ 0 w) b0 Z;have a8:ts= #[t]:=a17.1 (by rw[ht]);refine⟨v,?_,.atom v hn⟩;simp only[execOp,resolve,Sem.run_bind,Sem.run_pure,Result.andThen_ok,invoke,builtin,bb,a8,U]
  cases h
 obtain⟨t,x,lo,hi,mx,n,k,E,Y⟩:=hr
 have T: ∀H,aop P ρ o H=ovl (bz P t (ρ x) (lo.map ρ) (hi.map ρ) (mx.map ρ) H) H:=fun H=>by unfold aop;rw[E]
 rw[T,Y]at h
 obtain⟨_,v1,Z,O⟩:=cw h
 rw[aSlice_nil H (bare 0)]at Z
 have h2:ovl (bz P t (ρ x) (lo.map ρ) (hi.map ρ) (mx.map ρ) (bare 0)) (bare 0)=some (.val v,bare 0):=by rw[Y,Z,O];rfl
 obtain⟨a7,op,type,pos,after,ax⟩:=o
 simp only at E
 subst E
 obtain⟨a1,a2⟩:=f8 (μ:=μ) (ρ:=ρ) (ρ':=ρ') (x:=lo) fun y hy=>hρ y (by subst hy;simp[Op.operands])
 obtain⟨b1,b2⟩:=f8 (μ:=μ) (ρ:=ρ) (ρ':=ρ') (x:=hi) fun y hy=>hρ y (by subst hy;simp[Op.operands])
 obtain⟨_,c2⟩:=f8 (μ:=μ) (ρ:=ρ) (ρ':=ρ') (x:=mx) fun y hy=>hρ y (by subst hy;simp[Op.operands])
 obtain⟨v1,v',O,_,U,a9⟩:=kQ (P:=P) (kD μ 0 w) (hρ x (by simp[Op.operands])) a1 a2 b1 b2 c2 h2
 injection O with O;subst O
 refine⟨v',?_,a9⟩
 simp only[execOp,Sem.run_bind,U,Result.andThen_ok,Sem.run_pure]
theorem either_heap{ρ:Operand->Value}{o:Oper}{H H':Heap}{r:AN}(E:bh o.op=true\/NilCut ρ o)(h:aop P ρ o H=some (r,H')):H'=H:=by
 rcases E with E|E
 ·exact lP E h
 exact(eV E h).1
theorem ml{ρ:Operand->Value}{o:Oper}{H H':Heap}{r:AN}(E:bh o.op=true\/NilCut ρ o)(h:aop P ρ o H=some (r,H')): ∃v,r= .val v:=by
 rcases E with E|E
 ·exact kJ E h
 exact(eV E h).2
structure Trace(P:Program)(G:Nat)(cf:cF)(ops:Array Oper)(st:Nat->St)(vl:Nat->Value)(nf:Nat->Inf):Prop where
 fact: ∀k o,ops[k]?=some o->OpFact P G cf ops o (st k) (st (k+1)) (vl k) (nf k)
 past: ∀k,ops.size<=k->st (k+1)=st k
 comp: ∀j k,j<k->k<ops.size->bm (cC ops) j k=true\/eE (nf j) (nf k)=true
 reg:RegFacts ops
 wf: ∀k,WF (st k).heap
section
variable {cf:cF} {ops:Array Oper} {st:Nat->St} {vl:Nat->Value} {nf:Nat->Inf}
theorem Trace.mono(T:Trace P G cf ops st vl nf)(k:Nat):(st k).heap.next<=(st (k+1)).heap.next:=by
 rcases a0d k ops.size with h|h
 ·exact(T.fact k ops[k] (a0C h)).next
 rw[T.past k h];exact a07 _
theorem Trace.monoL(T:Trace P G cf ops st vl nf){j k:Nat}(h:j<=k):(st j).heap.next<=(st k).heap.next:=by
 induction h with
 |refl=>exact a07 _
 |step _ ih=>exact a05 ih (T.mono _)
theorem Trace.sizeL(T:Trace P G cf ops st vl nf)(k:Nat):(st k).size=(st 0).size:=by
 induction k with
 |zero=>rfl
 |succ k ih=>
  rcases a0d k ops.size with h|h
  ·rw[(T.fact k ops[k] (a0C h)).size,ih]
  rw[T.past k h,ih]
theorem Trace.tm(T:Trace P G cf ops st vl nf)(k t:Nat):cU (st (k+1)).tmps t=if kg ops k=some t then vl k else cU (st k).tmps t:=by
 unfold kg;rcases a0d k ops.size with h|h
 ·have E:=a0C h;rw[(T.fact k ops[k] E).tm t,E];rfl
 rw[T.past k h,Array.getElem?_eq_none h];simp
theorem Trace.chg(T:Trace P G cf ops st vl nf){k b:Nat}(h:chg st k b):
  k<ops.size/\((st k).heap.next<=b/\b<(st (k+1)).heap.next\/∃w,nf k= .x w/\b∈w/\b<(st k).heap.next):=by
 have hk:k<ops.size:=by
  rcases a0d k ops.size with hk|hk
  ·exact hk
  exfalso;unfold R.chg at h;rw[T.past k hk]at h;exact h rfl
 refine⟨hk,?_⟩
 have F:=T.fact k ops[k] (a0C hk)
 have a6:b<(st (k+1)).heap.next:=by
  rcases a0d b (st (k+1)).heap.next with U|U
  ·exact U
  exact absurd (F.far b U) h
 rcases a0d b (st k).heap.next with hb|hb
 ·right;rcases F.how with⟨_,_,_,_,hs⟩|⟨_,_,H1,H2,ax,a8,O,Z,a9,a3⟩
  ·exact absurd (hs b) h
  rcases a3 with⟨hf,hv⟩|⟨hf,hv⟩|⟨b',hf,a1⟩|⟨w,hf,bb,a5⟩
  ·--a value operation changes nothing
   exfalso;unfold eD at O;split at O
   ·rename_i u U E;simp only[a01,a06]at O;have:=(either_heap hv E)
    rw[←O.2,this]at Z;exact h (by rw[Z b,ax b])
   ·rename_i U E;have:=(ml hv E)
    obtain⟨_,Y⟩:=this;cases Y
   ·rename_i f args U E;obtain⟨_,Y⟩:=ml hv E;cases Y
   cases O
  ·exfalso;unfold eD at O;split at O
   ·rename_i u U E;simp only[a01,a06]at O;obtain⟨_,b0,_,a4,_⟩:=fJ hv E;rw[←O.2,a4]at Z;exact h (by rw[Z b,Heap.get_push_ne _ _ (by omega),ax b])
   ·rename_i U E;obtain⟨_,_,Y,_⟩:=fJ hv E;cases Y
   ·rename_i f args U E;obtain⟨_,_,Y,_⟩:=fJ hv E;cases Y
   cases O
  ·exfalso;unfold eD at O;split at O
   ·rename_i u U E;simp only[a01,a06]at O;obtain⟨_,_,_,hH,_,_⟩:=eP a1 E;rw[←O.2,hH]at Z;exact h (by rw[Z b,ax b])
   ·rename_i U E;obtain⟨_,_,Y,_⟩:=eP a1 E;cases Y
   ·rename_i f args U E;obtain⟨_,_,Y,_⟩:=eP a1 E;cases Y
   cases O
  rcases Classical.em (b∈w) with hm|hm
  ·exact⟨w,hf,hm,hb⟩
  exact absurd (a5 b hb hm) h
 exact .inl ⟨hb,a6⟩
end
end
end Go.R
set_option linter.unusedVariables false
namespace Go.R
section
variable {P:Program} {G:Nat} {cf:cF} {ops:Array Oper} {st:Nat->St} {vl:Nat->Value} {nf:Nat->Inf}
variable {μ0 μ:Emb} {w0 w:World} {d0:List Deferred} {S:Nat->Bool} {a:Act} {i:Nat} {o:Oper}
structure Ready(ops:Array Oper)(S:Nat->Bool)(i:Nat)(o:Oper):Prop where
 at_:ops[i]?=some o
 new:S i=false
 edges: ∀e∈o.after.toList,Region.binds .any e=true->S e.on=true
theorem Ready.lt(R:Ready ops S i o):i<ops.size:=(a0I.1 R.at_).1
theorem Ready.dc(R:Ready ops S i o)(h:DC ops S):DC ops (j6 S i):=by
 intro k x E hs e T hb;by_cases O:k=i
 ·subst O;rw[R.at_]at E;injection E with E;subst E;have:=R.edges e T hb;unfold j6;rw[this];simp
 rw[gQ S O]at hs;have:=h k x E hs e T hb;unfold j6;rw[this];simp
theorem Ready.ahead(R:Ready ops S i o)(h:DC ops S){k:Nat}(E:k≠i)(O:bm (cC ops) k i=true):S k=true:=by have:=(R.dc h).anc i (gP S i) O;rwa [gQ S E]at this
theorem Ready.behind(R:Ready ops S i o)(h:DC ops S){k:Nat}(E:bm (cC ops) i k=true):S k=false:=by
 cases hs:S k with
 |false=>rfl
 |true=>have:=h.anc k hs E;rw[R.new]at this;cases this
theorem Ready.iff_(R:Ready ops S i o)(h:DC ops S){k:Nat}(E:k<i->bm (cC ops) k i=true)(O:i<k->bm (cC ops) i k=true):S k=true↔k<i:=by
 rcases Nat.lt_trichotomy k i with hlt|rfl|hgt
 ·exact⟨fun _=>hlt,fun _=>R.ahead h (by omega) (E hlt)⟩
 ·rw[R.new];simp
 rw[R.behind h (O hgt)];simp;omega
theorem Ready.iffAdd(R:Ready ops S i o)(h:DC ops S){k:Nat}(O:k<i->bm (cC ops) k i=true)(T:i<k->bm (cC ops) i k=true):j6 S i k=true↔k<i+1:=by
 by_cases E:k=i
 ·subst E;rw[gP];simp
 rw[gQ S E,R.iff_ h O T];omega
theorem share(T:Trace P G cf ops st vl nf)(Z:ops[i]?=some o){t:Tmp}(E:t∈o.looksAt ops\/o.dst=some t){k:Nat}(hd:kg ops k=some t):
  (k<i->bm (cC ops) k i=true)/\(i<k->bm (cC ops) i k=true):=by
 unfold kg at hd
 cases U:ops[k]? with
 |none=>rw[U]at hd;simp at hd
 |some x=>
  rw[U]at hd
  simp only[a0s]at hd
  constructor
  ·intro O;rcases T.reg.pair k i x o O U Z with h|h
   ·exact h
   exfalso;obtain⟨p1,Y,p3⟩:=Oper.apart_spec h;rcases E with E|E
   ·exact p1 t hd E
   exact Y t hd E
  intro O
  rcases T.reg.pair i k o x O Z U with h|h
  ·exact h
  exfalso
  obtain⟨p1,Y,p3⟩:=Oper.apart_spec h
  rcases E with E|E
  ·exact p3 t hd E
  exact Y t E hd
theorem slot_here(T:Trace P G cf ops st vl nf)(I:Inv ops st vl μ0 w0 d0 S μ a w)(R:Ready ops S i o){t:Tmp}(E:t∈o.looksAt ops):
  VRel μ (cU (st i).tmps t) (a.tmps.getD t undef):=by
 have:=I.tm t
 rw[tv_eq st vl ops (i:=i) (fun k=>T.tm k t) ops.size (fun k _ hd=>R.iff_ I.dc (share T R.at_ (.inl E) hd).1 (share T R.at_ (.inl E) hd).2)]at this
 rwa [a1J (a1U R.lt)]at this
theorem operand_here(T:Trace P G cf ops st vl nf)(I:Inv ops st vl μ0 w0 d0 S μ a w)(R:Ready ops S i o)(U:GRel μ G)(E:o.op.operands.toList.all (br G)=true):
  ∀x∈o.op.operands,VRel μ (dy (st i).tmps x) (a.eval x):=by
 intro x O
 refine eval_of U (a0l.1 E x (by simpa using O)) fun t Y=>?_
 subst Y
 refine slot_here T I R ?_
 unfold Oper.looksAt
 rw[a0f]
 left
 rw[List.mem_filterMap]
 exact⟨.tmp t,by simpa using O,rfl⟩
theorem wanted_here(T:Trace P G cf ops st vl nf)(I:Inv ops st vl μ0 w0 d0 S μ a w)(R:Ready ops S i o):bl ops o (st i).tmps=Region.wanted o (yielded ops a.tmps):=by
 refine wanted_eq (μ:=μ) fun j w E d hd=>slot_here T I R ?_
 unfold Oper.looksAt;rw[a0f];right;rw[E];simp only;rw[hd];simp
theorem between(T:Trace P G cf ops st vl nf){j k b:Nat}(E:(st j).heap.next<=b)(O:b<(st (j+1)).heap.next)(U:(st k).heap.next<=b)(Y:b<(st (k+1)).heap.next):j=k:=by
 rcases Nat.lt_trichotomy j k with h|h|h
 ·have:=T.monoL (show j+1<=k from h);omega
 ·exact h
 have:=T.monoL (show k+1<=j from h);omega
theorem mc(T:Trace P G cf ops st vl nf)(I:Inv ops st vl μ0 w0 d0 S μ a w)(R:Ready ops S i o)(b:Nat)(E:(st i).heap.next<=b)(O:b<(st (i+1)).heap.next):μ b=none:=by
 cases hb:μ b with
 |none=>rfl
 |some l=>
  exfalso
  rcases I.dom b l hb with h|⟨k,_,hs,h3,h4⟩|h
  ·have:=T.monoL (a0n i);omega
  ·have:=between T E O h3 h4;subst this;rw[R.new]at hs;cases hs
  have:=T.monoL (show i+1<=ops.size from R.lt);omega
theorem cont_here(T:Trace P G cf ops st vl nf)(I:Inv ops st vl μ0 w0 d0 S μ a w)(R:Ready ops S i o){b:Nat}{l:Loc}(hb:μ b=some l)(an:b<(st i).heap.next)
  (Z: ∀k w',nf k= .x w'->b∈w'->k<ops.size->(k<i->bm (cC ops) k i=true)/\(i<k->bm (cC ops) i k=true)):kC st S ops.size b=(st i).heap.get b:=by
 rw[lu st (i:=i) ops.size,a1J (a1U R.lt)]
 intro k U hc
 obtain⟨_,⟨E,O⟩|⟨w',E,O,h3⟩⟩:=T.chg hc
 ·--made there
  have Y:k<i:=by
   rcases a0d k i with h|h
   ·exact h
   have:=T.monoL h;omega
  refine⟨fun _=>Y,fun _=>?_⟩;rcases I.dom b l hb with h|⟨k',_,hs,h4,h5⟩|h
  ·have:=T.monoL (a0n k);omega
  ·have:=between T E O h4 h5;subst this;exact hs
  have:=T.monoL (a1U R.lt);omega
 exact R.iff_ I.dc (Z k w' E O U).1 (Z k w' E O U).2
theorem jF(T:Trace P G cf ops st vl nf)(I:Inv ops st vl μ0 w0 d0 S μ a w)(R:Ready ops S i o){b:Nat}(hb:b<(st i).heap.next->∃l,μ b=some l)(a1:b<(st (i+1)).heap.next)
  (hw: ∀k w',nf k= .x w'->b∈w'->k<ops.size->(k<i->bm (cC ops) k i=true)/\(i<k->bm (cC ops) i k=true)):kC st (j6 S i) ops.size b=(st (i+1)).heap.get b:=by
 rw[lu st (i:=i+1) ops.size,a1J R.lt]
 intro k Z hc
 by_cases U:k=i
 ·subst U;rw[gP];simp
 obtain⟨_,⟨E,O⟩|⟨w',E,O,h3⟩⟩:=T.chg hc
 ·have an:k<i:=by
   rcases a0d k i with h|h
   ·exact h
   have:=T.monoL (show i+1<=k by omega);omega
  rw[gQ S U];refine⟨fun _=>by omega,fun _=>?_⟩;have Y:b<(st i).heap.next:=by have:=T.monoL (show k+1<=i from an);omega
  obtain⟨l,hl⟩:=hb Y;rcases I.dom b l hl with h|⟨k',_,hs,h4,h5⟩|h
  ·have:=T.monoL (a0n k);omega
  ·have:=between T E O h4 h5;subst this;exact hs
  have:=T.monoL (a1U R.lt);omega
 exact R.iffAdd I.dc (hw k w' E O Z).1 (hw k w' E O Z).2
theorem lq(T:Trace P G cf ops st vl nf){b:Nat}(h: ¬chg st i b):kC st (j6 S i) ops.size b=kC st S ops.size b:=by refine(mq st ops.size fun k _ hc=>?_);exact gQ S (fun e=>by subst e;exact h hc)
theorem kz{b:Nat}: ∀{l:List Nat},memB b l=true↔b∈l
 | []=>by simp[memB]
 |c::l=>by
  unfold memB;rw[a0S,kz (l:=l),a0m];constructor
  ·rintro(h|h)
   ·exact .inl (a08 h)
   exact .inr h
  rintro(rfl|h)
  ·exact .inl (a0N b)
  exact .inr h
theorem ju(T:Trace P G cf ops st vl nf)(I:Inv ops st vl μ0 w0 d0 S μ a w)(R:Ready ops S i o):
  (∀t,o.dst=some t->tv st vl ops (j6 S i) ops.size t=vl i)/\(∀t,o.dst≠some t->tv st vl ops (j6 S i) ops.size t=tv st vl ops S ops.size t):=by
 constructor
 ·intro t E;rw[tv_eq st vl ops (i:=i+1) (fun k=>T.tm k t) ops.size (fun k _ hd=>R.iffAdd I.dc (share T R.at_ (.inr E) hd).1 (share T R.at_ (.inr E) hd).2),a1J R.lt,T.tm];rw[if_pos (by unfold kg;rw[R.at_];exact E)]
 intro t E
 refine tv_congr st vl ops ops.size fun k _ hd=>gQ S ?_
 intro e
 subst e
 unfold kg at hd
 rw[R.at_]at hd
 exact E hd
theorem gX(T:Trace P G cf ops st vl nf)(I:Inv ops st vl μ0 w0 d0 S μ a w)(R:Ready ops S i o)(E: ∀b,(st (i+1)).heap.get b=(st i).heap.get b){v':Value}(O:VRel μ (vl i) v'):
  Inv ops st vl μ0 w0 d0 (j6 S i) μ (a.put o.dst v') w:=by
 obtain⟨U,Y⟩:=ju T I R
 refine Inv.next (H:=bare (st i).heap.next) (Hn:=bare (st i).heap.next) I R.lt R.at_ (Post.refl (kD μ _ w)) O (fun k=>T.mono k) (a07 _) (T.mono i)
  (fun b l x _ h=>by rw[eO]at h;cases h) (fun b l x _ h=>by rw[eO]at h;cases h) (fun b l x hb _ hc=>⟨hb,rfl,?_⟩) (R.dc I.dc) (fun d hd=>?_) U Y
 ·rw[lq T (fun e=>e (E b))]at hc;exact hc
 have:=(T.fact i o R.at_).dlt d hd
 rwa [T.sizeL i]at this
theorem inv_step(fd:eo P G cf)(T:Trace P G cf ops st vl nf)(I:Inv ops st vl μ0 w0 d0 S μ a w)(hG:GRel μ0 G)(R:Ready ops S i o){K:Act->World->Prop}{Q:Exit->Act->World->Prop}
  (hK: ∀μ' a' w',Inv ops st vl μ0 w0 d0 (j6 S i) μ' a' w'->K a' w'):wpOp P ops Q i K a w:=by
 have d7:GRel μ G:=hG.mono I.ext0
 have F:=T.fact i o R.at_
 have cL:=wanted_here T I R
 unfold wpOp
 rw[R.at_]
 simp only
 rcases F.how with⟨hq,hv,hf,hn,hs⟩|⟨hq,ea,H1,H2,a1,ar,Y,a2,cl,d3⟩
 ·rw[cL]at hq;rw[hq];simp only[a0k,if_false];exact hK μ _ w (gX T I R hs (by rw[hv];exact VRel.undef))
 rw[cL]at hq
 rw[hq]
 simp only[if_true]
 left
 have hρ:=operand_here T I R d7 ea
 have b8:WF (st i).heap:=T.wf i
 rcases d3 with⟨hf,hk|hk⟩|⟨hf,hk⟩|⟨b,hf,b4⟩|⟨wr,hf,f9,fu⟩
 rotate_left
 ·--a part of the nil slice
  unfold eD at Y;split at Y
  case h_2=>rename_i Z E;obtain⟨_,_,O⟩:=eV hk E;cases O
  case h_3=>rename_i f args Z E;obtain⟨_,_,O⟩:=eV hk E;cases O
  case h_4=>cases Y
  rename_i u Z E;simp only[a01,a06]at Y;obtain⟨e1,_⟩:=eV hk E;subst e1;obtain⟨rfl,rfl⟩:=Y;obtain⟨v',a3,hr⟩:=nilcut_sound hk hρ E w;unfold Oper.wp;rw[a3,Oper.upon_value];exact hK μ _ w (gX T I R (fun b=>by rw[a2 b,a1 b]) hr)
 rotate_right
 ·--a value
  have E: ∃u,aop P (dy (st i).tmps) o H1=some (.val u,H1)/\u=vl i/\H2=H1:=by
   unfold eD at Y;split at Y
   ·rename_i u Z E;simp only[a01,a06]at Y;have:=lP hk E;subst this;exact⟨u,E,Y.1,Y.2.symm⟩
   ·rename_i Z E;obtain⟨_,O⟩:=kJ hk E;cases O
   ·rename_i f args Z E;obtain⟨_,O⟩:=kJ hk E;cases O
   cases Y
  obtain⟨u,E,rfl,rfl⟩:=E;obtain⟨_,v,v',dd,a3,hr⟩:=kK hk hρ E;injection dd with dd;subst dd;unfold Oper.wp;rw[a3 w,Oper.upon_value];exact hK μ _ w (gX T I R (fun b=>by rw[a2 b,a1 b]) hr)
 ·--a new block
  unfold eD at Y;split at Y
  case h_2=>rename_i Z E;obtain⟨_,_,O,_⟩:=fJ hk E;cases O
  case h_3=>rename_i f args Z E;obtain⟨_,_,O,_⟩:=fJ hk E;cases O
  case h_4=>cases Y
  rename_i u Z E;simp only[a01,a06]at Y;obtain⟨rfl,rfl⟩:=Y;obtain⟨u,an,hu,d4,et⟩:=fJ hk E;injection hu with hu;subst hu d4;have c7:(st (i+1)).heap.next=(st i).heap.next+1:=by rw[cl,Heap.next_push,ar]
  have fb:=et (bare (st i).heap.next) (by rw[ar];rfl);obtain⟨n,w',μ',a3,hp,hr⟩:=jj hρ (kD μ _ w) (fun b a4 a5=>mc T I R b a4 (by rw[c7];exact a5)) fb;unfold Oper.wp;rw[a3];cases n with
  |value v'=>
   rw[Oper.upon_value]
   obtain⟨t1,t2⟩:=ju T I R
   have hw: ∀k w',nf k= .x w'->(st i).heap.next∈w'->k<ops.size->(k<i->bm (cC ops) k i=true)/\(i<k->bm (cC ops) i k=true):=by
    intro k w' O hm a6;have fl:(st i).heap.next<(st k).heap.next:=by
     have Fk:=T.fact k ops[k] (a0C a6);rcases Fk.how with⟨_,_,U,_⟩|⟨_,_,_,_,_,_,_,_,_,fi⟩
     ·rw[O]at U;cases U
     rcases fi with⟨U,_⟩|⟨U,_⟩|⟨_,U,_⟩|⟨w2,U,fk,_⟩
     ·rw[O]at U;cases U
     ·rw[O]at U;cases U
     ·rw[O]at U;cases U
     rw[O]at U;injection U with U;subst U;exact fk _ hm
    constructor
    ·intro b0;have:=T.monoL (a1U b0);omega
    intro bb;rcases T.comp i k bb a6 with h|h
    ·exact h
    rw[hf,O]at h;simp only[eE]at h;rw[kz.2 hm]at h;cases h
   have ez:kC st (j6 S i) ops.size (st i).heap.next=some an:=by rw[jF T I R (fun h=>absurd h (Nat.lt_irrefl _)) (by rw[c7];omega) hw,a2,←ar,Heap.get_push_same]
   have d1: ∀b x,((bare (st i).heap.next).push an).get b=some x->b=(st i).heap.next/\x=an:=by
    intro b x O;by_cases b9:(bare (st i).heap.next).next=b
    ·subst b9;rw[Heap.get_push_same]at O;injection O with O;exact⟨rfl,O.symm⟩
    rw[Heap.get_push_ne _ _ b9,eO]at O;cases O
   refine hK μ' _ w' (Inv.next (H:=bare (st i).heap.next) (Hn:=(bare (st i).heap.next).push an) I R.lt R.at_ hp hr (fun k=>T.mono k) (a07 _) (by rw[c7];exact a07 _)
    (fun b l x _ h=>by rw[eO]at h;cases h) (fun b l x _ h=>?_) (fun b l x hb hg hc=>?_) (R.dc I.dc) (fun d hd=>?_) t1 t2)
   ·obtain⟨rfl,rfl⟩:=d1 b x h;exact ez
   ·have b9:b≠(st i).heap.next:=by rintro rfl;have:((bare (st i).heap.next).push an).get (st i).heap.next=some an:=Heap.get_push_same (bare (st i).heap.next) an;rw[this]at hg;cases hg
    have c6: ¬chg st i b:=by intro c5;apply c5;rw[a2,Heap.get_push_ne _ _ (by rw[ar];exact Ne.symm b9),a1]
    rw[lq T c6]at hc;rcases hp.dom b l hb with Z|⟨Z,h2⟩
    ·exact⟨Z,rfl,hc⟩
    exfalso;have f6:(st i).heap.next<=b:=Z;have f7:b<(st i).heap.next+1:=h2;omega
   have:=F.dlt d hd
   rwa [T.sizeL i]at this
  |_=>exact hr.elim
 ·--a load,or a part of a slice
  unfold eD at Y;split at Y
  case h_2=>rename_i Z E;obtain⟨_,_,O,_⟩:=eP b4 E;cases O
  case h_3=>rename_i f args Z E;obtain⟨_,_,O,_⟩:=eP b4 E;cases O
  case h_4=>cases Y
  rename_i u Z E;simp only[a01,a06]at Y;obtain⟨rfl,rfl⟩:=Y;obtain⟨u,an,hu,rfl,c8,dt⟩:=eP b4 E;injection hu with hu;subst hu;obtain⟨l,hμ⟩:=reads_loc b4 hρ;have em:b<(st i).heap.next:=b8.lt (by rw[←a1];exact c8);have d2:=cont_here T I R hμ em (fun k w' b5 hm a6=>by
   constructor
   ·intro b0;rcases T.comp k i b0 R.lt with h|h
    ·exact h
    rw[hf,b5]at h;simp only[eE]at h;rw[kz.2 hm]at h;cases h
   intro bb;rcases T.comp i k bb a6 with h|h
   ·exact h
   rw[hf,b5]at h;simp only[eE]at h;rw[kz.2 hm]at h;cases h)
  have e0:WRel μ ((bare (st i).heap.next).put b an) w:=by
   refine⟨fun b' l' o' e9 a8=>?_,fun b1 b2 l1 l2 o1 o2 a7 _ _ co cv=>?_⟩
   ·by_cases d8:b=b'
    ·subst d8;rw[Heap.get_put_same]at a8;injection a8 with a8;subst a8;exact I.obj b l' an e9 (by rw[d2,←a1];exact c8)
    rw[Heap.get_put_ne _ _ d8,eO]at a8;cases a8
   exfalso;by_cases Z:b=b1
   ·by_cases h2:b=b2
    ·exact a7 (Z.symm.trans h2)
    rw[Heap.get_put_ne _ _ h2,eO]at cv;cases cv
   rw[Heap.get_put_ne _ _ Z,eO]at co;cases co
  obtain⟨v',d6,hr⟩:=reads_sound b4 hρ e0 (dt _ (Heap.get_put_same _ _ _));unfold Oper.wp;rw[d6,Oper.upon_value];exact hK μ _ w (gX T I R (fun b=>by rw[a2 b,a1 b]) hr)
 ·--any other
  have dk: ∀b k w',nf k= .x w'->b∈w'->k<ops.size->(k<i->bm (cC ops) k i=true)/\(i<k->bm (cC ops) i k=true):=by
   intro b k w' b5 hm a6;have a7:isNilL w'=false:=by cases w' with
    |nil=>simp at hm
    |cons _ _=>rfl
   constructor
   ·intro b0;rcases T.comp k i b0 R.lt with h|h
    ·exact h
    rw[hf,b5]at h;simp only[eE,a7,Bool.false_and]at h;cases h
   intro bb;rcases T.comp i k bb a6 with h|h
   ·exact h
   rw[hf,b5]at h;simp only[eE,a7,a1a]at h;cases h
  have ch: ∀b l x,μ b=some l->H1.get b=some x->kC st S ops.size b=some x:=by intro b l x hb O;rw[a1]at O;rw[cont_here T I R hb (b8.lt O) (dk b)];exact O
  have df:WF H1:=fun b hb=>by rw[a1];exact b8 b (by rw[←ar];exact hb)
  have d5:WRel μ H1 w:=⟨fun b l x hb O=>I.obj b l x hb (ch b l x hb O),fun b1 b2 l1 l2 o1 o2 a7 a4 a5 co cv=>I.inj b1 b2 l1 l2 o1 o2 a7 a4 a5 (ch b1 l1 o1 a4 co) (ch b2 l2 o2 a5 cv)⟩
  refine jW fd df hρ d7 d5 (fun b a4 a5=>mc T I R b (by rw[←ar];exact a4) (by rw[cl];exact a5)) Y ?_;intro μ' w' v' hp hv;obtain⟨t1,t2⟩:=ju T I R;have ci: ∀b l,μ' b=some l->b<(st i).heap.next->∃l,μ b=some l:=by
   intro b l hb fl;rcases hp.dom b l hb with h|⟨h,_⟩
   ·exact⟨l,h⟩
   rw[ar]at h;omega
  refine hK μ' _ w' (Inv.next (H:=H1) (Hn:=H2) I R.lt R.at_ hp hv (fun k=>T.mono k) (by rw[ar];exact a07 _) (by rw[cl];exact a07 _) ch (fun b l x hb O=>?_) (fun b l x hb O hc=>?_) (R.dc I.dc) (fun d hd=>?_) t1 t2)
  ·rw[←a2]at O;rw[jF T I R (ci b l hb) ((T.wf (i+1)).lt O) (dk b)];exact O
  ·rw[←a2]at O;have d9:(st (i+1)).heap.next<=b:=by
    rcases a0d b (st (i+1)).heap.next with h|h
    ·rw[jF T I R (ci b l hb) h (dk b),O]at hc;cases hc
    exact h
   have c6: ¬chg st i b:=fun c5=>c5 (F.far b d9)
   rw[lq T c6]at hc;refine⟨?_,?_,hc⟩
   ·rcases hp.dom b l hb with h|⟨_,h⟩
    ·exact h
    rw[←cl]at h;omega
   exact df b (by rw[ar];exact a05 F.next d9)
  have:=F.dlt d hd;rwa [T.sizeL i]at this
end
end Go.R
namespace Go.R
section
variable {P:Program} {G:Nat} {cf:cF} {ops:Array Oper} {st:Nat->St} {vl:Nat->Value} {nf:Nat->Inf}
variable {μ0 μ:Emb} {w0 w:World} {d0:List Deferred} {a:Act}
def cnt(S:Nat->Bool):Nat->Nat
 |0=>0
 |n+1=>cnt S n+if S n=true then 0 else 1
theorem cnt_far{S:Nat->Bool}{i:Nat}: ∀n,n<=i->cnt (j6 S i) n=cnt S n
 |0,_=>rfl
 |n+1,h=>by have:=cnt_far (S:=S) (i:=i) n (by omega);simp only[cnt,this,gQ S (show n≠i by omega)]
theorem cnt_add{S:Nat->Bool}{i:Nat}(hs:S i=false): ∀n,i<n->cnt (j6 S i) n+1=cnt S n
 |0,h=>by omega
 |n+1,h=>by
  by_cases hi:i=n
  ·subst hi;simp only[cnt,cnt_far i (a07 i),gP,hs,if_true,a0k,if_false]
  have:=cnt_add hs n (by omega);simp only[cnt,gQ S (show n≠i by omega)];omega
theorem cnt_zero{S:Nat->Bool}: ∀n,cnt S n=0->∀k,k<n->S k=true
 |0,_,k,h=>by omega
 |n+1,h,k,hk=>by
  simp only[cnt]at h;by_cases hs:S n=true
  ·by_cases E:k=n
   ·subst E;exact hs
   exact cnt_zero n (by omega) k (by omega)
  rw[if_neg hs]at h;omega
theorem cnt_le{S:Nat->Bool}: ∀n,cnt S n<=n
 |0=>a07 _
 |n+1=>by have:=cnt_le (S:=S) n;simp only[cnt];split<;>omega
def io(listed:Array Bool):Nat->Bool:=fun k=>listed.getD k false
theorem setOf_set{listed:Array Bool}{i:Nat}(hi:i<listed.size):io (listed.setIfInBounds i true)=j6 (io listed) i:=by
 funext k;unfold io j6;simp only[a0G,a10];by_cases E:i=k
 ·subst E;simp[hi]
 have:Nat.beq k i=false:=by
  cases hb:Nat.beq k i with
  |false=>rfl
  |true=>exact absurd (a08 hb).symm E
 simp[E,this]
theorem kV{listed:Array Bool}(hl:listed.size=ops.size){i:Nat}:i∈Region.ready .any ops listed↔
  ∃o,Ready ops (io listed) i o:=by
 unfold Region.ready
 rw[List.mem_filter,List.mem_range]
 constructor
 ·rintro⟨hi,h⟩;have E:ops[i]?=some ops[i]:=a0C hi;rw[E]at h;simp only[a04,a0L,a1B,a1h]at h;refine⟨ops[i],E,?_,fun e O hb=>?_⟩
  ·unfold io;have U:=h.1;simp only[a0G,a0C (show i<listed.size by omega),a1h]at U⊢;exact U
  have Y:=h.2;rw[Array.all_eq_true']at Y;have:=Y e (by simpa using O);rw[hb]at this;simpa[io] using this
 rintro⟨o,E,T,O⟩
 have hi:i<ops.size:=(a0I.1 E).1
 refine⟨hi,?_⟩
 rw[E]
 simp only[a04,a0L,a1B,a1h]
 constructor
 ·unfold io at T;simp only[a0G,a0C (show i<listed.size by omega),a1h]at T⊢;exact T
 rw[Array.all_eq_true']
 intro e Z
 cases hb:Region.binds .any e with
 |false=>rfl
 |true=>
  have:=O e (by simpa using Z) hb
  simpa[io] using this
theorem all_of_none(T:Trace P G cf ops st vl nf){listed:Array Bool}(Z:listed.size=ops.size)(h:Region.ready .any ops listed=[]): ∀k,k<ops.size->io listed k=true:=by
 intro k;induction k using Nat.strongRecOn with
 |_ k ih=>
  intro Y
  cases hs:io listed k with
  |true=>rfl
  |false=>
   exfalso
   have O:=a0C Y
   have:k∈Region.ready .any ops listed:=(kV Z).2 ⟨ops[k],O,hs,fun e U hb=>by
    have E:=T.reg.back k ops[k] O e U hb;exact ih e.on E (by omega)⟩
   rw[h]at this;simp at this
theorem any_sound(U:eo P G cf)(T:Trace P G cf ops st vl nf)(Z:GRel μ0 G){Q:Exit->Act->World->Prop}
  (Y: ∀S μ a w,(∀k,k<ops.size->S k=true)->Inv ops st vl μ0 w0 d0 S μ a w->Q .normal a w):
  ∀(fuel:Nat) (listed:Array Bool) (μ:Emb) (a:Act) (w:World),listed.size=ops.size->cnt (io listed) ops.size<=fuel->Inv ops st vl μ0 w0 d0 (io listed) μ a w->
   wpAny P .any ops Q fuel listed a w
 |0,listed,μ,a,w,hl,hc,I=>by
  have E:=cnt_zero ops.size (by omega:cnt (io listed) ops.size=0);refine⟨?_,Y _ μ a w E I⟩;cases hr:Region.ready .any ops listed with
  |nil=>rfl
  |cons i t=>
   exfalso
   have hm:i∈Region.ready .any ops listed:=by rw[hr];simp
   obtain⟨o,R⟩:=(kV hl).1 hm
   have:=E i R.lt
   rw[R.new]at this;cases this
 |fuel+1,listed,μ,a,w,hl,hc,I=>by
  refine⟨fun h=>Y _ μ a w (all_of_none T hl h) I,fun i hi=>?_⟩;obtain⟨o,R⟩:=(kV hl).1 hi;refine inv_step U T I Z R fun μ' a' w' I'=>?_
  have O:=setOf_set (listed:=listed) (i:=i) (by rw[hl];exact R.lt);refine any_sound U T Z Y fuel (listed.setIfInBounds i true) μ' a' w' (by simp[hl]) ?_ (by rw[O];exact I');rw[O];have:=cnt_add R.new ops.size R.lt;omega
theorem inv_start(T:Trace P G cf ops st vl nf)(ht:TRel μ0 (st 0).tmps (st 0).size a.tmps)(hw:WRel μ0 (st 0).heap w)(O: ∀b l,μ0 b=some l->b<(st 0).heap.next\/(st ops.size).heap.next<=b)(S:Nat->Bool)(E: ∀k,S k=false):
  Inv ops st vl μ0 w a.defers S μ0 a w:=by
 have hc: ∀b,kC st S ops.size b=(st 0).heap.get b:=by intro b;have:=lu st (S:=S) (b:=b) (i:=0) ops.size (fun k _ _=>by rw[E k];simp);rwa [Nat.min_zero]at this
 have a4: ∀t,tv st vl ops S ops.size t=cU (st 0).tmps t:=by intro t;have:=tv_eq st vl ops (S:=S) (t:=t) (i:=0) (fun k=>T.tm k t) ops.size (fun k _ _=>by rw[E k];simp);rwa [Nat.min_zero]at this
 refine⟨(fun k o _ hk=>by rw[E k]at hk;cases hk),fun b l hb=>?_,fun b l o hb U=>hw.obj b l o hb (by rw[←hc];exact U),fun b1 b2 l1 l2 o1 o2 ax Y Z a1 a2=>hw.inj b1 b2 l1 l2 o1 o2 ax Y Z (by rw[←hc];exact a1) (by rw[←hc];exact a2),
  ht.1,fun t=>by rw[a4];exact ht.2 t,rfl,fun _ _ h=>h,fun _ _ h=> .inl h,a07 _,rfl,rfl,rfl,fun _ _ _=>rfl,fun b l o hb U ar=> .inr ⟨b,l,o,hb,by rw[←hc];exact U,ar,id,rfl⟩⟩
 rcases O b l hb with h|h
 ·exact .inl h
 exact .inr (.inr h)
theorem inv_end(T:Trace P G cf ops st vl nf){S:Nat->Bool}(E: ∀k,k<ops.size->S k=true)(I:Inv ops st vl μ0 w0 d0 S μ a w):
  Post μ0 (st 0).heap w0 μ (st ops.size).heap w/\TRel μ (st ops.size).tmps (st ops.size).size a.tmps/\a.defers=d0:=by
 have hc: ∀b,kC st S ops.size b=(st ops.size).heap.get b:=by intro b;have:=lu st (S:=S) (b:=b) (i:=ops.size) ops.size (fun k O _=>by rw[E k O];simp[O]);rwa [Nat.min_self]at this
 have a2: ∀t,tv st vl ops S ops.size t=cU (st ops.size).tmps t:=by intro t;have:=tv_eq st vl ops (S:=S) (t:=t) (i:=ops.size) (fun k=>T.tm k t) ops.size (fun k O _=>by rw[E k O];simp[O]);rwa [Nat.min_self]at this
 refine⟨⟨I.ext0,I.dom0,I.grow0,I.os0,I.tape0,I.out0,I.keep0,fun b l o hb U an=>I.img0 b l o hb (by rw[hc];exact U) an,
  ⟨fun b l o hb U=>I.obj b l o hb (by rw[hc];exact U),fun b1 b2 l1 l2 o1 o2 ar Y Z ax a1=>I.inj b1 b2 l1 l2 o1 o2 ar Y Z (by rw[hc];exact ax) (by rw[hc];exact a1)⟩⟩,⟨?_,fun t=>?_⟩,I.defers⟩
 ·rw[I.size,T.sizeL ops.size]
 have:=I.tm t
 rwa [a2]at this
end
section
variable {P:Program} {G:Nat} {cf:cF} {ops:Array Oper}
theorem iY(an:eo P G cf): ∀(l:List Oper) (k:Nat) (fs:List (Nat×Inf)) (s s':St),ops.toList.drop k=l->k+l.length=ops.size->bp P G cf ops k fs l s=some s'->WF s.heap->
  ∃(st:Nat->St) (vl:Nat->Value) (nf:Nat->Inf),st k=s/\st ops.size=s'/\(∀j,ops.size<=j->st (j+1)=st j)/\(∀j,k<=j->WF (st j).heap)/\
   (∀j o,k<=j->ops[j]?=some o->OpFact P G cf ops o (st j) (st (j+1)) (vl j) (nf j))/\
   (∀j,k<=j->j<ops.size->∀q∈fs,bm (cC ops) q.1 j=true\/eE q.2 (nf j)=true)/\
   (∀i j,k<=i->i<j->j<ops.size->bm (cC ops) i j=true\/eE (nf i) (nf j)=true)
 | [],k,fs,s,s',hd,hlen,h,hw=>by simp only[bp,a01]at h;subst h;simp only[a03,Nat.add_zero]at hlen;refine⟨fun _=>s,fun _=>undef,fun _=> .v,rfl,rfl,fun _ _=>rfl,fun _ _=>hw,fun j o T U=>?_,fun j T b5=>by omega,fun i j hi ax T=>by omega⟩;have:=(a0I.1 U).1;omega
 |x::os,k,fs,s,s',hd,hlen,h,hw=>by
  simp only[a02]at hlen;unfold bp at h;split at h
  case h_2=>cases h
  rename_i s1 f h1;cases O:cj (cC ops) k f fs with
  |false=>rw[O]at h;cases h
  |true=>
   rw[O]at h
   simp only[cond_true]at h
   obtain⟨v,F⟩:=stepD_fact an hw h1
   have a7:WF s1.heap:=fun b hb=>by rw[F.far b hb];exact hw b (a05 F.next hb)
   have hk:k<ops.toList.length:=by simp;omega
   have ar:=a0K hk
   rw[hd]at ar
   injection ar with e1 e2
   have a6:ops[k]?=some x:=by rw[←Array.getElem?_toList,a0b hk,←e1]
   obtain⟨st,vl,nf,g1,g2,g3,g4,g5,g6,g7⟩:=iY an os (k+1) ((k,f)::fs) s1 s' e2.symm (by omega) h a7
   have Z: ∀(l:List (Nat×Inf)),cj (cC ops) k f l=true->∀q∈l,bm (cC ops) q.1 k=true\/eE q.2 f=true:=by
    intro l;induction l with
    |nil=>intro _ q O;simp at O
    |cons p l ih=>
     intro hl q O
     obtain⟨pj,pg⟩:=p
     simp only[cj,a04,a0S]at hl
     rcases a0m.1 O with rfl|O
     ·exact hl.1
     exact ih hl.2 q O
   refine⟨fun j=>if j<=k then s else st j,fun j=>if j<=k then v else vl j,fun j=>if j<=k then f else nf j,by simp,?_,fun j T=>?_,fun j T=>?_,fun j o T U=>?_,fun j T Y q a1=>?_,fun i j hi ax Y=>?_⟩
   ·simp only[show ¬(ops.size<=k) by omega,if_false];exact g2
   ·simp only[show ¬(j<=k) by omega,show ¬(j+1<=k) by omega,if_false];exact g3 j T
   ·by_cases E:j<=k
    ·simp only[E,if_true];exact hw
    simp only[E,if_false];exact g4 j (by omega)
   ·by_cases E:j=k
    ·subst E;rw[a6]at U;injection U with U;subst U;simp only[a07,if_true,show ¬(j+1<=j) by omega,if_false,g1];exact F
    simp only[show ¬(j<=k) by omega,show ¬(j+1<=k) by omega,if_false];exact g5 j o (by omega) U
   ·by_cases E:j=k
    ·subst E;simp only[a07,if_true];exact Z fs O q a1
    simp only[show ¬(j<=k) by omega,if_false];exact g6 j (by omega) Y q (a0j _ a1)
   by_cases a4:i=k
   ·subst a4;simp only[a07,if_true,show ¬(j<=i) by omega,if_false];exact g6 j (by omega) Y (i,f) (by simp)
   simp only[show ¬(i<=k) by omega,show ¬(j<=k) by omega,if_false]
   exact g7 i j (by omega) ax Y
def Dom(μ:Emb)(H:Heap):Prop:= ∀b l,μ b=some l->b<H.next
theorem region_sound(Y:eo P G cf){id:Nat}{O:Bool}{s E:St}(h:bO P G cf ops O s=some E){μ:Emb}{a:Act}{w:World}{Q:Exit->Act->World->Prop}
  (a2:WF s.heap) (ht:TRel μ s.tmps s.size a.tmps) (hG:GRel μ G) (hw:WRel μ s.heap w) (Z: ∀b l,μ b=some l->b<s.heap.next\/E.heap.next<=b)
  (hQ: ∀μ' w' a',Post μ s.heap w μ' E.heap w'->TRel μ' E.tmps E.size a'.tmps->a'.defers=a.defers->Q .normal a' w'):(Code.region id ops O).wp P Q a w:=by
 have an: ∀b,s.heap.next<=b->b<E.heap.next->μ b=none:=by
  intro b h1 h2;cases hb:μ b with
  |none=>rfl
  |some l=>rcases Z b l hb with h3|h3<;>omega
 unfold bO at h
 cases O with
 |false=>
  simp only[cond_false]at h
  refine wp_region ?_
  rw[List.range_eq_range']
  have:=jO Y ops.toList 0 s E rfl h μ a w a2 ht hG hw an (Q:=Q) hQ
  simpa using this
 |true=>
  simp only[cond_true]at h
  cases hq:(kU ops&&P.follows .mixedOrders) with
  |false=>rw[hq]at h;cases h
  |true=>
   rw[hq]at h
   simp only[cond_true]at h
   simp only[a04]at hq
   obtain⟨st,vl,nf,U,g2,g3,g4,g5,_,g7⟩:=iY Y ops.toList 0 [] s E rfl (by simp) h a2
   have T:Trace P G cf ops st vl nf:=⟨fun k o ho=>g5 k o (a0n _) ho,g3,fun j k a7 hk=>g7 j k (a0n _) a7 hk,regOK_facts hq.1,fun k=>g4 k (a0n _)⟩
   refine wp_region_any hq.2 ?_
   rw[World.drew_eq]
   have I:=inv_start (a:=a) (w:=w.drew) (μ0:=μ) T (by rw[U];exact ht) (by rw[U];exact hw.drew) (by rw[U,g2];exact Z) (io (Array.replicate ops.size false)) (fun k=>by
    unfold io;simp[a0G,Array.getElem?_replicate];split<;>rfl)
   refine any_sound Y T hG (fun S μ' a' w' hS I'=>?_) ops.size _ μ a w.drew (by simp) (cnt_le _) I
   obtain⟨hp,a1,a6⟩:=inv_end T hS I'
   rw[U,g2]at hp
   rw[g2]at a1
   refine hQ μ' w' a' ((Post.drew hw).trans hp (a07 _) ?_) a1 a6
   have:=T.monoL (a0n ops.size)
   rwa [U,g2]at this
end
end Go.R
namespace Go.R
open Go.RowKit
def Ex.toExit:Ex->Exit
 | .normal=> .normal
 | .exit id=> .exit id
 | .ret=> .ret
def LoopWp(P:Program)(c:Code)(Q:Exit->Act->World->Prop)(a:Act)(w:World):Prop:=
 ∀(b:Frame) (k:List Item) (cs:List Frame),∃e a' w',Q e a' w'/\Arrives P (lone (b.at a (.code c:: .inLoop c::k)) cs w) b k cs e a' w'
theorem LoopWp.wp{P:Program}{c:Code}{Q:Exit->Act->World->Prop}{a:Act}{w:World}(h:LoopWp P c Q a w):(Code.loop c).wp P Q a w:=
 fun b k cs=>let⟨e,a',w',q,r⟩:=h b k cs;⟨e,a',w',q,.of_steps (.one step_loop) r⟩
theorem LoopWp.round{P:Program}{c:Code}{Q:Exit->Act->World->Prop}{a:Act}{w:World}(h:c.wp P (Exit.then (LoopWp P c Q) Q) a w):LoopWp P c Q a w:=by
 intro b k cs;obtain⟨e,T,U,O,E⟩:=h b (.inLoop c::k) cs;cases e with
 |normal=>
  obtain⟨e₂,a₂,w₂,Z,Y⟩:=O b k cs
  exact⟨e₂,a₂,w₂,Z,.of_steps (Steps.trans E (.one step_inLoop)) Y⟩
 |exit id=>exact⟨_,T,U,O,.pass (x:= .inLoop c) rfl (fun _ _=> .inl (by simp)) E⟩
 |goto l=>exact⟨_,T,U,O,.pass (x:= .inLoop c) rfl (fun _ _=> .inl (by simp)) E⟩
 |ret=>exact⟨_,T,U,O,.pass (x:= .inLoop c) rfl (fun _ _=> .inl (by simp)) E⟩
 |panic ch=>exact⟨_,T,U,O,.pass (x:= .inLoop c) rfl (fun _ _=> .inl (by simp)) E⟩
 |outgrown=>exact⟨_,T,U,O,.pass (x:= .inLoop c) rfl (fun _ _=> .inl (by simp)) E⟩
def Wp(P:Program)(c:Code)(Q:Exit->Act->World->Prop)(a:Act)(w:World):Prop:=
 match c with
 | .loop b=>LoopWp P b Q a w
 |c=>c.wp P Q a w
theorem Wp.wp{P:Program}{c:Code}{Q:Exit->Act->World->Prop}{a:Act}{w:World}(h:Wp P c Q a w):c.wp P Q a w:=by cases c<;>first|exact LoopWp.wp h|exact h
def After(μ:Emb)(s:St)(w:World)(e:Ex)(E:St):Exit->Act->World->Prop:=fun T O U=>
 T=e.toExit/\O.defers=[]/\∃μ',Post μ s.heap w μ' E.heap U/\TRel μ' E.tmps E.size O.tmps
def ExOK(P:Program)(G:Nat)(ex:Code->St->Option (Ex×St)):Prop:= ∀c s e E,ex c s=some (e,E)->WF s.heap->Ext s.heap E.heap/\
 ∀μ a w,a.defers=[]->TRel μ s.tmps s.size a.tmps->GRel μ G->WRel μ s.heap w->(∀b,s.heap.next<=b->b<E.heap.next->μ b=none)->Wp P c (After μ s w e E) a w
section
variable {P:Program} {G:Nat}
theorem mb{μ E:Emb}{H H1 O:Heap}{w w1:World}(hp:Post μ H w E H1 w1)(T:H.next<=H1.next)(Z: ∀b,H.next<=b->b<O.next->μ b=none): ∀b,H1.next<=b->b<O.next->E b=none:=by
 intro b U Y;cases hb:E b with
 |none=>rfl
 |some l=>
  rcases hp.dom b l hb with h|⟨_,h⟩
  ·rw[Z b (a05 T U) Y]at h;cases h
  omega
theorem After.trans{μ Z:Emb}{s E U:St}{w w1:World}{e:Ex}(hp:Post μ s.heap w Z E.heap w1)(h1:s.heap.next<=E.heap.next)(h2:E.heap.next<=U.heap.next):
  ∀T O Y,After Z E w1 e U T O Y->After μ s w e U T O Y:=by
 rintro T O Y ⟨he,hd,μ2,hp2,ht⟩
 exact⟨he,hd,μ2,hp.trans hp2 h1 h2,ht⟩
theorem region_ext{cf:cF}(Z:eo P G cf){ops:Array Oper}{O:Bool}{s E:St}(Y:WF s.heap)(h:bO P G cf ops O s=some E):Ext s.heap E.heap:=by
 unfold bO at h;cases O with
 |false=>exact jx Z _ _ _ Y h
 |true=>
  simp only[cond_true]at h
  cases U:(kU ops&&P.follows .mixedOrders) with
  |false=>rw[U]at h;cases h
  |true=>
   rw[U]at h
   simp only[cond_true]at h
   have key: ∀(l:List Oper) (k:Nat) (fs:List (Nat×Inf)) (s E:St),WF s.heap->bp P G cf ops k fs l s=some E->Ext s.heap E.heap:=by
    intro l;induction l with
    |nil=>intro k fs s E _ h;simp only[bp,a01]at h;subst h;exact Ext.refl _
    |cons o os ih=>
     intro k fs s E Y h
     unfold bp at h
     split at h
     case h_2=>cases h
     rename_i s1 f T
     cases U:cj (cC ops) k f fs with
     |false=>rw[U]at h;cases h
     |true=>
      rw[U]at h
      simp only[cond_true]at h
      have e1:Ext s.heap s1.heap:=by
       unfold im at T;split at T
       case h_2=>cases T
       rename_i t ax;simp only[a01,a06]at T;obtain⟨rfl,_⟩:=T;have e0:=kp Z (s:={s with heap:={s.heap with log:=[]}}) Y ax;obtain⟨d,hd,hs⟩:=e0.log;refine⟨e0.next,⟨dT s.heap.next t.heap.log,rfl,fun b hb hn=>?_⟩,e0.far⟩;refine hs b hb fun hm=>hn (gH.2 ⟨?_,hb⟩)
       rw[hd,a0o];exact hm
      exact e1.trans (ih _ _ _ _ (Y.ext e1) h)
   exact key _ _ _ _ _ Y h
theorem execC_ok{rec_:Code->St->Option (Ex×St)}{cf:cF}(b1:ExOK P G rec_)(bb:eo P G cf):ExOK P G (eZ P G rec_ cf):=by
 intro c;induction c with
 |skip=>
  intro s e s' h hw
  rw[me]at h
  simp only[a01,a06]at h
  obtain⟨rfl,rfl⟩:=h
  exact⟨Ext.refl _,fun μ a w hd O T Y _=>wp_skip ⟨rfl,hd,μ,Post.refl Y,O⟩⟩
 |region id ops draw=>
  intro s e s' h hw
  rw[gL]at h
  unfold ed at h
  split at h
  ·rename_i s1 h1;simp only[a01,a06]at h;obtain⟨rfl,rfl⟩:=h;refine⟨region_ext bb hw h1,fun μ a w hd O T Y Z=>?_⟩;refine region_sound bb h1 hw O T Y (fun b l hb=>?_) fun μ' w' a' hp b3 b2=>⟨rfl,b2.trans hd,μ',hp,b3⟩
   rcases a0d b s.heap.next with h2|h2
   ·exact .inl h2
   right;rcases a0d b s1.heap.next with h3|h3
   ·rw[Z b h2 h3]at hb;cases hb
   exact h3
  cases h
 |seq x y ihx ihy=>
  intro s e s' h hw
  rw[ln]at h
  cases hx:eZ P G rec_ cf x s with
  |none=>rw[hx]at h;cases h
  |some p=>
   obtain⟨e1,s1⟩:=p
   obtain⟨E,U⟩:=ihx s e1 s1 hx hw
   rw[hx]at h
   cases e1 with
   |normal=>
    simp only[gM]at h
    obtain⟨ax,a7⟩:=ihy s1 e s' h (hw.ext E)
    refine⟨E.trans ax,fun μ a w hd O T Y Z=>wp_seq ?_⟩
    refine wp_mono (U μ a w hd O T Y (fun b h1 h2=>Z b h1 (a0V h2 ax.next))).wp ?_
    rintro e2 a2 w2 ⟨rfl,hd2,μ2,hp2,ht2⟩
    exact wp_mono (a7 μ2 a2 w2 hd2 ht2 (T.mono hp2.ext) hp2.wrel (mb hp2 E.next Z)).wp (After.trans hp2 E.next ax.next)
   |exit i=>
    simp only[gM,a01,a06]at h
    obtain⟨rfl,rfl⟩:=h
    refine⟨E,fun μ a w hd O T Y Z=>wp_seq ?_⟩
    refine wp_mono (U μ a w hd O T Y Z).wp ?_
    rintro e2 a2 w2 ⟨rfl,hrest⟩
    exact⟨rfl,hrest⟩
   |ret=>
    simp only[gM,a01,a06]at h
    obtain⟨rfl,rfl⟩:=h
    refine⟨E,fun μ a w hd O T Y Z=>wp_seq ?_⟩
    refine wp_mono (U μ a w hd O T Y Z).wp ?_
    rintro e2 a2 w2 ⟨rfl,hrest⟩
    exact⟨rfl,hrest⟩
 |cond c x y ihx ihy=>
  intro s e s' h hw
  rw[jA]at h
  cases hq:br G c with
  |false=>rw[hq]at h;cases h
  |true=>
   rw[hq]at h
   simp only[cond_true]at h
   unfold mi at h
   split at h
   ·rename_i t hv;have a8: ∀(μ:Emb) (a:Act),TRel μ s.tmps s.size a.tmps->GRel μ G->a.eval c= .bool t:=by
     intro μ a O T;have:=eval_of T hq (tm:=s.tmps) (a:=a) fun k _=>O.2 k
     rw[hv]at this;exact this.bool_inv
    cases t with
    |true=>
     obtain⟨E,U⟩:=ihx s e s' h hw
     exact⟨E,fun μ a w hd O T Y Z=>wp_cond_true (a8 μ a O T) (U μ a w hd O T Y Z).wp⟩
    |false=>
     obtain⟨E,U⟩:=ihy s e s' h hw
     exact⟨E,fun μ a w hd O T Y Z=>wp_cond_false (a8 μ a O T) (U μ a w hd O T Y Z).wp⟩
   cases h
 |block id x ih=>
  intro s e s' h hw
  rw[iH]at h
  cases hx:eZ P G rec_ cf x s with
  |none=>rw[hx]at h;cases h
  |some p=>
   obtain⟨e1,s1⟩:=p
   obtain⟨E,U⟩:=ih s e1 s1 hx hw
   rw[hx]at h
   cases e1 with
   |normal=>
    simp only[di,a01,a06]at h
    obtain⟨rfl,rfl⟩:=h
    refine⟨E,fun μ a w hd O T Y Z=>wp_block ?_⟩
    refine wp_mono (U μ a w hd O T Y Z).wp ?_
    rintro e2 a2 w2 ⟨rfl,hrest⟩
    exact⟨rfl,hrest⟩
   |exit i=>
    simp only[di]at h
    cases hb:Nat.beq i id with
    |true=>
     rw[hb]at h
     simp only[cond_true,a01,a06]at h
     obtain⟨rfl,rfl⟩:=h
     have hi:i=id:=a08 hb
     subst hi
     refine⟨E,fun μ a w hd O T Y Z=>wp_block ?_⟩
     refine wp_mono (U μ a w hd O T Y Z).wp ?_
     rintro e2 a2 w2 ⟨rfl,hrest⟩
     simp only[Ex.toExit,Exit.inBlock,if_true]
     exact⟨rfl,hrest⟩
    |false=>
     rw[hb]at h
     simp only[cond_false,a01,a06]at h
     obtain⟨rfl,rfl⟩:=h
     have hi: ¬i=id:=fun e=>by subst e;rw[a0N]at hb;cases hb
     refine⟨E,fun μ a w hd O T Y Z=>wp_block ?_⟩
     refine wp_mono (U μ a w hd O T Y Z).wp ?_
     rintro e2 a2 w2 ⟨rfl,hrest⟩
     simp only[Ex.toExit,Exit.inBlock,hi,if_false]
     exact⟨rfl,hrest⟩
   |ret=>
    simp only[di,a01,a06]at h
    obtain⟨rfl,rfl⟩:=h
    refine⟨E,fun μ a w hd O T Y Z=>wp_block ?_⟩
    refine wp_mono (U μ a w hd O T Y Z).wp ?_
    rintro e2 a2 w2 ⟨rfl,hrest⟩
    exact⟨rfl,hrest⟩
 |loop x ih=>
  intro s e s' h hw
  rw[jz]at h
  cases hx:eZ P G rec_ cf x s with
  |none=>rw[hx]at h;cases h
  |some p=>
   obtain⟨e1,s1⟩:=p
   obtain⟨E,U⟩:=ih s e1 s1 hx hw
   rw[hx]at h
   cases e1 with
   |normal=>
    simp only[gM]at h
    obtain⟨ax,a7⟩:=b1 (.loop x) s1 e s' h (hw.ext E)
    refine⟨E.trans ax,fun μ a w hd O T Y Z=>LoopWp.round ?_⟩
    refine wp_mono (U μ a w hd O T Y (fun b h1 h2=>Z b h1 (a0V h2 ax.next))).wp ?_
    rintro e2 a2 w2 ⟨rfl,hd2,μ2,hp2,ht2⟩
    have hl:LoopWp P x (After μ2 s1 w2 e s') a2 w2:=a7 μ2 a2 w2 hd2 ht2 (T.mono hp2.ext) hp2.wrel (mb hp2 E.next Z)
    intro b k cs
    obtain⟨e3,a3,w3,q,r⟩:=hl b k cs
    exact⟨e3,a3,w3,After.trans hp2 E.next ax.next _ _ _ q,r⟩
   |exit i=>
    simp only[gM,a01,a06]at h
    obtain⟨rfl,rfl⟩:=h
    refine⟨E,fun μ a w hd O T Y Z=>LoopWp.round ?_⟩
    refine wp_mono (U μ a w hd O T Y Z).wp ?_
    rintro e2 a2 w2 ⟨rfl,hrest⟩
    exact⟨rfl,hrest⟩
   |ret=>
    simp only[gM,a01,a06]at h
    obtain⟨rfl,rfl⟩:=h
    refine⟨E,fun μ a w hd O T Y Z=>LoopWp.round ?_⟩
    refine wp_mono (U μ a w hd O T Y Z).wp ?_
    rintro e2 a2 w2 ⟨rfl,hrest⟩
    exact⟨rfl,hrest⟩
 |exit id=>
  intro s e s' h hw
  rw[mf]at h
  simp only[a01,a06]at h
  obtain⟨rfl,rfl⟩:=h
  exact⟨Ext.refl _,fun μ a w hd O T Y _=>wp_exit ⟨rfl,hd,μ,Post.refl Y,O⟩⟩
 |ret=>
  intro s e s' h hw
  rw[execC_ret]at h
  simp only[a01,a06]at h
  obtain⟨rfl,rfl⟩:=h
  exact⟨Ext.refl _,fun μ a w hd O T Y _=>wp_ret ⟨rfl,hd,μ,Post.refl Y,O⟩⟩
 |rangeFunc f ps x y _ _=>intro s e s' h;cases h
 |scope x _=>intro s e s' h;cases h
 |label l=>intro s e s' h;cases h
 |goto l=>intro s e s' h;cases h
 |refuse m=>intro s e s' h;cases h
theorem iM: ∀(args:List Value) (i:Nat) (t:Tr Value) (k:Nat),cU (fC i args t) k=if i<=k/\k<i+args.length then args.getD (k-i) undef else cU t k
 | [],i,t,k=>by rw[if_neg (by simp only[a03];omega)];rfl
 |v::l,i,t,k=>by
  simp only[fC];rw[iM l (i+1) _ k];by_cases E:i+1<=k/\k<i+1+l.length
  ·rw[if_pos E,if_pos (by simp only[a02];omega),show k-i=(k-(i+1))+1 by omega];rfl
  rw[if_neg E,gI];by_cases O:i=k
  ·subst O;rw[if_pos rfl,if_pos (by simp only[a02];omega)];simp
  rw[if_neg O,if_neg (by simp only[a02];omega)]
theorem args_rel{μ:Emb}{args:List Value}{E:Array Value}(h:LRel μ args E.toList)(n:Nat):
  TRel μ (fC 0 args .nil) (Nat.max args.length n) (E++Array.replicate (n-E.size) undef):=by
 have U:args.length=E.size:=by rw[h.1];simp
 refine⟨by simp only[Array.size_append,Array.size_replicate];rw[U];show _=max _ _;omega,fun i=>?_⟩
 rw[iM]
 simp only[a0n,true_and,a0B,Nat.sub_zero,lget_nil,a0G,Array.getElem?_append]
 by_cases hi:i<args.length
 ·rw[if_pos hi,if_pos (by omega)];have O:args[i]?=some args[i]:=a0b hi;obtain⟨v',T,Y⟩:=h.get O;have:E[i]?=some v':=by simpa using T
  rw[this,a0c,O];exact Y
 rw[if_neg hi,if_neg (by omega)]
 rw[Array.getElem?_replicate]
 split
 ·exact VRel.undef
 exact VRel.undef
theorem ir{μ:Emb}{s:St}{a:Array Value}{w:World}(O:TRel μ s.tmps s.size a)(Y:WRel μ s.heap w): ∀(rs:List ResultVar) (l:List Value),cT P s rs=some l->
  ∃l',(rs.mapM (m:=Sem) fun| .tmp t=>Pure.pure (a.getD t undef)| .cell x t=>do loadVar t (←asAddr (a.getD x undef))).run P w= .ok l' w/\LRel μ l l'
 | [],l,h=>by simp only[cT,a01]at h;subst h;exact⟨[],by simp,.nil⟩
 | .tmp t::rs,l,h=>by
  unfold cT at h;split at h
  ·rename_i l1 T;injection h with h;subst h;obtain⟨l',E,U⟩:=ir O Y rs l1 T;exact⟨a.getD t undef::l',by simp only[List.mapM_cons,Sem.run_bind,Sem.run_pure,Result.andThen_ok,E],.cons (O.2 t) U⟩
  cases h
 | .cell x t::rs,l,h=>by
  unfold cT at h;split at h
  ·rename_i p hp;split at h
   ·rename_i v l1 hv T;injection h with h;subst h;obtain⟨l',E,U⟩:=ir O Y rs l1 T;have Z:=O.2 x;rw[hp]at Z;obtain⟨b,o,sp⟩:=p;have ar:sp=none:=Z.ptr_some.1;subst ar;obtain⟨l0,hμ,a1⟩:=Z.ptr_inv;obtain⟨v',an,ax⟩:=iC (P:=P) Y hμ hv;exact⟨v'::l',by simp only[List.mapM_cons,Sem.run_bind,a1,show(asAddr (Value.pointer (some ⟨l0.c,l0.sh+o,none⟩))).run P w= .ok ⟨l0.c,l0.sh+o,none⟩ w from rfl,Sem.run_pure,Result.andThen_ok,an,E],.cons ax U⟩
   cases h
  cases h
theorem result_rel{μ:Emb}{l l':List Value}(h:LRel μ l l'):VRel μ (eH l) (if h:l'.toArray.size=1 then l'.toArray[0] else .tuple l'.toArray):=by
 match l,l',h with
 | [],l',h=>
  have:=h.nil_left
  subst this
  exact .tuple _ _ rfl (fun i v v' h=>by simp at h)
 | [v],l',h=>
  obtain⟨v',t,rfl,O,E⟩:=h.cons_left
  have:=E.nil_left
  subst this
  exact O
 |v::u::r,l',h=>
  obtain⟨v',t,rfl,O,E⟩:=h.cons_left
  obtain⟨Z,Y,rfl,U,T⟩:=E.cons_left
  simp only[List.size_toArray,a02,show ¬(Y.length+1+1=1) by omega,dite_false]
  have:=LRel.cons O (LRel.cons U T)
  exact .tuple _ _ (by simpa[eH] using this.1) (by simpa[eH] using this.2)
theorem mK{μ:Emb}{s:St}{fn:Func}{a:Array Value}{w:World}(T:TRel μ s.tmps s.size a)(U:WRel μ s.heap w){l:List Value}(h:cT P s fn.results.toList=some l):
  ∃v',(results fn a).run P w= .ok v' w/\VRel μ (eH l) v':=by
 obtain⟨l',O,E⟩:=ir (P:=P) T U _ l h
 refine⟨_,?_,result_rel E⟩
 unfold results
 rw[Array.mapM_eq_mapM_toList]
 simp only[Sem.run_bind,Sem.run_map]
 have e: ∀(r:Result (List Value)),r= .ok l' w->((r.andThen fun a w'=>(.ok a.toArray w':Result (Array Value))).andThen fun vs w'=>((Pure.pure (if h:vs.size=1 then vs[0] else Value.tuple vs):Sem Value).run P w'))=
   .ok (if h:l'.toArray.size=1 then l'.toArray[0] else .tuple l'.toArray) w:=by
  intro r E;subst E;rfl
 exact e _ O
theorem callC_ok{ex:Code->St->Option (Ex×St)}(Z:ExOK P G ex):eo P G (ni P ex):=by
 intro f args H v H' h ax;unfold ni at h;split at h
 case h_2=>cases h
 rename_i fn an;split at h
 case h_2=>cases h
 rename_i c hc;have Y: ∀e s,(e=Ex.normal\/e=Ex.ret)->ex c {tmps:=fC 0 args .nil,size:=Nat.max args.length fn.ntmps,heap:=H}=some (e,s)->
   (match cT P s fn.results.toList with|some l=>some (eH l,s.heap)|none=>none)=some (v,H')->Ext H H'/\
   ∀μ w (E:Array Value),LRel μ args E.toList->GRel μ G->WRel μ H w->(∀b,H.next<=b->b<H'.next->μ b=none)->
    Calls P f E w fun e w'=> ∃μ' v',e= .returned v'/\VRel μ' v v'/\Post μ H w μ' H' w':=by
  intro e s he U O
  split at O
  ·rename_i l hl;simp only[a01,a06]at O;obtain⟨rfl,rfl⟩:=O;obtain⟨ext,a1⟩:=Z c _ e s U ax;refine⟨ext,fun μ w E ha hG hw hf=>?_⟩;refine calls_of_wp an hc ?_;refine wp_mono (a1 μ {tmps:=E++Array.replicate (fn.ntmps-E.size) undef,defers:=[]} w rfl (args_rel ha fn.ntmps) hG hw hf).wp ?_;rintro e2 a2 w2 ⟨rfl,hd,μ',hp,ht⟩;obtain⟨v',T,hr⟩:=mK (P:=P) (fn:=fn) ht hp.wrel hl;rcases he with rfl|rfl
   ·exact⟨hd,v',T,μ',v',rfl,hr,hp⟩
   exact⟨hd,v',T,μ',v',rfl,hr,hp⟩
  cases O
 split at h
 ·rename_i s U;exact Y .normal s (.inl rfl) U h
 ·rename_i s U;exact Y .ret s (.inr rfl) U h
 cases h
def gT(P:Program)(G:Nat)(K:bB):Prop:= ∀f args H v,K f args H=some v->args.all noA2=true/\noA2 v=true/\∀(μ:Emb) (E:Array Value) (w:World),E.toList=args->GRel μ G->WRel μ H w->
 Calls P f E w fun e w'=>e= .returned v/\Below w.heap.size w w'
theorem LRel.eq2{μ:Emb}{l l':List Value}(h:LRel μ l l')(E:l.all noA2=true):l'=l:=by
 induction l generalizing l' with
 |nil=>exact h.nil_left
 |cons v l ih=>
  obtain⟨v',U,rfl,T,O⟩:=h.cons_left
  simp only[a0Q,a04]at E
  rw[T.eq2 E.1,ih O E.2]
theorem LRel.refl2{μ:Emb}{l:List Value}(h:l.all noA2=true):LRel μ l l:=by refine⟨rfl,fun i v v' O E=>?_⟩;rw[O]at E;injection E with E;subst E;exact VRel.refl2 (a0l.1 h v (a0p O))
theorem callK_ok{K:bB}{cf:cF}(hK:gT P G K)(Y:eo P G cf):eo P G (lx K cf):=by
 intro f args H v H' h ar;unfold lx at h;split at h
 ·rename_i u hu;simp only[a01,a06]at h;obtain⟨rfl,rfl⟩:=h;obtain⟨h1,h2,h3⟩:=hK f args H u hu;refine⟨Ext.refl _,fun μ w E ha hG U hf=>?_⟩;refine(h3 μ E w (ha.eq2 h1) hG U).mono ?_;rintro e w' ⟨rfl,hb⟩;refine⟨μ,u,rfl,VRel.refl2 h2,⟨fun _ _ h=>h,fun _ _ h=> .inl h,hb.size,hb.os,hb.tape,hb.output,fun c hc _=>hb.block c hc,fun b l o O T h6=> .inr ⟨b,l,o,O,T,h6,id,rfl⟩,⟨fun b l o O T=>?_,U.inj⟩⟩⟩;have hr:=U.obj b l o O T;exact hr.keep (fun _ _ h=>h) hb.size (fun Z=>hb.block l.c (hr.lt Z))
 exact Y f args H v H' h ar
theorem exec_ok{K:bB}(E:gT P G K): ∀n,ExOK P G (mh P G K n)
 |0=>fun c s e O h=>by cases h
 |n+1=>execC_ok (exec_ok E n) (callK_ok E (callC_ok (exec_ok E n)))
theorem call_ok{K:bB}(E:gT P G K)(n:Nat):eo P G (call P G K n):=callK_ok E (callC_ok (exec_ok E n))
theorem none_ok:gT P G noneKnown:=fun f args H v h=>by cases h
theorem nh{K:bB}(Y:gT P 0 K){n:Nat}{f:FuncId}{args:List Value}{v:Value}{H':Heap}(ha:args.all noA2=true)(hv:noA2 v=true)
  (h:call P 0 K n f args Heap.empty=some (v,H')) (E:Array Value) (w:World) (hc:E.toList=args):
  Calls P f E w fun e w'=>e= .returned v/\Below w.heap.size w w':=by
 have U:WF Heap.empty:=fun b _=>rfl
 obtain⟨_,O⟩:=call_ok (G:=0) Y n f args Heap.empty v H' h U
 have T:WRel (fun _=>none) Heap.empty w:=⟨fun b l o hb=>(by cases hb),fun b1 b2 l1 l2 o1 o2 _ hb=>(by cases hb)⟩
 refine(O (fun _=>none) w E (by rw[hc];exact LRel.refl2 ha) (fun g hg=>by omega) T (fun _ _ _=>rfl)).mono ?_
 rintro e w' ⟨μ',v',rfl,hr,hp⟩
 rw[hr.eq2 hv]
 refine⟨rfl,hp.os,hp.tape,hp.out,hp.grow,fun k Z=>hp.keep k Z fun b l o hb=>by cases hb⟩
end
end Go.R
namespace Go.R
open Go.RowKit
theorem walk_of_eval{P:Program}{K:bB}(O:gT P 0 K){n:Nat}{f:FuncId}(h:saysTrue (call P 0 K n f [] Heap.empty)=true)(w:World):
  Calls P f #[] w fun e w'=>e= .returned (.bool true)/\Below w.heap.size w w':=by
 revert h
 cases hc:call P 0 K n f [] Heap.empty with
 |none=>intro h;cases h
 |some r=>
  obtain⟨v,H'⟩:=r
  intro h
  have T:v= .bool true:=by
   unfold saysTrue at h;split at h
   ·rename_i E;simp only[a01,a06]at E;exact E.1
   cases h
  subst T
  exact nh O rfl rfl hc #[] w rfl
open Go.WideShapes Go.ChangeShapes in
theorem mL{H:Type}{enc:TypeId×Value->H}{P:Program}{f:Func}{s:ChangeSpec}{T a5 ar a4:Bool}{W W':World}{args:Array Value}{v:Value}{ds gs:List (DataW H)}{E pa pv:List MemPlace}
  (hW:DataW.Whole enc P f.params.toList s.vars T W args.toList ds gs E)
  (a3: ∀(b:Nat) (sp:Nat->Bool) (hd:Bool),DataW.TrodAll enc P W' b sp hd f.resultTypes.toList (v.resultList f.resultTypes.size) (s.fn H (ds++gs)).results [])
  (U: ∀sp:Nat->Bool,(∀p∈E,sp p.block=true)->DataW.TrodAll enc P W' 0 sp true f.params.toList args.toList (s.fn H (ds++gs)).args pa)
  (Z: ∀sp:Nat->Bool,(∀p∈E,sp p.block=true)->DataW.TrodVars enc P W' sp s.vars (s.fn H (ds++gs)).vars pv)
  (Y:E=pa++pv) (hb:Below W.heap.size W W')
  (b0: ∀(j:Nat) (t:TypeId) (r:Value),f.resultTypes[j]?=some t->(v.resultList f.resultTypes.size)[j]?=some r->Value.okWide P W' .any 0 t r):
  s.post enc P f T a5 ar a4 W args v W':=by
 have a2: ∀p∈E,(fun b=>decide (b<W.heap.size)) p.block=true:=fun p O=>by simpa using hW.lt p O
 have bb: ∀p∈E,p.block<W.heap.size:=fun p O=>by simpa using hW.lt p O
 refine⟨ds,gs,E,[],pa,pv,hW,a3 _ _ _,U _ a2,Z _ a2,World.keptBut_mono (fun p O=>⟨O,?_⟩) (hb.frame (· ∈E)),fun _=>?_⟩
 ·rw[Y,a0f]at O;exact Or.inr O
 obtain⟨_,_,_,_,_,hz,hn⟩:=hW
 refine⟨b0,_,_,([]++pa)++pv,⟨[]++pa,pv,trodAll_append (U _ (fun _ _=>rfl)) (a3 _ _ _),Z _ (fun _ _=>rfl),rfl,?_,?_⟩,?_⟩
 ·intro b off O;have a7:MemPlace.cell b off∈E:=by rw[Y];simpa using O
  have h1:=hb.frozen (p:=⟨b,off,none⟩) (bb _ a7);have h2:=hz b off a7;first|(rw[h1];exact h2)|(exact h1.trans h2)|(simp_all)
 ·intro ha;have:=hn ha;rw[Y]at this;simpa using this
 intro p O _
 rw[Y]
 simpa using O
end Go.R
noncomputable section
namespace Go.R
open Go.RowKit
section
variable {P:Program} {w:World} {base:Nat} {held:Bool} {enc:TypeId×Value->Unit}
def lit1(P:Program)(t:TypeId)(d:DataW Unit):Option Value:=
 match P.underlying t,d with
 |some .bool,.lit (.bool b)=>some (.bool b)
 |some (.int k),.lit (.int _ n)=>some (.int k n)
 |some .string,.lit (.string l)=>some (.string ⟨⟨l⟩⟩)
 |_,_=>none
def flatFs(P:Program):Nat->List Field->Bool
 |_,[]=>true
 |i,f::fs=>Nat.beq f.offset i&&Nat.beq (P.cellsOf f.type) 1&&flatFs P (i+1) fs
def litFs(P:Program):List Field->List (DataW Unit)->Option (List Value)
 | [],[]=>some []
 |f::fs,d::ds=>
  match lit1 P f.type d,litFs P fs ds with
  |some v,some l=>some (v::l)
  |_,_=>none
 |_,_=>none
def litRows(P:Program)(fs:List Field):List (DataW Unit)->Option (List (List Value))
 | []=>some []
 | .agg ds::r=>
  match litFs P fs ds,litRows P fs r with
  |some l,some m=>some (l::m)
  |_,_=>none
 |_::_=>none
end
end Go.R
end
namespace Go.R
def CfLe(cf cf':cF):Prop:= ∀f a H r,cf f a H=some r->cf' f a H=some r
def ExLe(ex E:Code->St->Option (Ex×St)):Prop:= ∀c s r,ex c s=some r->E c s=some r
section
variable {P:Program} {G:Nat} {cf cf':cF} {ops:Array Oper}
theorem step_mono(h:CfLe cf cf'){o:Oper}{s T:St}(hs:step P G cf ops o s=some T):step P G cf' ops o s=some T:=by
 unfold step at hs⊢;cases O:bl ops o s.tmps with
 |false=>rw[O]at hs;exact hs
 |true=>
  rw[O]at hs
  cases E:o.op.operands.toList.all (br G) with
  |false=>rw[E]at hs;cases hs
  |true=>
   rw[E]at hs
   simp only[cond_true]at hs⊢
   split at hs
   ·exact hs
   ·exact hs
   ·split at hs
    ·rename_i v U hc;rw[h _ _ _ _ hc];exact hs
    cases hs
   cases hs
theorem iq(h:CfLe cf cf'): ∀(l:List Oper) (s E:St),gk P G cf ops l s=some E->gk P G cf' ops l s=some E
 | [],_,_,hs=>hs
 |o::l,s,E,hs=>by
  rw[bS]at hs⊢;split at hs
  ·rename_i t O;rw[step_mono h O];exact iq h l _ _ hs
  cases hs
theorem stepD_mono(h:CfLe cf cf'){o:Oper}{s:St}{r:St×Inf}(hs:im P G cf ops o s=some r):im P G cf' ops o s=some r:=by
 unfold im at hs⊢;split at hs
 ·rename_i t E;rw[step_mono h E];exact hs
 cases hs
theorem fq(h:CfLe cf cf'): ∀(l:List Oper) (i:Nat) (fs:List (Nat×Inf)) (s s':St),bp P G cf ops i fs l s=some s'->bp P G cf' ops i fs l s=some s'
 | [],_,_,_,_,hs=>by unfold bp at hs⊢;exact hs
 |o::l,i,fs,s,s',hs=>by
  unfold bp at hs⊢;split at hs
  ·rename_i t f O;rw[stepD_mono h O];simp only;cases E:cj (cC ops) i f fs with
   |false=>rw[E]at hs;cases hs
   |true=>rw[E]at hs;simp only[cond_true]at hs⊢;exact fq h l _ _ _ _ hs
  cases hs
theorem lI(h:CfLe cf cf'){E:Bool}{s T:St}(hs:bO P G cf ops E s=some T):bO P G cf' ops E s=some T:=by
 unfold bO at hs⊢;cases E with
 |false=>exact iq h _ _ _ hs
 |true=>
  simp only[cond_true]at hs⊢
  cases O:kU ops&&P.follows .mixedOrders with
  |false=>rw[O]at hs;cases hs
  |true=>rw[O]at hs;simp only[cond_true]at hs⊢;exact fq h _ _ _ _ _ hs
theorem hE{r T:Option (Ex×St)}{k O:St->Option (Ex×St)}(Y: ∀x,r=some x->T=some x)(U: ∀s x,k s=some x->O s=some x){x:Ex×St}(h:gM r k=some x):gM T O=some x:=by
 cases E:r with
 |none=>rw[E]at h;cases h
 |some y=>
  rw[Y y E]
  rw[E]at h
  obtain⟨e,s⟩:=y
  cases e with
  |normal=>exact U _ _ h
  |exit i=>exact h
  |ret=>exact h
theorem jV{id:Nat}{r O:Option (Ex×St)}(T: ∀x,r=some x->O=some x){x:Ex×St}(h:di id r=some x):di id O=some x:=by
 cases E:r with
 |none=>rw[E]at h;cases h
 |some y=>rw[T y E];rw[E]at h;exact h
theorem execC_mono(h:CfLe cf cf'){ex T:Code->St->Option (Ex×St)}(U:ExLe ex T)(c:Code): ∀(s:St) (x:Ex×St),eZ P G ex cf c s=some x->eZ P G T cf' c s=some x:=by
 induction c with
 |skip=>intro s x E;exact E
 |region id ops draw=>
  intro s x E
  rw[gL]at E⊢
  cases O:bO P G cf ops draw s with
  |none=>rw[O]at E;cases E
  |some t=>rw[lI h O];rw[O]at E;exact E
 |seq a b iha ihb=>
  intro s x E
  rw[ln]at E⊢
  exact hE (iha s) ihb E
 |cond c t e iht ihe=>
  intro s x E
  rw[jA]at E⊢
  cases O:br G c with
  |false=>rw[O]at E;cases E
  |true=>
   rw[O]at E
   simp only[cond_true]at E⊢
   unfold mi at E⊢
   split at E
   ·rename_i b hb;cases b with
    |true=>exact iht s x E
    |false=>exact ihe s x E
   cases E
 |block id b ih=>
  intro s x E
  rw[iH]at E⊢
  exact jV (ih s) E
 |loop b ih=>
  intro s x E
  rw[jz]at E⊢
  exact hE (ih s) (U _) E
 |exit id=>intro s x E;exact E
 |ret=>intro s x E;exact E
 |_=>intro s x E;cases E
theorem mt{ex E:Code->St->Option (Ex×St)}(O:ExLe ex E):CfLe (ni P ex) (ni P E):=by
 intro f a H r h;unfold ni at h⊢;split at h
 ·split at h
  ·split at h
   ·rename_i s T;rw[O _ _ _ T];exact h
   ·rename_i s T;rw[O _ _ _ T];exact h
   cases h
  cases h
 cases h
theorem mr{K:bB}(h:CfLe cf cf'):CfLe (lx K cf) (lx K cf'):=by
 intro f a H r E;unfold lx at E⊢;split at E
 ·exact E
 exact h _ _ _ _ E
theorem ja{K:bB}: ∀n,ExLe (mh P G K n) (mh P G K (n+1))
 |0=>fun c s r h=>by cases h
 |n+1=>fun c s r h=>execC_mono (mr (mt (ja n))) (ja n) c s r h
theorem jb{K:bB}{n m:Nat}(h:n<=m):ExLe (mh P G K n) (mh P G K m):=by
 induction h with
 |refl=>exact fun _ _ _ h=>h
 |step _ ih=>exact fun c s r h=>ja _ c s r (ih c s r h)
theorem fN{K:bB}{n m:Nat}(h:n<=m):CfLe (call P G K n) (call P G K m):=mr (mt (jb h))
end
end Go.R
