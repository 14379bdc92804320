/-
The evaluator is sound: regions, code, calls, laws.
-/
import Derived.Test.YtapgbjedgcpffaaGreatZRRA
import Derived.Below
import Derived.ChangeSame
import Derived.ChangeArms
namespace Go.R
structure Ext(H H':Heap):Prop where
 next:H.next<=H'.next
 log: ∃d,H'.log=d++H.log/\∀b,b<H.next->b∉d->H'.get b=H.get b
 far: ∀b,H'.next<=b->H'.get b=H.get b
theorem Ext.refl(H:Heap):Ext H H:=⟨a07 _,⟨[],V,fun _ _ _=>rfl⟩,fun _ _=>rfl⟩
theorem Ext.trans{H H1 O:Heap}(h:Ext H H1)(k:Ext H1 O):Ext H O:=by
 obtain⟨T,Y,g1⟩:=h.log;obtain⟨U,Z,g2⟩:=k.log;refine⟨a0g h.next k.next,⟨U++T,by rw[Z,Y,a0h],fun b hb E=>?_⟩,fun b hb=>?_⟩
 ·rw[a0e,not_or]at E;rw[g2 b (a0S hb h.next) E.1,g1 b hb E.2]
 rw[k.far b hb,h.far b (a0g k.next hb)]
theorem Ext.push(H:Heap)(o:AObj):Ext H (H.push o):=by refine⟨by simp,⟨[],V,fun b hb _=>Heap.get_push_ne H o M⟩,fun b hb=>Heap.get_push_ne H o ?_⟩;simp at hb;omega
theorem Ext.put{H:Heap}{b:Nat}(o:AObj)(hb:b<H.next):Ext H (H.put b o):=by refine⟨a07 _,⟨[b],V,fun k _ E=>Heap.get_put_ne H o (fun e=>E (by simp[e]))⟩,fun k E=>Heap.get_put_ne H o ?_⟩;simp at E;omega
def WF(H:Heap):Prop:= ∀b,H.next<=b->H.get b=none
theorem WF.ext{H H':Heap}(h:WF H)(e:Ext H H'):WF H':=fun b hb=>by rw[e.far b hb];exact h b (a0g e.next hb)
theorem WF.lt{H:Heap}(h:WF H){b:Nat}{o:AObj}(E:H.get b=some o):b<H.next:=by
 rcases a0c b H.next with hl|hl
 ·exact hl
 rw[h b hl]at E;cases E
section ext
variable {P:Program} {H H':Heap}
def ER(H:Heap){α:Type}(r:Option (α×Heap)):Prop:= ∀a H',r=some (a,H')->Ext H H'
theorem ER.none_{α:Type}:ER H (none:Option (α×Heap)):=fun _ _ h=>by cases h
theorem ER.some_{α:Type}{a:α}{H1:Heap}(h:Ext H H1):ER H (some (a,H1)):=fun _ _ e=>by injection e with e;injection e with _ e;subst e;exact h
theorem ER.same{α:Type}{a:α}:ER H (some (a,H)):=ER.some_ (Ext.refl H)
theorem ER.bif_{α:Type}{c:Bool}{x y:Option (α×Heap)}(h:ER H x)(k:ER H y):ER H (bif c then x else y):=by cases c<;>assumption
def EO(H:Heap)(r:Option Heap):Prop:= ∀H',r=some H'->Ext H H'
theorem EO.none_:EO H none:=fun _ h=>by cases h
theorem EO.some_{H1:Heap}(h:Ext H H1):EO H (some H1):=fun _ e=>by injection e with e;subst e;exact h
theorem EO.bif_{c:Bool}{x y:Option Heap}(h:EO H x)(k:EO H y):EO H (bif c then x else y):=by cases c<;>assumption
theorem ER.ovl_(r:Option Value):ER H (ovl r H):=by unfold ovl;split;exact ER.same;exact ER.none_
theorem ER.ovh_{r:Option (Value×Heap)}(h:ER H r):ER H (ovh r):=by
 unfold ovh;split
 ·rename_i v E;exact ER.some_ (h v E V)
 exact ER.none_
theorem ER.osk_{r:Option Heap}(h:EO H r):ER H (osk r):=by
 unfold osk;split
 ·rename_i E;exact ER.some_ (h E V)
 exact ER.none_
theorem ER.lift_(s:Sem Value):ER H (lift P s H):=by unfold lift;split;exact ER.same;exact ER.none_
theorem ER.plain_(ρ:Operand->Value)(o:Oper):ER H (bL P ρ o H):=by
 unfold bL;refine ER.bif_ ?_ ER.none_;split
 ·exact ER.bif_ ER.same ER.none_
 exact ER.none_
theorem jE(O:WF H)(a:Addr)(vs:List Value):EO H (H.storeL a vs):=by
 unfold Heap.storeL;split
 ·split
  ·rename_i E;exact EO.bif_ (EO.some_ (Ext.put _ (O.lt E))) EO.none_
  exact EO.none_
 exact EO.none_
theorem append_ext(O:WF H)(types:Array TypeId)(s x:Value):ER H (gC P types s x H):=by
 unfold gC;split
 case h_2=>exact ER.none_
 split
 case h_2=>exact ER.none_
 split
 ·exact ER.none_
 split
 case h_2=>exact ER.none_
 split
 ·exact ER.none_
 split
 ·exact ER.bif_ ER.same (ER.bif_ (ER.some_ (Ext.push _ _)) ER.none_)
 ·split
  ·rename_i U;refine ER.bif_ (ER.bif_ ER.same ?_) (ER.bif_ ?_ ER.none_)
   ·split
    ·rename_i T E;exact ER.some_ (jE O _ _ T E)
    exact ER.none_
   split
   ·exact ER.none_
   split
   ·exact ER.some_ (Ext.push _ _)
   exact ER.bif_ (ER.some_ ((Ext.put .dead (O.lt U)).trans (Ext.push _ _))) ER.none_
  exact ER.none_
 exact ER.none_
theorem copy_ext(T:WF H)(types:Array TypeId)(d s:Value):ER H (aCopy P types d s H):=by
 unfold aCopy;split
 case h_2=>exact ER.none_
 split
 case h_2=>exact ER.none_
 split
 case h_2=>exact ER.none_
 refine ER.bif_ ER.same ?_;split
 ·split
  ·rename_i O E;exact ER.some_ (jE T _ _ O E)
  exact ER.none_
 exact ER.none_
theorem ml(O:WF H)(t:TypeId)(m k v:Value):EO H (hU P t m k v H):=by
 unfold hU;split
 ·split
  ·split
   ·rename_i E;exact EO.bif_ (EO.some_ (Ext.put _ (O.lt E))) EO.none_
   exact EO.none_
  exact EO.none_
 exact EO.none_
theorem aop_er(E:WF H)(ρ:Operand->Value)(o:Oper):ER H (aop P ρ o H):=by
 unfold aop;split
 ·exact ER.same
 ·exact ER.same
 ·unfold gW;split;exact ER.same;exact ER.none_
 ·unfold ff;split;exact ER.some_ (Ext.push _ _);exact ER.none_
 ·exact ER.some_ (Ext.push _ _)
 ·unfold iM;split;exact ER.lift_ _;exact ER.none_
 ·unfold bN;split
  ·refine ER.bif_ ?_ ER.none_;split
   ·exact ER.some_ (Ext.push _ _)
   exact ER.none_
  exact ER.none_
 ·unfold eI;split;exact ER.ovl_ _;exact ER.none_
 ·unfold iL;split
  ·split
   ·exact ER.bif_ (ER.osk_ (jE E _ _)) ER.none_
   exact ER.none_
  exact ER.none_
 ·unfold opNil;split;exact ER.same;exact ER.same;exact ER.none_
 ·unfold aBin;split
  ·unfold binInt;split;exact ER.ovl_ _;exact ER.none_
  ·unfold binStr;split;exact ER.ovl_ _;exact ER.none_
  unfold nN;split
  ·exact ER.plain_ _ _
  ·exact ER.plain_ _ _
  intro a H' h;rw[(jN h).1];exact Ext.refl _
 ·unfold fJ;split;exact ER.ovl_ _;exact ER.ovl_ _;exact ER.plain_ _ _
 ·exact ER.same
 ·exact ER.some_ (Ext.push _ _)
 ·refine ER.ovh_ ?_;unfold aMake;split
  ·split
   ·exact ER.bif_ (ER.some_ (Ext.push _ _)) ER.none_
   exact ER.none_
  exact ER.none_
 ·exact ER.ovl_ _
 ·exact ER.ovl_ _
 ·exact ER.ovl_ _
 ·exact ER.ovl_ _
 ·unfold l6;split;exact ER.ovl_ _;exact ER.lift_ _
 ·exact ER.ovl_ _
 ·exact ER.osk_ (ml E _ _ _ _)
 ·exact ER.osk_ (ml E _ _ _ _)
 ·refine ER.ovh_ ?_;unfold aRange;split;exact ER.some_ (Ext.push _ _);exact ER.none_
 ·refine ER.ovh_ ?_;unfold aNext;split
  ·split
   ·rename_i O;exact ER.bif_ (ER.some_ (Ext.put _ (E.lt O))) ER.same
   exact ER.none_
  exact ER.none_
 ·exact ER.ovl_ _
 ·unfold opCall;split
  ·unfold nZ;split
   ·unfold bLen;split;exact ER.ovl_ _;exact ER.none_
   ·unfold bAppend;split;exact ER.ovh_ (append_ext E _ _ _);exact ER.none_
   ·unfold bCopy;split;exact ER.ovh_ (copy_ext E _ _ _);exact ER.none_
   ·exact ER.plain_ _ _
   ·exact ER.plain_ _ _
   exact ER.none_
  ·unfold ij;split;exact ER.same;exact ER.none_
  exact ER.none_
 ·unfold aUn;split
  ·split;exact ER.same;exact ER.none_
  exact ER.plain_ _ _
 exact ER.none_
theorem nT(E:WF H){ρ:Operand->Value}{o:Oper}{r:AN}(h:aop P ρ o H=some (r,H')):Ext H H':=aop_er E ρ o r H' h
end ext
section
variable {P:Program} {μ:Emb} {H H':Heap} {w:World}
theorem two_of{l:List Value}{a b:Value}{E:Array Value}(h:LRel μ l E.toList)(he:l=[a,b]): ∃O T,E= #[O,T]/\VRel μ a O/\VRel μ b T:=by subst he;obtain⟨O,t,Y,ha,ht⟩:=h.cons_left;obtain⟨T,t2,Z,hb,U⟩:=ht.cons_left;have:=U.nil_left;subst this Z;exact⟨O,T,a0P.1 (by rw[Y]),ha,hb⟩
theorem one_of{l:List Value}{a:Value}{E:Array Value}(h:LRel μ l E.toList)(U:l=[a]): ∃O,E= #[O]/\VRel μ a O:=by subst U;obtain⟨O,t,T,ha,Y⟩:=h.cons_left;have:=Y.nil_left;subst this;exact⟨O,a0P.1 (by rw[T]),ha⟩
theorem OpOK.of_value{s:Sem Next}{v v':Value}(h: ∀w,s.run P w= .ok (.value v') w)(O:WRel μ H w)(E:VRel μ v v'):OpOK P μ H w s (.val v) H:=
 ⟨.value v',w,μ,h w,Post.refl O,E⟩
theorem gr{ρ ρ':Operand->Value}{x:Option Operand}(h: ∀y,x=some y->VRel μ (ρ y) (ρ' y)):
  (∀v,x.map ρ=some v->∃v',x.map ρ'=some v'/\VRel μ v v')/\(x.map ρ=none->x.map ρ'=none):=by
 cases x with
 |none=>exact⟨fun v E=>by simp at E,fun _=>rfl⟩
 |some y=>exact⟨fun v E=>by simp at E;subst E;exact⟨_,V,h y V⟩,fun O=>by simp at O⟩
set_option maxHeartbeats 4000000 in
theorem jy{ρ ρ':Operand->Value}{o:Oper}{r:AN}(U: ∀x∈o.op.operands,VRel μ (ρ x) (ρ' x))(Y:WRel μ H w)
  (hf: ∀b,H.next<=b->b<H'.next->μ b=none) (h:aop P ρ o H=some (r,H')):OpOK P μ H w (execOp ρ' o) r H':=by
 cases hk:aS o.op with
 |true=>
  obtain⟨rfl,v,v',rfl,E,hr⟩:=lf hk U h
  exact OpOK.of_value E Y hr
 |false=>
  obtain⟨a0,op,type,pos,after,Z⟩:=o
  cases op<;>simp only[aS,reduceCtorEq]at hk
  case alloc e=>
   have O:ff P e H=some (r,H'):=h
   have:=alloc_sound Y hf O
   exact this
  case box e x=>
   have O:some (AN.val (ptrTo H.next),aO H (ρ x).cells.toList none)=some (r,H'):=h
   simp only[a01,a04]at O
   obtain⟨rfl,rfl⟩:=O
   have:=box_sound (P:=P) (e:=e) Y (hf H.next (a07 _) (by simp[aO])) (U x (by simp[Op.operands]))
   exact this
  case buildSlice t n parts=>
   have O:bN P t n (ec (fun p=>(p.1,ρ p.2)) parts.toList) H=some (r,H'):=h
   rw[jO]at O
   have:=kF (ps':=parts.map fun(i,x)=>(i,ρ' x)) Y hf (by simp) (fun i x x' h1 h2=>?_) O
   ·exact this
   simp only[a1K,a1E,a1D]at h1 h2
   obtain⟨y,hy,rfl⟩:=h1
   obtain⟨z,hz,rfl⟩:=h2
   rw[hy]at hz;injection hz with hz;subst hz
   refine⟨V,U _ ?_⟩
   have:=a0n hy
   simp only[Op.operands,List.mem_toArray,a0t]
   exact⟨y,this,V⟩
  case load t a=>
   have O:eI P t (ρ a) H=some (r,H'):=h
   have:=load_sound Y (U a (by simp[Op.operands])) O
   exact this
  case store t a x=>
   have O:iL P t (ρ a) (ρ x) H=some (r,H'):=h
   have:=store_sound Y (U a (by simp[Op.operands])) (U x (by simp[Op.operands])) O
   exact this
  case convert s d x=>
   have O:fJ P ρ ⟨a0,.convert s d x,type,pos,after,Z⟩ s d (ρ x) H=some (r,H'):=h
   exact nI (o:=⟨a0,.convert s d x,type,pos,after,Z⟩) Y V U O
  case makeMap t rsv=>
   cases rsv with
   |some _=>simp[aop]at h
   |none=>
    have O:some (AN.val (.map (some H.next)),H.push (.tab []))=some (r,H'):=h
    simp only[a01,a04]at O
    obtain⟨rfl,rfl⟩:=O
    have:=nv (P:=P) t Y (hf H.next (a07 _) (by simp))
    exact this
  case makeSlice t l c=>
   have O:ovh (aMake P t (ρ l) (ρ c) H)=some (r,H'):=h
   have:=make_sound Y hf (U l (by simp[Op.operands])) (U c (by simp[Op.operands])) O
   exact this
  case slice t x lo hi mx=>
   obtain⟨a1,a2⟩:=gr (μ:=μ) (ρ:=ρ) (ρ':=ρ') (x:=lo) fun y hy=>U y (by subst hy;simp[Op.operands])
   obtain⟨b1,b2⟩:=gr (μ:=μ) (ρ:=ρ) (ρ':=ρ') (x:=hi) fun y hy=>U y (by subst hy;simp[Op.operands])
   obtain⟨_,c2⟩:=gr (μ:=μ) (ρ:=ρ) (ρ':=ρ') (x:=mx) fun y hy=>U y (by subst hy;simp[Op.operands])
   have O:ovl (bQ P t (ρ x) (lo.map ρ) (hi.map ρ) (mx.map ρ) H) H=some (r,H'):=h
   have:=slice_sound Y (U x (by simp[Op.operands])) a1 a2 b1 b2 c2 O
   exact this
  case lookup t m k ok=>
   have O:ovl (hY P t (ρ m) (ρ k) ok H) H=some (r,H'):=h
   obtain⟨rfl,v,hv,rfl⟩:=cR O
   obtain⟨v',E,hr⟩:=lookup_sound (P:=P) Y (U m (by simp[Op.operands])) (U k (by simp[Op.operands])) hv
   have:=OpOK.value E (Post.refl Y) hr
   exact this
  case mapUpdate t m k x=>
   have O:osk (hU P t (ρ m) (ρ k) (ρ x) H)=some (r,H'):=h
   obtain⟨hu,rfl⟩:=osk_inv O
   obtain⟨w',E,hp⟩:=jZ (P:=P) Y (U m (by simp[Op.operands])) (U k (by simp[Op.operands])) (U x (by simp[Op.operands])) hu
   have:=OpOK.skip E hp
   exact this
  case insert t m k x=>
   have O:osk (hU P t (ρ m) (ρ k) (ρ x) H)=some (r,H'):=h
   obtain⟨hu,rfl⟩:=osk_inv O
   obtain⟨w',E,hp⟩:=jZ (P:=P) Y (U m (by simp[Op.operands])) (U k (by simp[Op.operands])) (U x (by simp[Op.operands])) hu
   have:=OpOK.skip E hp
   exact this
  case range t x=>
   have O:ovh (aRange P t (ρ x) H)=some (r,H'):=h
   have:=range_sound Y hf (U x (by simp[Op.operands])) O
   exact this
  case next it isS=>
   cases isS with
   |false=>simp[aop]at h
   |true=>
    have O:ovh (aNext H (ρ it))=some (r,H'):=h
    have:=next_sound (P:=P) (type:=type) Y (U it (by simp[Op.operands])) O
    exact this
  case call c=>
   obtain⟨an,args,T⟩:=c
   have al:LRel μ (ec ρ args.toList) (args.map ρ').toList:=by
    rw[jO];have:=kY (μ:=μ) (ops:=args) (ρ:=ρ) (ρ':=ρ') fun x hx=>U x (by simp[Op.operands,Call.operands];exact .inr hx)
    simpa using this
   have h:opCall P ρ ⟨a0,.call ⟨an,args,T⟩,type,pos,after,Z⟩ ⟨an,args,T⟩ H=some (r,H'):=h
   unfold opCall at h
   cases an with
   |invoke rv nm=>simp at h
   |value f=>
    simp only at h
    unfold ij at h
    split at h
    ·rename_i n hn;simp only[a01,a04]at h;obtain⟨rfl,rfl⟩:=h;obtain⟨i,ch,rfl,bb,E,hr⟩:=callee_sound (P:=P) (U f (by simp[Op.operands,Call.operands])) al hn;refine⟨.enter i bb,w,μ,?_,Post.refl Y,V,hr⟩;have:=E w;simpa only[execOp,resolve] using this
    cases h
   |builtin b=>
    simp only at h
    unfold nZ at h
    have a3:bL P ρ ⟨a0,.call ⟨.builtin b,args,T⟩,type,pos,after,Z⟩ H=some (r,H')->OpOK P μ H w (execOp ρ' ⟨a0,.call ⟨.builtin b,args,T⟩,type,pos,after,Z⟩) r H':=by intro hp;obtain⟨rfl,v,v',rfl,E,hr⟩:=d4 hp (fun _ _=>by simp) U;exact OpOK.of_value E Y hr
    split at h
    ·--len
     unfold bLen at h;split at h
     ·rename_i t x ht hx;obtain⟨x',a4,ba⟩:=one_of al hx;obtain⟨rfl,v,hv,rfl⟩:=cR h;obtain⟨E,hn⟩:=len_sound (P:=P) (ty:=type) Y ba hv;have hat:T= #[t]:=a0P.1 (by rw[ht]);refine⟨.value v,w,μ,?_,Post.refl Y,.atom v hn⟩;simp only[execOp,resolve,Sem.run_bind,Sem.run_pure,Result.andThen_ok,invoke,builtin,a4,hat,E]
     cases h
    ·unfold bAppend at h;split at h
     ·rename_i t1 t2 s x ht hx;obtain⟨s',x',a4,a9,ba⟩:=two_of al hx;obtain⟨v,hv,rfl⟩:=lE h;have hat:T= #[t1,t2]:=a0P.1 (by rw[ht]);obtain⟨v',w',μ',E,hp,hr⟩:=append_sound (P:=P) (ty:=type) Y hf a9 ba (by rw[hat];rfl) hv;refine⟨.value v',w',μ',?_,hp,hr⟩;simp only[execOp,resolve,Sem.run_bind,Sem.run_pure,Result.andThen_ok,invoke,builtin,a4,E]
     cases h
    ·unfold bCopy at h;split at h
     ·rename_i d s hx;obtain⟨d',s',a4,b7,a9⟩:=two_of al hx;obtain⟨v,hv,rfl⟩:=lE h;obtain⟨v',w',E,hp,hr⟩:=copy_sound (P:=P) (ty:=type) Y b7 a9 hv;refine⟨.value v',w',μ,?_,hp,hr⟩;simp only[execOp,resolve,Sem.run_bind,Sem.run_pure,Result.andThen_ok,invoke,builtin,a4,E]
     cases h
    ·exact a3 h
    ·exact a3 h
    cases h
  all_goals simp[aop]at h
end
end Go.R
namespace Go.R
@[simp] theorem lget_nil(i:Nat):dm .nil i=undef:=rfl
@[simp] theorem lget_lset_same(t:Tr Value)(d:Nat)(v:Value):dm (lset t d v) d=v:=by simp[dm,lset]
theorem lget_lset_ne(t:Tr Value){d k:Nat}(v:Value)(h:d≠k):dm (lset t d v) k=dm t k:=by simp[dm,lset,Tr.get_set_ne _ _ h]
theorem gZ(t:Tr Value)(d k:Nat)(v:Value):dm (lset t d v) k=if d=k then v else dm t k:=by
 by_cases h:d=k
 ·subst h;simp
 rw[if_neg h,lget_lset_ne t v h]
def TRel(μ:Emb)(t:Tr Value)(n:Nat)(a:Array Value):Prop:=a.size=n/\∀i,VRel μ (dm t i) (a.getD i undef)
def GRel(μ:Emb)(G:Nat):Prop:= ∀g,g<G->∃l,μ g=some l/\l.c=g/\l.sh=0
section
variable {P:Program} {G:Nat} {μ μ':Emb}
theorem TRel.mono(h: ∀b l,μ b=some l->μ' b=some l){t:Tr Value}{n:Nat}{a:Array Value}(E:TRel μ t n a):TRel μ' t n a:=⟨E.1,fun i=>(E.2 i).mono h⟩
theorem GRel.mono(h: ∀b l,μ b=some l->μ' b=some l)(Y:GRel μ G):GRel μ' G:=fun g E=>by obtain⟨l,O,T,U⟩:=Y g E;exact⟨l,h _ _ O,T,U⟩
theorem getD_set(a:Array Value)(d i:Nat)(v:Value):(a.setIfInBounds d v).getD i undef=if d=i/\d<a.size then v else a.getD i undef:=by
 simp only[a0H,a0X];by_cases h:d=i
 ·subst h;by_cases E:d<a.size
  ·simp[E]
  simp[E]
 simp[h]
theorem TRel.put{t:Tr Value}{n:Nat}{a:Array Value}(h:TRel μ t n a){d:Nat}(hd:d<n){v v':Value}(E:VRel μ v v'):TRel μ (lset t d v) n (a.setIfInBounds d v'):=by
 refine⟨by simp[h.1],fun i=>?_⟩;rw[gZ,getD_set];by_cases hi:d=i
 ·rw[if_pos hi,if_pos ⟨hi,by rw[h.1];exact hd⟩];exact E
 rw[if_neg hi,if_neg (fun e=>hi e.1)];exact h.2 i
theorem eval_of(Y:GRel μ G){tm:Tr Value}{a:Act}{x:Operand}(E:bm G x=true)(h: ∀t,x= .tmp t->VRel μ (dm tm t) (a.tmps.getD t undef)):
  VRel μ (dQ tm x) (a.eval x):=by
 cases x with
 |tmp t=>exact h t V
 |const v=>exact VRel.refl2 E
 |global g=>
  obtain⟨l,O,T,U⟩:=Y g (a0b E)
  have:=VRel.ptr (μ:=μ) g 0 l O
  rw[T,U]at this;exact this
 |func f=>exact .atom _ V
theorem yield_eq{ops:Array Oper}{tm:Tr Value}{a:Array Value}{j:Nat}(h: ∀d,(ops[j]?).bind (·.dst)=some d->VRel μ (dm tm d) (a.getD d undef)):
  mh ops tm j=yielded ops a j:=by
 unfold mh yielded
 cases hd:(ops[j]?).bind (·.dst) with
 |none=>rfl
 |some d=>
  have E:=h d hd
  simp only[a0j]
  simp only[a0H]at E
  cases ha:a[d]? with
  |none=>
   rw[ha]at E
   simp only[Option.getD_none]at E
   have: ∀b,dm tm d≠ .bool b:=by intro b e;rw[e]at E;have:=E.bool_inv;cases this
   cases O:dm tm d<;>first|rfl|exact absurd O (this _)
  |some x=>
   rw[ha]at E
   simp only[a1c]at E
   cases x with
   |bool b=>
    have:dm tm d= .bool b:=by generalize dm tm d=y at E;cases E;rfl
    rw[this]
   |_=>
    have: ∀b,dm tm d≠ .bool b:=by intro b e;rw[e]at E;have:=E.bool_inv;cases this
    cases O:dm tm d<;>first|rfl|exact absurd O (this _)
theorem wanted_eq{ops:Array Oper}{o:Oper}{tm:Tr Value}{a:Array Value}(h: ∀j w,o.guard=some (j,w)->∀d,(ops[j]?).bind (·.dst)=some d->VRel μ (dm tm d) (a.getD d undef)):
  bg ops o tm=Region.wanted o (yielded ops a):=by
 unfold bg Region.wanted
 cases E:o.guard with
 |none=>rfl
 |some p=>
  obtain⟨j,w⟩:=p
  simp only
  rw[yield_eq (h j w E)]
def eB(P:Program)(G:Nat)(cf:cX):Prop:= ∀f args H v H',cf f args H=some (v,H')->WF H->Ext H H'/\
 ∀μ w (cargs:Array Value),LRel μ args cargs.toList->GRel μ G->WRel μ H w->(∀b,H.next<=b->b<H'.next->μ b=none)->
  Calls P f cargs w fun e w'=> ∃μ' v',e= .returned v'/\VRel μ' v v'/\Post μ H w μ' H' w'
noncomputable def eK (P : Program) (cf : cX) (ρ : Operand -> Value) (o : Oper) (H : Heap) : Option (Value × Heap) :=
 match aop P ρ o H with
 |some (.val v,h)=>some (v,h)
 |some (.skip,h)=>some (undef,h)
 |some (.enter f args,h)=>cf f args h
 |none=>none
theorem step_eq(cf:cX)(ops:Array Oper)(o:Oper)(s:St):step P G cf ops o s=
  bif bg ops o s.tmps then
   bif o.op.operands.toList.all (bm G) then
    match eK P cf (dQ s.tmps) o s.heap with
    |some (v,h)=>{s with heap:=h}.put o.dst v
    |none=>none
   else none
  else s.put o.dst undef:=by
 unfold step eK
 cases bg ops o s.tmps with
 |false=>rfl
 |true=>
  cases o.op.operands.toList.all (bm G) with
  |false=>rfl
  |true=>
   simp only[cond_true]
   cases aop P (dQ s.tmps) o s.heap with
   |none=>rfl
   |some p=>
    obtain⟨r,h⟩:=p
    cases r with
    |val v=>rfl
    |skip=>rfl
    |enter f args=>
     simp only
     cases cf f args h with
     |none=>rfl
     |some q=>rfl
theorem iJ{s O:St}{E:Option Tmp}{v:Value}(h:s.put E v=some O):
  O.size=s.size/\O.heap=s.heap/\((E=none/\O.tmps=s.tmps)\/∃d,E=some d/\d<s.size/\O.tmps=lset s.tmps d v):=by
 unfold St.put at h
 split at h
 ·rename_i d;cases T:Nat.ble (d+1) s.size with
  |false=>rw[T]at h;cases h
  |true=>
   rw[T]at h;simp only[cond_true,a01]at h;subst h
   exact⟨V,V,.inr ⟨d,V,a0b T,V⟩⟩
 injection h with h;subst h;exact⟨V,V,.inl ⟨V,V⟩⟩
theorem mM{cf:cX}(U:eB P G cf){ρ:Operand->Value}{o:Oper}{H H':Heap}{v:Value}(E:WF H)(h:eK P cf ρ o H=some (v,H')):Ext H H':=by
 unfold eK at h;split at h
 ·rename_i u O ha;simp only[a01,a04]at h;rw[←h.2];exact nT E ha
 ·rename_i O ha;simp only[a01,a04]at h;rw[←h.2];exact nT E ha
 ·rename_i f args O ha;have T:=nT E ha;exact T.trans (U f args O v H' h (E.ext T)).1
 cases h
theorem kj{cf:cX}(a6:eB P G cf){ρ:Operand->Value}{o:Oper}{a:Act}{H H':Heap}{v:Value}{w:World}(ax:WF H)(hρ: ∀x∈o.op.operands,VRel μ (ρ x) (a.eval x))
  (hG:GRel μ G) (hw:WRel μ H w) (hf: ∀b,H.next<=b->b<H'.next->μ b=none) (h:eK P cf ρ o H=some (v,H')) {K:Act->World->Prop} {Q:Exit->Act->World->Prop}
  (hK: ∀μ' w' v',Post μ H w μ' H' w'->VRel μ' v v'->K (a.put o.dst v') w'):o.wp P a w K Q:=by
 unfold eK at h
 unfold Oper.wp
 split at h
 ·rename_i u h1 ha;simp only[a01,a04]at h;obtain⟨rfl,rfl⟩:=h;obtain⟨n,w1,U,E,O,T⟩:=jy hρ hw hf ha;rw[E];cases n<;>first|exact hK U w1 _ O T|exact T.elim
 ·rename_i h1 ha;simp only[a01,a04]at h;obtain⟨rfl,rfl⟩:=h;obtain⟨n,w1,U,E,O,T⟩:=jy hρ hw hf ha;rw[E];cases n<;>first|exact hK U w1 _ O VRel.undef|exact T.elim
 ·rename_i f args h1 ha;have e1:=nT ax ha;obtain⟨e2,an⟩:=a6 f args h1 v H' h (ax.ext e1);obtain⟨n,w1,U,E,O,T⟩:=jy hρ hw (fun b Y Z=>hf b Y (a0S Z e2.next)) ha;rw[E];cases n with
  |enter f' cargs=>
   obtain⟨rfl,al⟩:=T
   rw[Oper.upon_enter]
   refine(an U w1 cargs al (hG.mono O.ext) O.wrel (fun b Y Z=>?_)).mono ?_
   ·cases hb:U b with
    |none=>rfl
    |some l=>
     rcases O.dom b l hb with hb0|⟨_,hb3⟩
     ·rw[hf b (a0g e1.next Y) Z]at hb0;cases hb0
     omega
   rintro e w2 ⟨μ2,v',rfl,hv,hp2⟩
   exact hK μ2 w2 v' (O.trans hp2 e1.next e2.next) hv
  |_=>exact T.elim
 cases h
theorem kM{cf:cX}(O:eB P G cf){ops:Array Oper}{o:Oper}{s U:St}(Z:WF s.heap)(h:step P G cf ops o s=some U):Ext s.heap U.heap:=by
 rw[step_eq]at h;cases T:bg ops o s.tmps with
 |false=>rw[T]at h;rw[(iJ h).2.1];exact Ext.refl _
 |true=>
  rw[T]at h
  cases E:o.op.operands.toList.all (bm G) with
  |false=>rw[E]at h;cases h
  |true=>
   rw[E]at h
   simp only[cond_true]at h
   split at h
   ·rename_i v h1 Y;rw[(iJ h).2.1];exact mM O Z Y
   cases h
theorem fO(a:Act)(E:Option Tmp)(v:Value):(a.put E v).defers=a.defers:=by cases E<;>rfl
theorem put_rel{s T:St}{E:Option Tmp}{v v':Value}{a:Act}(h:s.put E v=some T)(Y:TRel μ s.tmps s.size a.tmps)(Z:VRel μ v v'):
  TRel μ T.tmps T.size (a.put E v').tmps:=by
 obtain⟨U,_,⟨rfl,O⟩|⟨d,rfl,hd,O⟩⟩:=iJ h
 ·rw[U,O];exact Y
 rw[U,O];exact Y.put hd Z
theorem step_sound{cf:cX}(ar:eB P G cf){ops:Array Oper}{i:Nat}{o:Oper}(ho:ops[i]?=some o){s T:St}{a:Act}{w:World}(a3:WF s.heap)(U:TRel μ s.tmps s.size a.tmps)
  (hG:GRel μ G) (hw:WRel μ s.heap w) (hf: ∀b,s.heap.next<=b->b<T.heap.next->μ b=none) (h:step P G cf ops o s=some T) {K:Act->World->Prop} {Q:Exit->Act->World->Prop}
  (hK: ∀μ' w' Z,Post μ s.heap w μ' T.heap w'->TRel μ' T.tmps T.size Z.tmps->Z.defers=a.defers->K Z w'):wpOp P ops Q i K a w:=by
 unfold wpOp
 rw[ho]
 simp only
 have Y:bg ops o s.tmps=Region.wanted o (yielded ops a.tmps):=wanted_eq (μ:=μ) fun _ _ _ d _=>U.2 d
 rw[step_eq,Y]at h
 cases hq:Region.wanted o (yielded ops a.tmps) with
 |false=>
  rw[hq]at h
  simp only[cond_false]at h
  simp only[a0k,if_false]
  have E:=(iJ h).2.1
  exact hK μ w _ (by rw[E];exact Post.refl hw) (put_rel h U VRel.undef) (fO _ _ _)
 |true=>
  rw[hq]at h
  simp only[if_true]
  left
  cases O:o.op.operands.toList.all (bm G) with
  |false=>rw[O]at h;cases h
  |true=>
   rw[O]at h
   simp only[cond_true]at h
   split at h
   ·rename_i v h1 he;have E:=(iJ h).2.1;simp only at E;refine kj ar a3 (fun x hx=>eval_of hG (a0s.1 O x (by simpa using hx)) fun t _=>U.2 t) hG hw (by rw[←E];exact hf) he ?_;intro μ' w' v' hp hv;have a1:TRel μ' s.tmps s.size a.tmps:=U.mono hp.ext;exact hK μ' w' _ (by rw[E];exact hp) (put_rel (s:={s with heap:=h1}) h a1 hv) (fO _ _ _)
   cases h
theorem jH{cf:cX}(O:eB P G cf){ops:Array Oper}: ∀(l:List Oper) (s E:St),WF s.heap->gD P G cf ops l s=some E->Ext s.heap E.heap
 | [],s,E,_,h=>by rw[jG]at h;injection h with h;subst h;exact Ext.refl _
 |o::os,s,E,hw,h=>by
  rw[cu]at h;split at h
  ·rename_i Y U;have T:=kM O hw U;exact T.trans (jH O os Y E (hw.ext T) h)
  cases h
theorem j4{cf:cX}(O:eB P G cf){ops:Array Oper}{Q:Exit->Act->World->Prop}: ∀(l:List Oper) (k:Nat) (s E:St),ops.toList.drop k=l->gD P G cf ops l s=some E->
  ∀(μ:Emb) (a:Act) (w:World),WF s.heap->TRel μ s.tmps s.size a.tmps->GRel μ G->WRel μ s.heap w->(∀b,s.heap.next<=b->b<E.heap.next->μ b=none)->
  (∀μ' w' a',Post μ s.heap w μ' E.heap w'->TRel μ' E.tmps E.size a'.tmps->a'.defers=a.defers->Q .normal a' w')->wpOps P ops Q (List.range' k l.length) a w
 | [],k,s,E,_,h,μ,a,w,hwf,ht,hG,hw,hf,hQ=>by rw[jG]at h;injection h with h;subst h;simp only[List.length_nil,List.range'_zero,wpOps];exact hQ μ w a (Post.refl hw) ht V
 |o::os,k,s,E,hd,h,μ,a,w,hwf,ht,hG,hw,hf,hQ=>by
  rw[cu]at h;split at h
  ·rename_i s1 h1;have Y:=kM O hwf h1;have e2:=jH O os s1 E (hwf.ext Y) h;have hk:k<ops.toList.length:=by
    rcases a0c k ops.toList.length with hl|hl
    ·exact hl
    rw[a1r hl]at hd;cases hd
   have al:=a0T hk;rw[hd]at al;injection al with h2 h3;have ho:ops[k]?=some o:=by
    have:ops.toList[k]?=some o:=by rw[a09 hk,←h2]
    simpa using this
   simp only[a02,List.range'_succ];rw[wpOps_cons];refine step_sound O ho hwf ht hG hw (fun b T U=>hf b T (a0S U e2.next)) h1 ?_;intro μ1 w1 a1 Z a6 a0;refine j4 O os (k+1) s1 E h3.symm h μ1 a1 w1 (hwf.ext Y) a6 (hG.mono Z.ext) Z.wrel (fun b T U=>?_) ?_
   ·cases hb:μ1 b with
    |none=>rfl
    |some l=>
     rcases Z.dom b l hb with hb0|⟨_,hb3⟩
     ·rw[hf b (a0g Y.next T) U]at hb0;cases hb0
     omega
   intro μ2 w2 a2 a5 a7 a3;exact hQ μ2 w2 a2 (Z.trans a5 Y.next e2.next) a7 (a3.trans a0)
  cases h
end
end Go.R
set_option linter.unusedVariables false
set_option linter.unusedSimpArgs false
namespace Go.R
def mf(l:List Nat)(o:Oper):Nat:=o.after.toList.foldl (fun s e=>bif Region.binds .any e then s|||2^e.on|||l.getD e.on 0 else s) 0
theorem iW: ∀(os:List Oper) (E:List Nat),∃t,ancs os E=E++t/\t.length=os.length
 | [],E=>⟨[],by simp[ancs],V⟩
 |o::os,E=>by obtain⟨t,h,O⟩:=iW os (E++[mf E o]);refine⟨mf E o::t,?_,by simp[O]⟩;show ancs os (E++[mf E o])=_;rw[h];simp
theorem ancs_at: ∀(os:List Oper) (E:List Nat) (k:Nat) (o:Oper),os[k]?=some o->
  (ancs os E).getD (E.length+k) 0=mf ((ancs os E).take (E.length+k)) o
 | [],E,k,o,h=>by simp at h
 |x::os,E,0,o,h=>by
  simp at h;subst h;obtain⟨t,h,_⟩:=iW os (E++[mf E x]);have e:ancs (x::os) E=E++([mf E x]++t):=by show ancs os (E++[mf E x])=_;rw[h];simp
  rw[e];simp
 |x::os,E,k+1,o,h=>by have ih:=ancs_at os (E++[mf E x]) k o (by simpa using h);have e:ancs (x::os) E=ancs os (E++[mf E x]):=rfl;rw[e];simp only[a00,List.length_singleton]at ih;rw[show E.length+(k+1)=E.length+1+k by omega];exact ih
theorem fold_bit(l:List Nat)(j:Nat): ∀(es:List Edge) (s:Nat),(es.foldl (fun s e=>bif Region.binds .any e then s|||2^e.on|||l.getD e.on 0 else s) s).testBit j=true->
  s.testBit j=true\/∃e∈es,Region.binds .any e=true/\(e.on=j\/(l.getD e.on 0).testBit j=true)
 | [],s,h=> .inl h
 |e::es,s,h=>by
  simp only[List.foldl_cons]at h;rcases fold_bit l j es _ h with h1|⟨e',he,h2⟩
  ·cases hb:Region.binds .any e with
   |false=>rw[hb]at h1;exact .inl h1
   |true=>
    rw[hb]at h1
    simp only[cond_true,Nat.testBit_or,a0C]at h1
    rcases h1 with(h1|h1)|h1
    ·exact .inl h1
    ·rw[Nat.testBit_two_pow]at h1;exact .inr ⟨e,by simp,hb,.inl (by simpa using h1)⟩
    exact .inr ⟨e,by simp,hb,.inr h1⟩
  exact .inr ⟨e',by simp[he],h2⟩
theorem ordered_edge{ops:Array Oper}{j k:Nat}(h:bw (cT ops) j k=true):
  ∃o,ops[k]?=some o/\∃e∈o.after.toList,Region.binds .any e=true/\(e.on=j\/(e.on<k/\bw (cT ops) j e.on=true)):=by
 unfold bw at h
 have O:k<ops.toList.length:=by
  obtain⟨t,T,U⟩:=iW ops.toList [];rcases a0c k ops.toList.length with hlt|hge
  ·exact hlt
  have:(cT ops).getD k 0=0:=by unfold cT;rw[T,a0O,a08,a1f M];rfl
  rw[this]at h;simp at h
 have E:ops.toList[k]?=some ops.toList[k]:=a09 O
 have ha:=ancs_at ops.toList [] k _ E
 simp only[List.length_nil,a0A]at ha
 change (cT ops).getD k 0=mf ((cT ops).take k) _ at ha
 rw[ha]at h
 rcases fold_bit _ j _ 0 h with h1|⟨e,he,hb,h2⟩
 ·simp at h1
 refine⟨ops.toList[k],by rw[←Array.getElem?_toList];exact E,e,he,hb,?_⟩
 rcases h2 with h2|h2
 ·exact .inl h2
 right
 rcases a0c e.on k with hlt|hge
 ·refine⟨hlt,?_⟩;unfold bw;rw[a08,a0x,if_pos hlt,←a08]at h2;exact h2
 rw[a08,a0x,if_neg M]at h2
 simp at h2
def DC(ops:Array Oper)(S:Nat->Bool):Prop:= ∀(k:Nat) o,ops[k]?=some o->S k=true->∀e∈o.after.toList,Region.binds .any e=true->S e.on=true
theorem DC.anc{ops:Array Oper}{S:Nat->Bool}(h:DC ops S){j:Nat}: ∀(k:Nat),S k=true->bw (cT ops) j k=true->S j=true:=by
 intro k;induction k using Nat.strongRecOn with
 |_ k ih=>
  intro U Y
  obtain⟨o,E,e,T,hb,O⟩:=ordered_edge Y
  have hs:=h k o E U e T hb
  rcases O with rfl|⟨hlt,h2⟩
  ·exact hs
  exact ih e.on hlt hs h2
structure RegFacts(ops:Array Oper):Prop where
 back: ∀(j:Nat) o,ops[j]?=some o->∀e∈o.after.toList,Region.binds .any e=true->e.on<j
 pair: ∀(i j:Nat) x o,i<j->ops[i]?=some x->ops[j]?=some o->bw (cT ops) i j=true\/x.apart ops o=true
theorem regOK_facts{ops:Array Oper}(h:jg ops=true):RegFacts ops:=by
 unfold jg at h;simp only[a0s,List.mem_range]at h;refine⟨fun j o O e Y hb=>?_,fun i j x o U Z O=>?_⟩
 ·have T:j<ops.size:=(a0I.1 O).1;have:=h j T;rw[O]at this;simp only[a03,a0s]at this;have E:=this.1.1 e Y;rw[hb]at E;simp only[a1p,a1P]at E;exact a0b E
 have T:j<ops.size:=(a0I.1 O).1;have:=h j T;rw[O]at this;simp only[a03,a0s,List.mem_range]at this;have E:=this.2 i U;rw[Z]at E;simpa using E
section
variable (st:Nat->St) (vl:Nat->Value) (ops:Array Oper)
def chg(k b:Nat):Prop:=(st (k+1)).heap.get b≠(st k).heap.get b
open Classical in
noncomputable def kV (S : Nat -> Bool) : Nat -> Nat -> Option AObj
 |0,b=>(st 0).heap.get b
 |k+1,b=>if S k=true/\chg st k b then(st (k+1)).heap.get b else kV S k b
def kD(k:Nat):Option Tmp:=(ops[k]?).bind (·.dst)
open Classical in
noncomputable def tv (S : Nat -> Bool) : Nat -> Nat -> Value
 |0,t=>dm (st 0).tmps t
 |k+1,t=>if S k=true/\kD ops k=some t then vl k else tv S k t
theorem lT{S:Nat->Bool}{b i:Nat}: ∀m,(∀k,k<m->chg st k b->(S k=true↔k<i))->kV st S m b=(st (min m i)).heap.get b
 |0,_=>by simp[kV]
 |m+1,h=>by
  have ih:=lT m fun k O=>h k M
  unfold kV;by_cases E:m<i
  ·rw[show min (m+1) i=m+1 by omega];rw[show min m i=m by omega]at ih;by_cases hc:chg st m b
   ·rw[if_pos ⟨(h m M hc).2 E,hc⟩]
   rw[if_neg (fun e=>hc e.2),ih];unfold chg at hc;exact(Classical.not_not.1 hc).symm
  rw[show min (m+1) i=i by omega];rw[show min m i=i by omega]at ih;rw[if_neg (fun e=>E ((h m M e.2).1 e.1)),ih]
theorem mQ{S S':Nat->Bool}{b:Nat}: ∀m,(∀k,k<m->chg st k b->S k=S' k)->kV st S m b=kV st S' m b
 |0,_=>rfl
 |m+1,h=>by
  have ih:=mQ m fun k E=>h k M
  unfold kV;by_cases hc:chg st m b
  ·rw[h m M hc,ih]
  rw[if_neg (fun e=>hc e.2),if_neg (fun e=>hc e.2),ih]
theorem tv_eq{S:Nat->Bool}{t i:Nat}(E: ∀k,dm (st (k+1)).tmps t=if kD ops k=some t then vl k else dm (st k).tmps t):
  ∀m,(∀k,k<m->kD ops k=some t->(S k=true↔k<i))->tv st vl ops S m t=dm (st (min m i)).tmps t
 |0,_=>by simp[tv]
 |m+1,h=>by
  have ih:=tv_eq E m fun k T=>h k M
  unfold tv;by_cases O:m<i
  ·rw[show min (m+1) i=m+1 by omega];rw[show min m i=m by omega]at ih;by_cases hc:kD ops m=some t
   ·rw[if_pos ⟨(h m M hc).2 O,hc⟩,E,if_pos hc]
   rw[if_neg (fun e=>hc e.2),ih,E,if_neg hc]
  rw[show min (m+1) i=i by omega];rw[show min m i=i by omega]at ih;rw[if_neg (fun e=>O ((h m M e.2).1 e.1)),ih]
theorem tv_congr{S S':Nat->Bool}{t:Nat}: ∀m,(∀k,k<m->kD ops k=some t->S k=S' k)->tv st vl ops S m t=tv st vl ops S' m t
 |0,_=>rfl
 |m+1,h=>by
  have ih:=tv_congr m fun k E=>h k M
  unfold tv;by_cases hc:kD ops m=some t
  ·rw[h m M hc,ih]
  rw[if_neg (fun e=>hc e.2),if_neg (fun e=>hc e.2),ih]
end
structure Inv(ops:Array Oper)(st:Nat->St)(vl:Nat->Value)(μ0:Emb)(w0:World)(d0:List Deferred)(S:Nat->Bool)(μ:Emb)(a:Act)(w:World):Prop where
 dc:DC ops S
 dom: ∀b l,μ b=some l->b<(st 0).heap.next\/(∃k,k<ops.size/\S k=true/\(st k).heap.next<=b/\b<(st (k+1)).heap.next)\/(st ops.size).heap.next<=b
 obj: ∀b l o,μ b=some l->kV st S ops.size b=some o->ObjRel μ w l o
 inj: ∀b1 b2 l1 l2 o1 o2,b1≠b2->μ b1=some l1->μ b2=some l2->kV st S ops.size b1=some o1->kV st S ops.size b2=some o2->o1.rw=true->o2.live=true->l1.c≠l2.c
 size:a.tmps.size=(st 0).size
 tm: ∀t,VRel μ (tv st vl ops S ops.size t) (a.tmps.getD t undef)
 defers:a.defers=d0
 ext0: ∀b l,μ0 b=some l->μ b=some l
 dom0: ∀b l,μ b=some l->μ0 b=some l\/((st 0).heap.next<=b/\b<(st ops.size).heap.next)
 grow0:w0.heap.size<=w.heap.size
 os0:w.os=w0.os
 tape0:w.tape=w0.tape
 out0:w.output=w0.output
 keep0: ∀c,c<w0.heap.size->(∀b l o,μ0 b=some l->(st 0).heap.get b=some o->o.rw=true->l.c≠c)->w.heap[c]?=w0.heap[c]?
 img0: ∀b l o,μ b=some l->kV st S ops.size b=some o->o.live=true->
  w0.heap.size<=l.c\/∃b0 l0 o0,μ0 b0=some l0/\(st 0).heap.get b0=some o0/\o0.live=true/\(o.rw=true->o0.rw=true)/\l0.c=l.c
def kv(S:Nat->Bool)(i:Nat):Nat->Bool:=fun k=>Nat.beq k i||S k
theorem hP(S:Nat->Bool)(i:Nat):kv S i i=true:=by simp[kv]
theorem hR(S:Nat->Bool){i k:Nat}(h:k≠i):kv S i k=S k:=by
 have:Nat.beq k i=false:=by
  cases hb:Nat.beq k i with
  |false=>rfl
  |true=>exact absurd (a06 hb) h
 simp[kv,this]
theorem Inv.next{ops:Array Oper}{st:Nat->St}{vl:Nat->Value}{μ0 μ μ':Emb}{w0 w w':World}{d0:List Deferred}{S:Nat->Bool}{a:Act}{i:Nat}{H Hn:Heap}{o:Oper}{v':Value}
  (I:Inv ops st vl μ0 w0 d0 S μ a w) (hi:i<ops.size) (ho:ops[i]?=some o) (O:Post μ H w μ' Hn w') (hv:VRel μ' (vl i) v') (a9: ∀k,(st k).heap.next<=(st (k+1)).heap.next)
  (c7:(st i).heap.next<=H.next) (c8:Hn.next<=(st (i+1)).heap.next)
  (c1: ∀b l x,μ b=some l->H.get b=some x->kV st S ops.size b=some x)
  (c2: ∀b l x,μ' b=some l->Hn.get b=some x->kV st (kv S i) ops.size b=some x)
  (c3: ∀b l x,μ' b=some l->Hn.get b=none->kV st (kv S i) ops.size b=some x->μ b=some l/\H.get b=none/\kV st S ops.size b=some x)
  (cm:DC ops (kv S i)) (co: ∀d,o.dst=some d->d<(st 0).size)
  (cL: ∀t,o.dst=some t->tv st vl ops (kv S i) ops.size t=vl i) (ch: ∀t,o.dst≠some t->tv st vl ops (kv S i) ops.size t=tv st vl ops S ops.size t):
  Inv ops st vl μ0 w0 d0 (kv S i) μ' (a.put o.dst v') w':=by
 have b7: ∀k,(st 0).heap.next<=(st k).heap.next:=by
  intro k;induction k with
  |zero=>exact a07 _
  |succ k ih=>exact a0g ih (a9 k)
 have monoL: ∀j k,j<=k->(st j).heap.next<=(st k).heap.next:=by
  intro j k h;induction h with
  |refl=>exact a07 _
  |step _ ih=>exact a0g ih (a9 _)
 have c0:=monoL (i+1) ops.size hi
 have cl: ∀b l x,μ b=some l->H.get b=none->kV st S ops.size b=some x->x.live=true->w'.heap[l.c]?=w.heap[l.c]?:=by
  intro b l x hb hh hc ax;refine O.keep l.c ((I.obj b l x hb hc).lt ax) fun U l2 o2 Y b5 a0=>?_
  exact I.inj U b l2 l o2 x (fun e=>by subst e;rw[hh]at b5;cases b5) Y hb (c1 U l2 o2 Y b5) hc a0 ax
 refine⟨cm,fun b l hb=>?_,fun b l x hb hc=>?_,fun b1 U l1 l2 o1 o2 b9 a7 Y a3 T a1 a0=>?_,?_,fun t=>?_,?_,fun b l hb=>O.ext b l (I.ext0 b l hb),fun b l hb=>?_,a0g I.grow0 O.grow,
  O.os.trans I.os0,O.tape.trans I.tape0,O.out.trans I.out0,fun c hc b4=>?_,fun b l x hb hc ax=>?_⟩
 ·rcases O.dom b l hb with E|⟨E,h2⟩
  ·rcases I.dom b l E with h2|⟨k,hk,hs,Z,h4⟩|h2
   ·exact .inl h2
   ·refine .inr (.inl ⟨k,hk,?_,Z,h4⟩);unfold kv;rw[hs];simp
   exact .inr (.inr h2)
  exact .inr (.inl ⟨i,hi,hP S i,by omega,by omega⟩)
 ·cases hg:Hn.get b with
  |some y=>
   have:=c2 b l y hb hg
   rw[this]at hc;injection hc with hc;subst hc
   exact O.wrel.obj b l y hb hg
  |none=>
   obtain⟨E,h2,Z⟩:=c3 b l x hb hg hc
   exact(I.obj b l x E Z).keep O.ext O.grow (fun ax=>cl b l x E h2 Z ax)
 ·--no two blocks at one place
  cases a8:Hn.get b1 with
  |some y1=>
   have e1:=c2 b1 l1 y1 a7 a8
   rw[e1]at a3;injection a3 with a3;subst a3
   cases ar:Hn.get U with
   |some y2=>
    have e2:=c2 U l2 y2 Y ar
    rw[e2]at T;injection T with T;subst T
    exact O.wrel.inj b1 U l1 l2 y1 y2 b9 a7 Y a8 ar a1 a0
   |none=>
    obtain⟨E,h2,Z⟩:=c3 U l2 o2 Y ar T
    have cv:=(I.obj U l2 o2 E Z).lt a0
    rcases O.img b1 l1 y1 a7 a8 (iD a1) with hh|⟨b0,l0,o0,g1,g2,g3,g4,g5⟩
    ·omega
    rw[←g5]
    exact I.inj b0 U l0 l2 o0 o2 (fun e=>by subst e;rw[h2]at g2;cases g2) g1 E (c1 b0 l0 o0 g1 g2) Z (g4 a1) a0
  |none=>
   obtain⟨E,h2,Z⟩:=c3 b1 l1 o1 a7 a8 a3
   cases ar:Hn.get U with
   |some y2=>
    have e2:=c2 U l2 y2 Y ar
    rw[e2]at T;injection T with T;subst T
    have cv:=(I.obj b1 l1 o1 E Z).lt (iD a1)
    rcases O.img U l2 y2 Y ar a0 with hh|⟨b0,l0,o0,g1,g2,g3,g4,g5⟩
    ·omega
    rw[←g5]
    exact I.inj b1 b0 l1 l0 o1 o0 (fun e=>by subst e;rw[h2]at g2;cases g2) E g1 Z (c1 b0 l0 o0 g1 g2) a1 g3
   |none=>
    obtain⟨k1,k2,k3⟩:=c3 U l2 o2 Y ar T
    exact I.inj b1 U l1 l2 o1 o2 b9 E k1 Z k3 a1 a0
 ·cases hd:o.dst with
  |none=>exact I.size
  |some d=>simp only[Act.put,Array.size_setIfInBounds];exact I.size
 ·have b6:=(I.tm t).mono O.ext;cases hd:o.dst with
  |none=>rw[ch t (by rw[hd];simp)];exact b6
  |some d=>
   simp only[Act.put,getD_set]
   by_cases bl:d=t
   ·subst bl;rw[cL d hd,if_pos ⟨V,by rw[I.size];exact co d hd⟩];exact hv
   rw[ch t (by rw[hd];simpa using bl),if_neg (fun e=>bl e.1)];exact b6
 ·rw[fO];exact I.defers
 ·rcases O.dom b l hb with E|⟨E,h2⟩
  ·exact I.dom0 b l E
  exact .inr ⟨by have:=b7 i;omega,by omega⟩
 ·rw[O.keep c (a0S hc I.grow0) ?_,I.keep0 c hc b4];intro b l x hb hx hr he;rcases I.img0 b l x hb (c1 b l x hb hx) (iD hr) with hh|⟨b0,l0,o0,g1,g2,g3,g4,g5⟩
  ·omega
  exact b4 b0 l0 o0 g1 g2 (g4 hr) (g5.trans he)
 cases hg:Hn.get b with
 |some y=>
  have:=c2 b l y hb hg
  rw[this]at hc;injection hc with hc;subst hc
  rcases O.img b l y hb hg ax with hh|⟨b0,l0,o0,g1,g2,g3,g4,g5⟩
  ·exact .inl (a0g I.grow0 hh)
  rcases I.img0 b0 l0 o0 g1 (c1 b0 l0 o0 g1 g2) g3 with hh|⟨b3,l3,o3,e1,e2,e3,e4,e5⟩
  ·exact .inl (g5▸hh)
  exact .inr ⟨b3,l3,o3,e1,e2,e3,fun hx=>e4 (g4 hx),e5.trans g5⟩
 |none=>
  obtain⟨E,h2,Z⟩:=c3 b l x hb hg hc
  exact I.img0 b l x E Z ax
end Go.R
namespace Go.R
section
variable {P:Program} {G:Nat}
def n8(ρ:Operand->Value)(o:Oper)(b:Nat):Prop:=
 (∃t a off,o.op= .load t a/\ρ a= .pointer (some ⟨b,off,none⟩))\/
 (∃t x lo hi E off n k,o.op= .slice t x lo hi E/\ρ x= .slice (some ⟨b,off,none⟩) n k)
def NilCut(ρ:Operand->Value)(o:Oper):Prop:=(∃t x lo hi E n k,o.op= .slice t x lo hi E/\ρ x= .slice none n k)\/
 (∃xs ts x,o.op= .call ⟨.builtin .len,xs,ts⟩/\ec ρ xs.toList=[x]/\((∃a n k,x= .slice a n k)\/∃s,x= .string s))
structure OpFact(P:Program)(G:Nat)(cf:cX)(ops:Array Oper)(o:Oper)(s s':St)(v:Value)(f:Inf):Prop where
 size:s'.size=s.size
 tm: ∀t,dm s'.tmps t=if o.dst=some t then v else dm s.tmps t
 dlt: ∀d,o.dst=some d->d<s.size
 next:s.heap.next<=s'.heap.next
 far: ∀b,s'.heap.next<=b->s'.heap.get b=s.heap.get b
 how:(bg ops o s.tmps=false/\v=undef/\f= .v/\s'.heap.next=s.heap.next/\∀b,s'.heap.get b=s.heap.get b)\/
  (bg ops o s.tmps=true/\o.op.operands.toList.all (bm G)=true/\∃H1 H2,(∀b,H1.get b=s.heap.get b)/\H1.next=s.heap.next/\
   eK P cf (dQ s.tmps) o H1=some (v,H2)/\(∀b,s'.heap.get b=H2.get b)/\s'.heap.next=H2.next/\
   ((f= .v/\(aS o.op=true\/NilCut (dQ s.tmps) o))\/(f= .a s.heap.next/\eF o.op=true)\/
    (∃b,f= .l b/\n8 (dQ s.tmps) o b)\/
    (∃w,f= .x w/\(∀b,b∈w->b<s.heap.next)/\∀b,b<s.heap.next->b∉w->s'.heap.get b=s.heap.get b)))
theorem gX{n b:Nat}: ∀{l:List Nat},b∈d8 n l↔b∈l/\b<n
 | []=>by simp[d8]
 |c::l=>by
  unfold d8;cases T:Nat.ble n c with
  |true=>
   have:=a0b T
   simp only[cond_true,a0m]
   rw[gX (l:=l)]
   constructor
   ·rintro⟨E,O⟩;exact⟨.inr E,O⟩
   rintro⟨rfl|E,O⟩
   ·omega
   exact⟨E,O⟩
  |false=>
   have Y: ¬n<=c:=fun U=>by rw[a0q U]at T;cases T
   simp only[cond_false,a0m]
   rw[gX (l:=l)]
   constructor
   ·rintro(rfl|⟨E,O⟩)
    ·exact⟨.inl V,by omega⟩
    exact⟨.inr E,O⟩
   rintro⟨rfl|E,O⟩
   ·exact .inl V
   exact .inr ⟨E,O⟩
theorem loadV_spot{P:Program}{H:Heap}{t:TypeId}{p:Addr}{v:Value}(h:H.loadV P t p=some v):p.spot=none:=by
 obtain⟨b,o,E⟩:=p;cases E with
 |none=>rfl
 |some _=>
  unfold Heap.loadV at h
  split at h
  ·split at h
   ·simp[Heap.loadN]at h
   cases h
  ·simp[Heap.cellAt]at h
  cases h
theorem loadV_congr{H H':Heap}{t:TypeId}{b off:Nat}(h:H.get b=H'.get b):H.loadV P t ⟨b,off,none⟩=H'.loadV P t ⟨b,off,none⟩:=by unfold Heap.loadV Heap.loadN Heap.cellAt;simp only[h]
theorem loadV_some{H:Heap}{t:TypeId}{b off:Nat}{v:Value}(h:H.loadV P t ⟨b,off,none⟩=some v): ∃x,H.get b=some x:=by
 cases E:H.get b with
 |some x=>exact⟨x,V⟩
 |none=>
  unfold Heap.loadV Heap.loadN Heap.cellAt at h
  simp only[E]at h
  split at h
  ·split at h<;>cases h
  ·cases h
  cases h
theorem aSlice_spot{P:Program}{H:Heap}{t:TypeId}{p:Addr}{n k:Nat}{lo hi E:Option Value}{v:Value}(h:bQ P t (.slice (some p) n k) lo hi E H=some v):p.spot=none:=by
 obtain⟨b,o,O⟩:=p;cases O with
 |none=>rfl
 |some _=>
  unfold bQ at h
  split at h
  ·cases h
  split at h<;>simp_all
theorem aSlice_get{P:Program}{H:Heap}{t:TypeId}{b off n k:Nat}{lo hi T:Option Value}{v:Value}(h:bQ P t (.slice (some ⟨b,off,none⟩) n k) lo hi T H=some v):
  ∃E,H.get b=some E/\∀O:Heap,O.get b=some E->bQ P t (.slice (some ⟨b,off,none⟩) n k) lo hi T O=some v:=by
 cases Y:H.get b with
 |some E=>
  refine⟨E,V,fun O U=>?_⟩
  rw[←h]
  unfold bQ
  cases T with
  |some _=>rfl
  |none=>
   cases P.underlying t with
   |none=>rfl
   |some d=>cases d<;>first|rfl|simp only[U,Y]
 |none=>
  exfalso
  unfold bQ at h
  split at h
  ·cases h
  split at h<;>simp_all
theorem eW{P:Program}{ρ:Operand->Value}{o:Oper}{b:Nat}{H H':Heap}{r:AN}(hr:n8 ρ o b)(h:aop P ρ o H=some (r,H')):
  ∃v O,r= .val v/\H'=H/\H.get b=some O/\∀U:Heap,U.get b=some O->aop P ρ o U=some (.val v,U):=by
 rcases hr with⟨t,a,off,Y,ha⟩|⟨t,x,lo,hi,mx,off,n,k,Y,hx⟩
 ·have E: ∀H,aop P ρ o H=eI P t (ρ a) H:=fun H=>by unfold aop;rw[Y]
  rw[E,ha]at h;unfold eI at h;simp only at h;obtain⟨rfl,v,Z,rfl⟩:=cR h;obtain⟨O,T⟩:=loadV_some Z;refine⟨v,O,V,V,T,fun U h2=>?_⟩;rw[E,ha];unfold eI;simp only;rw[loadV_congr (H':=H') (by rw[h2,T]),Z];rfl
 have E: ∀H,aop P ρ o H=ovl (bQ P t (ρ x) (lo.map ρ) (hi.map ρ) (mx.map ρ) H) H:=fun H=>by unfold aop;rw[Y]
 rw[E,hx]at h
 obtain⟨rfl,v,Z,rfl⟩:=cR h
 obtain⟨O,T,an⟩:=aSlice_get Z
 refine⟨v,O,V,V,T,fun U h2=>?_⟩
 rw[E,hx,an U h2]
 rfl
theorem reads_sound{P:Program}{μ:Emb}{ρ ρ':Operand->Value}{o:Oper}{b:Nat}{H:Heap}{w:World}{v:Value}(hr:n8 ρ o b)(hρ: ∀x∈o.op.operands,VRel μ (ρ x) (ρ' x))(hw:WRel μ H w)
  (h:aop P ρ o H=some (.val v,H)): ∃v',(execOp ρ' o).run P w= .ok (.value v') w/\VRel μ v v':=by
 rcases hr with⟨t,a,off,E,ha⟩|⟨t,x,lo,hi,mx,off,n,k,E,hx⟩
 ·have T: ∀H,aop P ρ o H=eI P t (ρ a) H:=fun H=>by unfold aop;rw[E]
  rw[T,ha]at h;unfold eI at h;simp only at h;obtain⟨_,v1,hv,O⟩:=cR h;injection O with O;subst O;have ar:VRel μ (ρ a) (ρ' a):=hρ a (by rw[E];simp[Op.operands]);rw[ha]at ar;obtain⟨l,hμ,a0⟩:=ar.ptr_inv;obtain⟨v',U,Y⟩:=iO (P:=P) hw hμ hv;refine⟨v',?_,Y⟩;obtain⟨ax,op,type,pos,after,an⟩:=o;simp only at E;subst E;simp only[execOp,a0,Instr.loadAt,Instr.sureAddr,Sem.run_bind,Sem.run_pure,Result.andThen_ok,U]
 have T: ∀H,aop P ρ o H=ovl (bQ P t (ρ x) (lo.map ρ) (hi.map ρ) (mx.map ρ) H) H:=fun H=>by unfold aop;rw[E]
 rw[T]at h
 obtain⟨ax,op,type,pos,after,an⟩:=o
 simp only at E
 subst E
 obtain⟨a1,a2⟩:=gr (μ:=μ) (ρ:=ρ) (ρ':=ρ') (x:=lo) fun y Z=>hρ y (by subst Z;simp[Op.operands])
 obtain⟨b1,b2⟩:=gr (μ:=μ) (ρ:=ρ) (ρ':=ρ') (x:=hi) fun y Z=>hρ y (by subst Z;simp[Op.operands])
 obtain⟨_,c2⟩:=gr (μ:=μ) (ρ:=ρ) (ρ':=ρ') (x:=mx) fun y Z=>hρ y (by subst Z;simp[Op.operands])
 obtain⟨v1,v',O,_,U,Y⟩:=ln (P:=P) hw (hρ x (by simp[Op.operands])) a1 a2 b1 b2 c2 h
 injection O with O;subst O
 refine⟨v',?_,Y⟩
 simp only[execOp,Sem.run_bind,U,Result.andThen_ok,Sem.run_pure]
theorem reads_loc{μ:Emb}{ρ ρ':Operand->Value}{o:Oper}{b:Nat}(Y:n8 ρ o b)(U: ∀x∈o.op.operands,VRel μ (ρ x) (ρ' x)): ∃l,μ b=some l:=by
 rcases Y with⟨t,a,off,O,ha⟩|⟨t,x,lo,hi,mx,off,n,k,O,Z⟩
 ·have E:VRel μ (ρ a) (ρ' a):=U a (by rw[O];simp[Op.operands]);rw[ha]at E;obtain⟨l,T,_⟩:=E.ptr_inv;exact⟨l,T⟩
 have E:VRel μ (ρ x) (ρ' x):=U x (by rw[O];simp[Op.operands]);rw[Z]at E;obtain⟨l,T,_⟩:=E.slice_inv;exact⟨l,T⟩
theorem stepD_fact{cf:cX}(a8:eB P G cf){ops:Array Oper}{o:Oper}{s s':St}{f:Inf}(hw:WF s.heap)(h:iB P G cf ops o s=some (s',f)):
  ∃v,OpFact P G cf ops o s s' v f:=by
 unfold iB at h
 split at h
 case h_2=>cases h
 rename_i t E
 simp only[a01,a04]at h
 obtain⟨rfl,rfl⟩:=h
 have a9:WF {s.heap with log:=[]}:=hw
 have ext:=kM a8 (s:={s with heap:={s.heap with log:=[]}}) a9 E
 rw[step_eq]at E
 cases hq:bg ops o s.tmps with
 |false=>
  rw[hq]at E
  simp only[cond_false]at E
  obtain⟨h1,U,h3⟩:=iJ E
  refine⟨undef,h1,?_,?_,by rw[U];exact a07 _,fun b _=>by rw[U];rfl,.inl ⟨hq,V,by unfold eG;rw[hq];rfl,by rw[U],fun b=>by rw[U];rfl⟩⟩
  ·intro k;rcases h3 with⟨O,h5⟩|⟨d,O,hd,h5⟩
   ·simp[O,h5]
   rw[O];simp only[h5,gZ,a01]
  intro d hd
  rcases h3 with⟨O,_⟩|⟨d',O,a2,_⟩
  ·rw[O]at hd;cases hd
  rw[O]at hd;injection hd with hd;subst hd;exact a2
 |true=>
  rw[hq]at E
  cases a4:o.op.operands.toList.all (bm G) with
  |false=>rw[a4]at E;cases E
  |true=>
   rw[a4]at E
   simp only[cond_true]at E
   split at E
   case h_2=>cases E
   rename_i v H2 Y
   obtain⟨h1,U,h3⟩:=iJ E
   simp only at U
   have ax:Ext {s.heap with log:=[]} H2:=mM a8 a9 Y
   refine⟨v,h1,?_,?_,by simp only[U];exact ax.next,fun b hb=>by simp only[U]at hb⊢;exact ax.far b hb,.inr ⟨hq,a4,{s.heap with log:=[]},H2,fun _=>rfl,rfl,Y,fun b=>by simp only[U];rfl,by simp only[U],?_⟩⟩
   ·intro k;rcases h3 with⟨O,h5⟩|⟨d,O,hd,h5⟩
    ·simp[O,h5]
    rw[O];simp only[h5,gZ,a01]
   ·intro d hd;rcases h3 with⟨O,_⟩|⟨d',O,a2,_⟩
    ·rw[O]at hd;cases hd
    rw[O]at hd;injection hd with hd;subst hd;exact a2
   ·--which kind
    have hx:(∃w,Inf.x (d8 s.heap.next t.heap.log)= .x w/\(∀b,b∈w->b<s.heap.next)/\∀b,b<s.heap.next->b∉w->t.heap.get b=s.heap.get b):=by
     refine⟨_,V,fun b hb=>(gX.1 hb).2,fun b hb hn=>?_⟩;obtain⟨d,hd,a5⟩:=ax.log;rw[U];refine a5 b hb fun hm=>hn (gX.2 ⟨?_,hb⟩)
     rw[U,hd,a0p];exact hm
    unfold eG;rw[hq];cases hv:aS o.op with
    |true=>exact .inl ⟨V,.inl V⟩
    |false=>
     simp only[a1p,Bool.or_false,cond_false]
     cases b6:eF o.op with
     |true=>exact .inr (.inl ⟨V,V⟩)
     |false=>
      simp only[cond_false]
      split
      ·rename_i ty a T;split
       ·rename_i p Z;have al:p.spot=none:=by
         unfold eK at Y;have ar:aop P (dQ s.tmps) o {s.heap with log:=[]}=eI P ty (dQ s.tmps a) {s.heap with log:=[]}:=by unfold aop;rw[T]
         rw[ar,Z]at Y;unfold eI at Y;simp only at Y;cases hl:Heap.loadV P {s.heap with log:=[]} ty p with
         |none=>rw[hl]at Y;simp[ovl]at Y
         |some u=>exact loadV_spot hl
        obtain⟨b,off,sp⟩:=p;simp only at al;subst al;exact .inr (.inr (.inl ⟨b,V,.inl ⟨ty,a,off,T,Z⟩⟩))
       exact .inr (.inr (.inr hx))
      ·rename_i ty x lo hi mx T;split
       ·rename_i p n k Z;have al:p.spot=none:=by
         unfold eK at Y;have ar:aop P (dQ s.tmps) o {s.heap with log:=[]}=ovl (bQ P ty (dQ s.tmps x) (lo.map (dQ s.tmps)) (hi.map (dQ s.tmps)) (mx.map (dQ s.tmps)) {s.heap with log:=[]}) {s.heap with log:=[]}:=by unfold aop;rw[T]
         rw[ar,Z]at Y;cases hl:bQ P ty (.slice (some p) n k) (lo.map (dQ s.tmps)) (hi.map (dQ s.tmps)) (mx.map (dQ s.tmps)) {s.heap with log:=[]} with
         |none=>rw[hl]at Y;simp[ovl]at Y
         |some u=>exact aSlice_spot hl
        obtain⟨b,off,sp⟩:=p;simp only at al;subst al;exact .inr (.inr (.inl ⟨b,V,.inr ⟨ty,x,lo,hi,mx,off,n,k,T,Z⟩⟩))
       ·rename_i n k Z;exact .inl ⟨V,.inr (.inl ⟨ty,x,lo,hi,mx,n,k,T,Z⟩)⟩
       exact .inr (.inr (.inr hx))
      ·rename_i xs ts T;split
       ·rename_i a n k Z;exact .inl ⟨V,.inr (.inr ⟨xs,ts,_,T,Z,.inl ⟨a,n,k,V⟩⟩)⟩
       ·rename_i b0 Z;exact .inl ⟨V,.inr (.inr ⟨xs,ts,_,T,Z,.inr ⟨b0,V⟩⟩)⟩
       exact .inr (.inr (.inr hx))
      exact .inr (.inr (.inr hx))
theorem lB{ρ:Operand->Value}{o:Oper}{H H':Heap}{r:AN}(h:bL P ρ o H=some (r,H')):H'=H/\∃v,r= .val v:=by
 unfold bL at h;cases O:o.op.operands.toList.all fun x=>jM (ρ x) with
 |false=>rw[O]at h;cases h
 |true=>
  rw[O]at h
  simp only[cond_true]at h
  split at h
  ·rename_i v T;cases E:noA2 v with
   |false=>rw[E]at h;cases h
   |true=>
    rw[E]at h;simp only[cond_true,a01,a04]at h
    exact⟨h.2.symm,v,h.1.symm⟩
  cases h
theorem lift_val{s:Sem Value}{H H':Heap}{r:AN}(h:lift P s H=some (r,H')):H'=H/\∃v,r= .val v:=by obtain⟨E,v,O,_⟩:=lL h;exact⟨E,v,O⟩
theorem gn{x:Option Value}{H H':Heap}{r:AN}(h:ovl x H=some (r,H')):H'=H/\∃v,r= .val v:=by obtain⟨E,v,_,O⟩:=cR h;exact⟨E,v,O⟩
theorem gh{v:Value}{H H':Heap}{r:AN}(h:some (AN.val v,H)=some (r,H')):H'=H/\∃v,r= .val v:=by simp only[a01,a04]at h;exact⟨h.2.symm,v,h.1.symm⟩
theorem aop_value{ρ:Operand->Value}{o:Oper}{H H':Heap}{r:AN}(Z:aS o.op=true)(h:aop P ρ o H=some (r,H')):H'=H/\∃v,r= .val v:=by
 obtain⟨T,op,type,pos,after,O⟩:=o;cases op<;>simp only[aS,a0k]at Z
 case move x=>exact gh (v:=ρ x) h
 case assign x=>exact gh (v:=ρ x) h
 case pick c a b=>
  have E:gW ρ c a b H=some (r,H'):=h
  unfold gW at E
  split at E
  ·exact gh E
  cases E
 case build t parts=>
  have E:iM P t (parts.map fun p=>(p.1,ρ p.2)) H=some (r,H'):=h
  unfold iM at E
  split at E
  ·exact lift_val E
  cases E
 case nilCheck x=>
  have E:opNil (ρ x) H=some (r,H'):=h
  unfold opNil at E
  split at E
  ·exact gh E
  ·exact gh E
  cases E
 case binOp op t x y yt=>
  have E:aBin P ρ ⟨T,.binOp op t x y yt,type,pos,after,O⟩ op t (ρ x) y H=some (r,H'):=h
  unfold aBin at E
  split at E
  ·unfold binInt at E;split at E
   ·exact gn E
   cases E
  ·unfold binStr at E;split at E
   ·exact gn E
   cases E
  unfold nN at E;split at E
  ·exact lB E
  ·exact lB E
  obtain⟨Y,b,_,hc⟩:=jN E
  rcases hc with⟨_,U⟩|⟨_,U⟩
  ·exact⟨Y,_,U⟩
  exact⟨Y,_,U⟩
 case unOp op t x=>
  have E:aUn P ρ ⟨T,.unOp op t x,type,pos,after,O⟩ op (ρ x) H=some (r,H'):=h
  unfold aUn at E
  split at E
  ·split at E
   ·exact gh E
   cases E
  exact lB E
 case makeFunc fn first captured=>exact gh (v:= .func fn (first.map ρ) (captured.map ρ)) h
 case fieldAddr s x f=>
  have E:ovl (jz P s (ρ x) f) H=some (r,H'):=h
  exact gn E
 case field t x f=>
  have E:ovl (iX P t (ρ x) f) H=some (r,H'):=h
  exact gn E
 case indexAddr t x i=>
  have E:ovl (dP P t (ρ x) (ρ i)) H=some (r,H'):=h
  exact gn E
 case index t x i=>
  have E:l6 P t (ρ x) (ρ i) H=some (r,H'):=h
  unfold l6 at E
  split at E
  ·exact gn E
  exact lift_val E
 case extract x i=>
  have E:ovl (iv (ρ x) i) H=some (r,H'):=h
  exact gn E
theorem mj{ρ:Operand->Value}{o:Oper}{H H':Heap}{r:AN}(E:aS o.op=true)(h:aop P ρ o H=some (r,H')):H'=H:=by have:=aop_value E h;exact this.1
theorem lc{ρ:Operand->Value}{o:Oper}{H H':Heap}{r:AN}(E:aS o.op=true)(h:aop P ρ o H=some (r,H')): ∃v,r= .val v:=(aop_value E h).2
theorem fV{ρ:Operand->Value}{o:Oper}{H H':Heap}{r:AN}(hk:eF o.op=true)(h:aop P ρ o H=some (r,H')):
  ∃v U,r= .val v/\H'=H.push U/\∀O:Heap,O.next=H.next->aop P ρ o O=some (.val v,O.push U):=by
 obtain⟨ar,op,type,pos,after,an⟩:=o
 cases op<;>simp only[eF,a0k]at hk
 case alloc e=>
  have E:ff P e H=some (r,H'):=h
  unfold ff at E
  split at E
  ·rename_i z Z;simp only[a01,a04]at E;obtain⟨rfl,rfl⟩:=E;refine⟨_,_,V,V,fun O T=>?_⟩;show ff P e O=_;unfold ff;rw[Z,T];rfl
  cases E
 case box e x=>
  have E:some (AN.val (ptrTo H.next),aO H (ρ x).cells.toList none)=some (r,H'):=h
  simp only[a01,a04]at E
  obtain⟨rfl,rfl⟩:=E
  refine⟨_,_,V,V,fun O T=>?_⟩
  show some (AN.val (ptrTo O.next),aO O (ρ x).cells.toList none)=_
  rw[T];rfl
 case buildSlice t n parts=>
  have E:bN P t n (ec (fun p=>(p.1,ρ p.2)) parts.toList) H=some (r,H'):=h
  unfold bN at E
  split at E
  ·rename_i sz z Z;cases Y:Nat.ble (n *sz) 16777216 with
   |false=>rw[Y]at E;cases E
   |true=>
    rw[Y]at E
    simp only[cond_true]at E
    split at E
    ·rename_i cells hc;simp only[a01,a04]at E;obtain⟨rfl,rfl⟩:=E;refine⟨_,_,V,V,fun O T=>?_⟩;show bN P t n (ec (fun p=>(p.1,ρ p.2)) parts.toList) O=_;unfold bN;rw[Z];simp only[Y,cond_true,hc,T];rfl
    cases E
  cases E
 case makeMap t rsv=>
  cases rsv with
  |some _=>simp at hk
  |none=>
   have E:some (AN.val (.map (some H.next)),H.push (.tab []))=some (r,H'):=h
   simp only[a01,a04]at E
   obtain⟨rfl,rfl⟩:=E
   refine⟨_,_,V,V,fun O T=>?_⟩
   show some (AN.val (.map (some O.next)),O.push (.tab []))=_
   rw[T]
def bare(n:Nat):Heap:={tr:= .nil,next:=n,log:=[]}
theorem eV(n b:Nat):(bare n).get b=none:=rfl
theorem kX(μ:Emb)(n:Nat)(w:World):WRel μ (bare n) w:=
 ⟨(fun b l o _ h=>by rw[eV]at h;cases h),(fun E O l1 T U Y _ _ _ h=>by rw[eV]at h;cases h)⟩
theorem aSlice_nil{t:TypeId}{n k:Nat}{lo hi E:Option Value}(H O:Heap):bQ P t (.slice none n k) lo hi E H=bQ P t (.slice none n k) lo hi E O:=by
 unfold bQ;cases E with
 |some _=>rfl
 |none=>
  cases P.underlying t with
  |none=>rfl
  |some d=>cases d<;>first|rfl|(cases n<;>cases k<;>rfl)
theorem fh{ρ:Operand->Value}{o:Oper}{H H':Heap}{r:AN}(T:NilCut ρ o)(h:aop P ρ o H=some (r,H')):H'=H/\∃v,r= .val v:=by
 rcases T with⟨t,x,lo,hi,Y,n,k,O,U⟩|⟨xs,ts,x,O,U,_⟩
 ·have E: ∀H,aop P ρ o H=ovl (bQ P t (ρ x) (lo.map ρ) (hi.map ρ) (Y.map ρ) H) H:=fun H=>by unfold aop;rw[O]
  rw[E]at h;exact gn h
 have E:aop P ρ o H=bLen P ts (ec ρ xs.toList) H:=by unfold aop;rw[O];rfl
 rw[E]at h;unfold bLen at h;split at h
 ·exact gn h
 cases h
theorem aLen_any{t:TypeId}{x:Value}(O:(∃a n k,x= .slice a n k)\/∃s,x= .string s)(H E:Heap):aLen P t x H=aLen P t x E:=by
 rcases O with⟨a,n,k,rfl⟩|⟨s,rfl⟩<;>(unfold aLen;cases P.underlying t with
  |none=>rfl
  |some d=>cases d<;>rfl)
theorem nilcut_sound{μ:Emb}{ρ ρ':Operand->Value}{o:Oper}{H:Heap}{v:Value}(hr:NilCut ρ o)(hρ: ∀x∈o.op.operands,VRel μ (ρ x) (ρ' x))(h:aop P ρ o H=some (.val v,H))(w:World):
  ∃v',(execOp ρ' o).run P w= .ok (.value v') w/\VRel μ v v':=by
 rcases hr with hr|⟨xs,ts,x,E,hxs,Y⟩
 rotate_left
 ·have T:aop P ρ o H=bLen P ts (ec ρ xs.toList) H:=by unfold aop;rw[E];rfl
  rw[T,hxs]at h;obtain⟨a5,op,type,pos,after,ar⟩:=o;simp only at E;subst E;unfold bLen at h;split at h
  ·rename_i t x1 ht a0;simp only[List.cons.injEq,and_true]at a0;subst a0;obtain⟨_,v1,Z,O⟩:=cR h;injection O with O;subst O;rw[aLen_any Y H (bare 0)]at Z;have ax:LRel μ (ec ρ xs.toList) (xs.map ρ').toList:=by
    rw[jO];have:=kY (μ:=μ) (ops:=xs) (ρ:=ρ) (ρ':=ρ') fun x Y=>hρ x (by simp[Op.operands,Call.operands];exact Y)
    simpa using this
   obtain⟨x',a7,a8⟩:=one_of ax hxs;obtain⟨U,hn⟩:=len_sound (P:=P) (ty:=type) (kX μ 0 w) a8 Z;have hat:ts= #[t]:=a0P.1 (by rw[ht]);refine⟨v,?_,.atom v hn⟩;simp only[execOp,resolve,Sem.run_bind,Sem.run_pure,Result.andThen_ok,invoke,builtin,a7,hat,U]
  cases h
 obtain⟨t,x,lo,hi,mx,n,k,E,Y⟩:=hr
 have T: ∀H,aop P ρ o H=ovl (bQ P t (ρ x) (lo.map ρ) (hi.map ρ) (mx.map ρ) H) H:=fun H=>by unfold aop;rw[E]
 rw[T,Y]at h
 obtain⟨_,v1,Z,O⟩:=cR h
 rw[aSlice_nil H (bare 0)]at Z
 have h2:ovl (bQ P t (ρ x) (lo.map ρ) (hi.map ρ) (mx.map ρ) (bare 0)) (bare 0)=some (.val v,bare 0):=by rw[Y,Z,O];rfl
 obtain⟨a5,op,type,pos,after,ar⟩:=o
 simp only at E
 subst E
 obtain⟨a1,a2⟩:=gr (μ:=μ) (ρ:=ρ) (ρ':=ρ') (x:=lo) fun y hy=>hρ y (by subst hy;simp[Op.operands])
 obtain⟨b1,b2⟩:=gr (μ:=μ) (ρ:=ρ) (ρ':=ρ') (x:=hi) fun y hy=>hρ y (by subst hy;simp[Op.operands])
 obtain⟨_,c2⟩:=gr (μ:=μ) (ρ:=ρ) (ρ':=ρ') (x:=mx) fun y hy=>hρ y (by subst hy;simp[Op.operands])
 obtain⟨v1,v',O,_,U,a6⟩:=ln (P:=P) (kX μ 0 w) (hρ x (by simp[Op.operands])) a1 a2 b1 b2 c2 h2
 injection O with O;subst O
 refine⟨v',?_,a6⟩
 simp only[execOp,Sem.run_bind,U,Result.andThen_ok,Sem.run_pure]
theorem either_heap{ρ:Operand->Value}{o:Oper}{H H':Heap}{r:AN}(E:aS o.op=true\/NilCut ρ o)(h:aop P ρ o H=some (r,H')):H'=H:=by
 rcases E with E|E
 ·exact mj E h
 exact(fh E h).1
theorem mN{ρ:Operand->Value}{o:Oper}{H H':Heap}{r:AN}(E:aS o.op=true\/NilCut ρ o)(h:aop P ρ o H=some (r,H')): ∃v,r= .val v:=by
 rcases E with E|E
 ·exact lc E h
 exact(fh E h).2
structure Trace(P:Program)(G:Nat)(cf:cX)(ops:Array Oper)(st:Nat->St)(vl:Nat->Value)(nf:Nat->Inf):Prop where
 fact: ∀k o,ops[k]?=some o->OpFact P G cf ops o (st k) (st (k+1)) (vl k) (nf k)
 past: ∀k,ops.size<=k->st (k+1)=st k
 comp: ∀j k,j<k->k<ops.size->bw (cT ops) j k=true\/eL (nf j) (nf k)=true
 reg:RegFacts ops
 wf: ∀k,WF (st k).heap
section
variable {cf:cX} {ops:Array Oper} {st:Nat->St} {vl:Nat->Value} {nf:Nat->Inf}
theorem Trace.mono(T:Trace P G cf ops st vl nf)(k:Nat):(st k).heap.next<=(st (k+1)).heap.next:=by
 rcases a0c k ops.size with h|h
 ·exact(T.fact k ops[k] (a0B h)).next
 rw[T.past k h];exact a07 _
theorem Trace.monoL(T:Trace P G cf ops st vl nf){j k:Nat}(h:j<=k):(st j).heap.next<=(st k).heap.next:=by
 induction h with
 |refl=>exact a07 _
 |step _ ih=>exact a0g ih (T.mono _)
theorem Trace.sizeL(T:Trace P G cf ops st vl nf)(k:Nat):(st k).size=(st 0).size:=by
 induction k with
 |zero=>rfl
 |succ k ih=>
  rcases a0c k ops.size with h|h
  ·rw[(T.fact k ops[k] (a0B h)).size,ih]
  rw[T.past k h,ih]
theorem Trace.tm(T:Trace P G cf ops st vl nf)(k t:Nat):dm (st (k+1)).tmps t=if kD ops k=some t then vl k else dm (st k).tmps t:=by
 unfold kD;rcases a0c k ops.size with h|h
 ·have E:=a0B h;rw[(T.fact k ops[k] E).tm t,E];rfl
 rw[T.past k h,Array.getElem?_eq_none h];simp
theorem Trace.chg(T:Trace P G cf ops st vl nf){k b:Nat}(h:chg st k b):
  k<ops.size/\((st k).heap.next<=b/\b<(st (k+1)).heap.next\/∃w,nf k= .x w/\b∈w/\b<(st k).heap.next):=by
 have hk:k<ops.size:=by
  rcases a0c k ops.size with hk|hk
  ·exact hk
  exfalso;unfold R.chg at h;rw[T.past k hk]at h;exact h V
 refine⟨hk,?_⟩
 have F:=T.fact k ops[k] (a0B hk)
 have a4:b<(st (k+1)).heap.next:=by
  rcases a0c b (st (k+1)).heap.next with U|U
  ·exact U
  exact absurd (F.far b U) h
 rcases a0c b (st k).heap.next with hb|hb
 ·right;rcases F.how with⟨_,_,_,_,hs⟩|⟨_,_,H1,H2,ar,a6,O,Z,a7,a1⟩
  ·exact absurd (hs b) h
  rcases a1 with⟨hf,hv⟩|⟨hf,hv⟩|⟨b',hf,ax⟩|⟨w,hf,a8,a3⟩
  ·--a value operation changes nothing
   exfalso;unfold eK at O;split at O
   ·rename_i u U E;simp only[a01,a04]at O;have:=(either_heap hv E)
    rw[←O.2,this]at Z;exact h (by rw[Z b,ar b])
   ·rename_i U E;have:=(mN hv E)
    obtain⟨_,Y⟩:=this;cases Y
   ·rename_i f args U E;obtain⟨_,Y⟩:=mN hv E;cases Y
   cases O
  ·exfalso;unfold eK at O;split at O
   ·rename_i u U E;simp only[a01,a04]at O;obtain⟨_,a9,_,a2,_⟩:=fV hv E;rw[←O.2,a2]at Z;exact h (by rw[Z b,Heap.get_push_ne _ _ M,ar b])
   ·rename_i U E;obtain⟨_,_,Y,_⟩:=fV hv E;cases Y
   ·rename_i f args U E;obtain⟨_,_,Y,_⟩:=fV hv E;cases Y
   cases O
  ·exfalso;unfold eK at O;split at O
   ·rename_i u U E;simp only[a01,a04]at O;obtain⟨_,_,_,hH,_,_⟩:=eW ax E;rw[←O.2,hH]at Z;exact h (by rw[Z b,ar b])
   ·rename_i U E;obtain⟨_,_,Y,_⟩:=eW ax E;cases Y
   ·rename_i f args U E;obtain⟨_,_,Y,_⟩:=eW ax E;cases Y
   cases O
  rcases Classical.em (b∈w) with hm|hm
  ·exact⟨w,hf,hm,hb⟩
  exact absurd (a3 b hb hm) h
 exact .inl ⟨hb,a4⟩
end
end
end Go.R
set_option linter.unusedVariables false
namespace Go.R
section
variable {P:Program} {G:Nat} {cf:cX} {ops:Array Oper} {st:Nat->St} {vl:Nat->Value} {nf:Nat->Inf}
variable {μ0 μ:Emb} {w0 w:World} {d0:List Deferred} {S:Nat->Bool} {a:Act} {i:Nat} {o:Oper}
structure Ready(ops:Array Oper)(S:Nat->Bool)(i:Nat)(o:Oper):Prop where
 at_:ops[i]?=some o
 new:S i=false
 edges: ∀e∈o.after.toList,Region.binds .any e=true->S e.on=true
theorem Ready.lt(R:Ready ops S i o):i<ops.size:=(a0I.1 R.at_).1
theorem Ready.dc(R:Ready ops S i o)(h:DC ops S):DC ops (kv S i):=by
 intro k x E hs e T hb;by_cases O:k=i
 ·subst O;rw[R.at_]at E;injection E with E;subst E;have:=R.edges e T hb;unfold kv;rw[this];simp
 rw[hR S O]at hs;have:=h k x E hs e T hb;unfold kv;rw[this];simp
theorem Ready.ahead(R:Ready ops S i o)(h:DC ops S){k:Nat}(E:k≠i)(O:bw (cT ops) k i=true):S k=true:=by have:=(R.dc h).anc i (hP S i) O;rwa [hR S E]at this
theorem Ready.behind(R:Ready ops S i o)(h:DC ops S){k:Nat}(E:bw (cT ops) i k=true):S k=false:=by
 cases hs:S k with
 |false=>rfl
 |true=>have:=h.anc k hs E;rw[R.new]at this;cases this
theorem Ready.iff_(R:Ready ops S i o)(h:DC ops S){k:Nat}(E:k<i->bw (cT ops) k i=true)(O:i<k->bw (cT ops) i k=true):S k=true↔k<i:=by
 rcases Nat.lt_trichotomy k i with hlt|rfl|hgt
 ·exact⟨fun _=>hlt,fun _=>R.ahead h M (E hlt)⟩
 ·rw[R.new];simp
 rw[R.behind h (O hgt)];simp;omega
theorem Ready.iffAdd(R:Ready ops S i o)(h:DC ops S){k:Nat}(O:k<i->bw (cT ops) k i=true)(T:i<k->bw (cT ops) i k=true):kv S i k=true↔k<i+1:=by
 by_cases E:k=i
 ·subst E;rw[hP];simp
 rw[hR S E,R.iff_ h O T];omega
theorem share(T:Trace P G cf ops st vl nf)(Z:ops[i]?=some o){t:Tmp}(E:t∈o.looksAt ops\/o.dst=some t){k:Nat}(hd:kD ops k=some t):
  (k<i->bw (cT ops) k i=true)/\(i<k->bw (cT ops) i k=true):=by
 unfold kD at hd
 cases U:ops[k]? with
 |none=>rw[U]at hd;simp at hd
 |some x=>
  rw[U]at hd
  simp only[a0j]at hd
  constructor
  ·intro O;rcases T.reg.pair k i x o O U Z with h|h
   ·exact h
   exfalso;obtain⟨p1,Y,p3⟩:=Oper.apart_spec h;rcases E with E|E
   ·exact p1 t hd E
   exact Y t hd E
  intro O
  rcases T.reg.pair i k o x O Z U with h|h
  ·exact h
  exfalso
  obtain⟨p1,Y,p3⟩:=Oper.apart_spec h
  rcases E with E|E
  ·exact p3 t hd E
  exact Y t E hd
theorem slot_here(T:Trace P G cf ops st vl nf)(I:Inv ops st vl μ0 w0 d0 S μ a w)(R:Ready ops S i o){t:Tmp}(E:t∈o.looksAt ops):
  VRel μ (dm (st i).tmps t) (a.tmps.getD t undef):=by
 have:=I.tm t
 rw[tv_eq st vl ops (i:=i) (fun k=>T.tm k t) ops.size (fun k _ hd=>R.iff_ I.dc (share T R.at_ (.inl E) hd).1 (share T R.at_ (.inl E) hd).2)]at this
 rwa [a1L (a1V R.lt)]at this
theorem operand_here(T:Trace P G cf ops st vl nf)(I:Inv ops st vl μ0 w0 d0 S μ a w)(R:Ready ops S i o)(U:GRel μ G)(E:o.op.operands.toList.all (bm G)=true):
  ∀x∈o.op.operands,VRel μ (dQ (st i).tmps x) (a.eval x):=by
 intro x O
 refine eval_of U (a0s.1 E x (by simpa using O)) fun t Y=>?_
 subst Y
 refine slot_here T I R ?_
 unfold Oper.looksAt
 rw[a0e]
 left
 rw[List.mem_filterMap]
 exact⟨.tmp t,by simpa using O,V⟩
theorem wanted_here(T:Trace P G cf ops st vl nf)(I:Inv ops st vl μ0 w0 d0 S μ a w)(R:Ready ops S i o):bg ops o (st i).tmps=Region.wanted o (yielded ops a.tmps):=by
 refine wanted_eq (μ:=μ) fun j w E d hd=>slot_here T I R ?_
 unfold Oper.looksAt;rw[a0e];right;rw[E];simp only;rw[hd];simp
theorem between(T:Trace P G cf ops st vl nf){j k b:Nat}(E:(st j).heap.next<=b)(O:b<(st (j+1)).heap.next)(U:(st k).heap.next<=b)(Y:b<(st (k+1)).heap.next):j=k:=by
 rcases Nat.lt_trichotomy j k with h|h|h
 ·have:=T.monoL (show j+1<=k from h);omega
 ·exact h
 have:=T.monoL (show k+1<=j from h);omega
theorem mF(T:Trace P G cf ops st vl nf)(I:Inv ops st vl μ0 w0 d0 S μ a w)(R:Ready ops S i o)(b:Nat)(E:(st i).heap.next<=b)(O:b<(st (i+1)).heap.next):μ b=none:=by
 cases hb:μ b with
 |none=>rfl
 |some l=>
  exfalso
  rcases I.dom b l hb with h|⟨k,_,hs,h3,h4⟩|h
  ·have:=T.monoL (a0l i);omega
  ·have:=between T E O h3 h4;subst this;rw[R.new]at hs;cases hs
  have:=T.monoL (show i+1<=ops.size from R.lt);omega
theorem cont_here(T:Trace P G cf ops st vl nf)(I:Inv ops st vl μ0 w0 d0 S μ a w)(R:Ready ops S i o){b:Nat}{l:Loc}(hb:μ b=some l)(al:b<(st i).heap.next)
  (Z: ∀k w',nf k= .x w'->b∈w'->k<ops.size->(k<i->bw (cT ops) k i=true)/\(i<k->bw (cT ops) i k=true)):kV st S ops.size b=(st i).heap.get b:=by
 rw[lT st (i:=i) ops.size,a1L (a1V R.lt)]
 intro k U hc
 obtain⟨_,⟨E,O⟩|⟨w',E,O,h3⟩⟩:=T.chg hc
 ·--made there
  have Y:k<i:=by
   rcases a0c k i with h|h
   ·exact h
   have:=T.monoL h;omega
  refine⟨fun _=>Y,fun _=>?_⟩;rcases I.dom b l hb with h|⟨k',_,hs,h4,h5⟩|h
  ·have:=T.monoL (a0l k);omega
  ·have:=between T E O h4 h5;subst this;exact hs
  have:=T.monoL (a1V R.lt);omega
 exact R.iff_ I.dc (Z k w' E O U).1 (Z k w' E O U).2
theorem jU(T:Trace P G cf ops st vl nf)(I:Inv ops st vl μ0 w0 d0 S μ a w)(R:Ready ops S i o){b:Nat}(hb:b<(st i).heap.next->∃l,μ b=some l)(ax:b<(st (i+1)).heap.next)
  (hw: ∀k w',nf k= .x w'->b∈w'->k<ops.size->(k<i->bw (cT ops) k i=true)/\(i<k->bw (cT ops) i k=true)):kV st (kv S i) ops.size b=(st (i+1)).heap.get b:=by
 rw[lT st (i:=i+1) ops.size,a1L R.lt]
 intro k Z hc
 by_cases U:k=i
 ·subst U;rw[hP];simp
 obtain⟨_,⟨E,O⟩|⟨w',E,O,h3⟩⟩:=T.chg hc
 ·have al:k<i:=by
   rcases a0c k i with h|h
   ·exact h
   have:=T.monoL (show i+1<=k by omega);omega
  rw[hR S U];refine⟨fun _=>by omega,fun _=>?_⟩;have Y:b<(st i).heap.next:=by have:=T.monoL (show k+1<=i from al);omega
  obtain⟨l,hl⟩:=hb Y;rcases I.dom b l hl with h|⟨k',_,hs,h4,h5⟩|h
  ·have:=T.monoL (a0l k);omega
  ·have:=between T E O h4 h5;subst this;exact hs
  have:=T.monoL (a1V R.lt);omega
 exact R.iffAdd I.dc (hw k w' E O Z).1 (hw k w' E O Z).2
theorem lS(T:Trace P G cf ops st vl nf){b:Nat}(h: ¬chg st i b):kV st (kv S i) ops.size b=kV st S ops.size b:=by refine(mQ st ops.size fun k _ hc=>?_);exact hR S (fun e=>by subst e;exact h hc)
theorem kS{b:Nat}: ∀{l:List Nat},memB b l=true↔b∈l
 | []=>by simp[memB]
 |c::l=>by
  unfold memB;rw[a0C,kS (l:=l),a0m];constructor
  ·rintro(h|h)
   ·exact .inl (a06 h)
   exact .inr h
  rintro(rfl|h)
  ·exact .inl (a0M b)
  exact .inr h
theorem jF(T:Trace P G cf ops st vl nf)(I:Inv ops st vl μ0 w0 d0 S μ a w)(R:Ready ops S i o):
  (∀t,o.dst=some t->tv st vl ops (kv S i) ops.size t=vl i)/\(∀t,o.dst≠some t->tv st vl ops (kv S i) ops.size t=tv st vl ops S ops.size t):=by
 constructor
 ·intro t E;rw[tv_eq st vl ops (i:=i+1) (fun k=>T.tm k t) ops.size (fun k _ hd=>R.iffAdd I.dc (share T R.at_ (.inr E) hd).1 (share T R.at_ (.inr E) hd).2),a1L R.lt,T.tm];rw[if_pos (by unfold kD;rw[R.at_];exact E)]
 intro t E
 refine tv_congr st vl ops ops.size fun k _ hd=>hR S ?_
 intro e
 subst e
 unfold kD at hd
 rw[R.at_]at hd
 exact E hd
theorem il(T:Trace P G cf ops st vl nf)(I:Inv ops st vl μ0 w0 d0 S μ a w)(R:Ready ops S i o)(E: ∀b,(st (i+1)).heap.get b=(st i).heap.get b){v':Value}(O:VRel μ (vl i) v'):
  Inv ops st vl μ0 w0 d0 (kv S i) μ (a.put o.dst v') w:=by
 obtain⟨U,Y⟩:=jF T I R
 refine Inv.next (H:=bare (st i).heap.next) (Hn:=bare (st i).heap.next) I R.lt R.at_ (Post.refl (kX μ _ w)) O (fun k=>T.mono k) (a07 _) (T.mono i)
  (fun b l x _ h=>by rw[eV]at h;cases h) (fun b l x _ h=>by rw[eV]at h;cases h) (fun b l x hb _ hc=>⟨hb,V,?_⟩) (R.dc I.dc) (fun d hd=>?_) U Y
 ·rw[lS T (fun e=>e (E b))]at hc;exact hc
 have:=(T.fact i o R.at_).dlt d hd
 rwa [T.sizeL i]at this
theorem inv_step(fk:eB P G cf)(T:Trace P G cf ops st vl nf)(I:Inv ops st vl μ0 w0 d0 S μ a w)(hG:GRel μ0 G)(R:Ready ops S i o){K:Act->World->Prop}{Q:Exit->Act->World->Prop}
  (hK: ∀μ' a' w',Inv ops st vl μ0 w0 d0 (kv S i) μ' a' w'->K a' w'):wpOp P ops Q i K a w:=by
 have dt:GRel μ G:=hG.mono I.ext0
 have F:=T.fact i o R.at_
 have ci:=wanted_here T I R
 unfold wpOp
 rw[R.at_]
 simp only
 rcases F.how with⟨hq,hv,hf,hn,hs⟩|⟨hq,d3,H1,H2,ax,an,Y,a0,b8,dk⟩
 ·rw[ci]at hq;rw[hq];simp only[a0k,if_false];exact hK μ _ w (il T I R hs (by rw[hv];exact VRel.undef))
 rw[ci]at hq
 rw[hq]
 simp only[if_true]
 left
 have hρ:=operand_here T I R dt d3
 have b4:WF (st i).heap:=T.wf i
 rcases dk with⟨hf,hk|hk⟩|⟨hf,hk⟩|⟨b,hf,bb⟩|⟨wr,hf,go,f2⟩
 rotate_left
 ·--a part of the nil slice
  unfold eK at Y;split at Y
  case h_2=>rename_i Z E;obtain⟨_,_,O⟩:=fh hk E;cases O
  case h_3=>rename_i f args Z E;obtain⟨_,_,O⟩:=fh hk E;cases O
  case h_4=>cases Y
  rename_i u Z E;simp only[a01,a04]at Y;obtain⟨e1,_⟩:=fh hk E;subst e1;obtain⟨rfl,rfl⟩:=Y;obtain⟨v',a1,hr⟩:=nilcut_sound hk hρ E w;unfold Oper.wp;rw[a1,Oper.upon_value];exact hK μ _ w (il T I R (fun b=>by rw[a0 b,ax b]) hr)
 rotate_right
 ·--a value
  have E: ∃u,aop P (dQ (st i).tmps) o H1=some (.val u,H1)/\u=vl i/\H2=H1:=by
   unfold eK at Y;split at Y
   ·rename_i u Z E;simp only[a01,a04]at Y;have:=mj hk E;subst this;exact⟨u,E,Y.1,Y.2.symm⟩
   ·rename_i Z E;obtain⟨_,O⟩:=lc hk E;cases O
   ·rename_i f args Z E;obtain⟨_,O⟩:=lc hk E;cases O
   cases Y
  obtain⟨u,E,rfl,rfl⟩:=E;obtain⟨_,v,v',c3,a1,hr⟩:=lf hk hρ E;injection c3 with c3;subst c3;unfold Oper.wp;rw[a1 w,Oper.upon_value];exact hK μ _ w (il T I R (fun b=>by rw[a0 b,ax b]) hr)
 ·--a new block
  unfold eK at Y;split at Y
  case h_2=>rename_i Z E;obtain⟨_,_,O,_⟩:=fV hk E;cases O
  case h_3=>rename_i f args Z E;obtain⟨_,_,O,_⟩:=fV hk E;cases O
  case h_4=>cases Y
  rename_i u Z E;simp only[a01,a04]at Y;obtain⟨rfl,rfl⟩:=Y;obtain⟨u,al,hu,dn,et⟩:=fV hk E;injection hu with hu;subst hu dn;have cw:(st (i+1)).heap.next=(st i).heap.next+1:=by rw[b8,Heap.next_push,an]
  have fi:=et (bare (st i).heap.next) (by rw[an];rfl);obtain⟨n,w',μ',a1,hp,hr⟩:=jy hρ (kX μ _ w) (fun b a2 a3=>mF T I R b a2 (by rw[cw];exact a3)) fi;unfold Oper.wp;rw[a1];cases n with
  |value v'=>
   rw[Oper.upon_value]
   obtain⟨t1,t2⟩:=jF T I R
   have hw: ∀k w',nf k= .x w'->(st i).heap.next∈w'->k<ops.size->(k<i->bw (cT ops) k i=true)/\(i<k->bw (cT ops) i k=true):=by
    intro k w' O hm a4;have f1:(st i).heap.next<(st k).heap.next:=by
     have Fk:=T.fact k ops[k] (a0B a4);rcases Fk.how with⟨_,_,U,_⟩|⟨_,_,_,_,_,_,_,_,_,fu⟩
     ·rw[O]at U;cases U
     rcases fu with⟨U,_⟩|⟨U,_⟩|⟨_,U,_⟩|⟨w2,U,fz,_⟩
     ·rw[O]at U;cases U
     ·rw[O]at U;cases U
     ·rw[O]at U;cases U
     rw[O]at U;injection U with U;subst U;exact fz _ hm
    constructor
    ·intro a9;have:=T.monoL (a1V a9);omega
    intro a8;rcases T.comp i k a8 a4 with h|h
    ·exact h
    rw[hf,O]at h;simp only[eL]at h;rw[kS.2 hm]at h;cases h
   have ez:kV st (kv S i) ops.size (st i).heap.next=some al:=by rw[jU T I R (fun h=>absurd h (Nat.lt_irrefl _)) (by rw[cw];omega) hw,a0,←an,Heap.get_push_same]
   have dd: ∀b x,((bare (st i).heap.next).push al).get b=some x->b=(st i).heap.next/\x=al:=by
    intro b x O;by_cases b5:(bare (st i).heap.next).next=b
    ·subst b5;rw[Heap.get_push_same]at O;injection O with O;exact⟨V,O.symm⟩
    rw[Heap.get_push_ne _ _ b5,eV]at O;cases O
   refine hK μ' _ w' (Inv.next (H:=bare (st i).heap.next) (Hn:=(bare (st i).heap.next).push al) I R.lt R.at_ hp hr (fun k=>T.mono k) (a07 _) (by rw[cw];exact a07 _)
    (fun b l x _ h=>by rw[eV]at h;cases h) (fun b l x _ h=>?_) (fun b l x hb hg hc=>?_) (R.dc I.dc) (fun d hd=>?_) t1 t2)
   ·obtain⟨rfl,rfl⟩:=dd b x h;exact ez
   ·have b5:b≠(st i).heap.next:=by rintro rfl;have:((bare (st i).heap.next).push al).get (st i).heap.next=some al:=Heap.get_push_same (bare (st i).heap.next) al;rw[this]at hg;cases hg
    have cv: ¬chg st i b:=by intro co;apply co;rw[a0,Heap.get_push_ne _ _ (by rw[an];exact Ne.symm b5),ax]
    rw[lS T cv]at hc;rcases hp.dom b l hb with Z|⟨Z,h2⟩
    ·exact⟨Z,V,hc⟩
    exfalso;have f9:(st i).heap.next<=b:=Z;have gm:b<(st i).heap.next+1:=h2;omega
   have:=F.dlt d hd
   rwa [T.sizeL i]at this
  |_=>exact hr.elim
 ·--a load,or a part of a slice
  unfold eK at Y;split at Y
  case h_2=>rename_i Z E;obtain⟨_,_,O,_⟩:=eW bb E;cases O
  case h_3=>rename_i f args Z E;obtain⟨_,_,O,_⟩:=eW bb E;cases O
  case h_4=>cases Y
  rename_i u Z E;simp only[a01,a04]at Y;obtain⟨rfl,rfl⟩:=Y;obtain⟨u,al,hu,rfl,cL,c9⟩:=eW bb E;injection hu with hu;subst hu;obtain⟨l,hμ⟩:=reads_loc bb hρ;have em:b<(st i).heap.next:=b4.lt (by rw[←ax];exact cL);have df:=cont_here T I R hμ em (fun k w' bl hm a4=>by
   constructor
   ·intro a9;rcases T.comp k i a9 R.lt with h|h
    ·exact h
    rw[hf,bl]at h;simp only[eL]at h;rw[kS.2 hm]at h;cases h
   intro a8;rcases T.comp i k a8 a4 with h|h
   ·exact h
   rw[hf,bl]at h;simp only[eL]at h;rw[kS.2 hm]at h;cases h)
  have e0:WRel μ ((bare (st i).heap.next).put b al) w:=by
   refine⟨fun b' l' o' fd a6=>?_,fun b1 b2 l1 l2 o1 o2 a5 _ _ b9 ch=>?_⟩
   ·by_cases d1:b=b'
    ·subst d1;rw[Heap.get_put_same]at a6;injection a6 with a6;subst a6;exact I.obj b l' al fd (by rw[df,←ax];exact cL)
    rw[Heap.get_put_ne _ _ d1,eV]at a6;cases a6
   exfalso;by_cases Z:b=b1
   ·by_cases h2:b=b2
    ·exact a5 (Z.symm.trans h2)
    rw[Heap.get_put_ne _ _ h2,eV]at ch;cases ch
   rw[Heap.get_put_ne _ _ Z,eV]at b9;cases b9
  obtain⟨v',ds,hr⟩:=reads_sound bb hρ e0 (c9 _ (Heap.get_put_same _ _ _));unfold Oper.wp;rw[ds,Oper.upon_value];exact hK μ _ w (il T I R (fun b=>by rw[a0 b,ax b]) hr)
 ·--any other
  have c5: ∀b k w',nf k= .x w'->b∈w'->k<ops.size->(k<i->bw (cT ops) k i=true)/\(i<k->bw (cT ops) i k=true):=by
   intro b k w' bl hm a4;have a5:isNilL w'=false:=by cases w' with
    |nil=>simp at hm
    |cons _ _=>rfl
   constructor
   ·intro a9;rcases T.comp k i a9 R.lt with h|h
    ·exact h
    rw[hf,bl]at h;simp only[eL,a5,Bool.false_and]at h;cases h
   intro a8;rcases T.comp i k a8 a4 with h|h
   ·exact h
   rw[hf,bl]at h;simp only[eL,a5,a18]at h;cases h
  have b6: ∀b l x,μ b=some l->H1.get b=some x->kV st S ops.size b=some x:=by intro b l x hb O;rw[ax]at O;rw[cont_here T I R hb (b4.lt O) (c5 b)];exact O
  have c4:WF H1:=fun b hb=>by rw[ax];exact b4 b (by rw[←an];exact hb)
  have dp:WRel μ H1 w:=⟨fun b l x hb O=>I.obj b l x hb (b6 b l x hb O),fun b1 b2 l1 l2 o1 o2 a5 a2 a3 b9 ch=>I.inj b1 b2 l1 l2 o1 o2 a5 a2 a3 (b6 b1 l1 o1 a2 b9) (b6 b2 l2 o2 a3 ch)⟩
  refine kj fk c4 hρ dt dp (fun b a2 a3=>mF T I R b (by rw[←an];exact a2) (by rw[b8];exact a3)) Y ?_;intro μ' w' v' hp hv;obtain⟨t1,t2⟩:=jF T I R;have b7: ∀b l,μ' b=some l->b<(st i).heap.next->∃l,μ b=some l:=by
   intro b l hb f1;rcases hp.dom b l hb with h|⟨h,_⟩
   ·exact⟨l,h⟩
   rw[an]at h;omega
  refine hK μ' _ w' (Inv.next (H:=H1) (Hn:=H2) I R.lt R.at_ hp hv (fun k=>T.mono k) (by rw[an];exact a07 _) (by rw[b8];exact a07 _) b6 (fun b l x hb O=>?_) (fun b l x hb O hc=>?_) (R.dc I.dc) (fun d hd=>?_) t1 t2)
  ·rw[←a0]at O;rw[jU T I R (b7 b l hb) ((T.wf (i+1)).lt O) (c5 b)];exact O
  ·rw[←a0]at O;have d2:(st (i+1)).heap.next<=b:=by
    rcases a0c b (st (i+1)).heap.next with h|h
    ·rw[jU T I R (b7 b l hb) h (c5 b),O]at hc;cases hc
    exact h
   have cv: ¬chg st i b:=fun co=>co (F.far b d2)
   rw[lS T cv]at hc;refine⟨?_,?_,hc⟩
   ·rcases hp.dom b l hb with h|⟨_,h⟩
    ·exact h
    rw[←b8]at h;omega
   exact c4 b (by rw[an];exact a0g F.next d2)
  have:=F.dlt d hd;rwa [T.sizeL i]at this
end
end Go.R
namespace Go.R
section
variable {P:Program} {G:Nat} {cf:cX} {ops:Array Oper} {st:Nat->St} {vl:Nat->Value} {nf:Nat->Inf}
variable {μ0 μ:Emb} {w0 w:World} {d0:List Deferred} {a:Act}
def cnt(S:Nat->Bool):Nat->Nat
 |0=>0
 |n+1=>cnt S n+if S n=true then 0 else 1
theorem cnt_far{S:Nat->Bool}{i:Nat}: ∀n,n<=i->cnt (kv S i) n=cnt S n
 |0,_=>rfl
 |n+1,h=>by have:=cnt_far (S:=S) (i:=i) n M;simp only[cnt,this,hR S (show n≠i by omega)]
theorem cnt_add{S:Nat->Bool}{i:Nat}(hs:S i=false): ∀n,i<n->cnt (kv S i) n+1=cnt S n
 |0,h=>by omega
 |n+1,h=>by
  by_cases hi:i=n
  ·subst hi;simp only[cnt,cnt_far i (a07 i),hP,hs,if_true,a0k,if_false]
  have:=cnt_add hs n M;simp only[cnt,hR S (show n≠i by omega)];omega
theorem cnt_zero{S:Nat->Bool}: ∀n,cnt S n=0->∀k,k<n->S k=true
 |0,_,k,h=>by omega
 |n+1,h,k,hk=>by
  simp only[cnt]at h;by_cases hs:S n=true
  ·by_cases E:k=n
   ·subst E;exact hs
   exact cnt_zero n M k M
  rw[if_neg hs]at h;omega
theorem cnt_le{S:Nat->Bool}: ∀n,cnt S n<=n
 |0=>a07 _
 |n+1=>by have:=cnt_le (S:=S) n;simp only[cnt];split<;>omega
def iC(listed:Array Bool):Nat->Bool:=fun k=>listed.getD k false
theorem setOf_set{listed:Array Bool}{i:Nat}(hi:i<listed.size):iC (listed.setIfInBounds i true)=kv (iC listed) i:=by
 funext k;unfold iC kv;simp only[a0H,a0X];by_cases E:i=k
 ·subst E;simp[hi]
 have:Nat.beq k i=false:=by
  cases hb:Nat.beq k i with
  |false=>rfl
  |true=>exact absurd (a06 hb).symm E
 simp[E,this]
theorem lz{listed:Array Bool}(hl:listed.size=ops.size){i:Nat}:i∈Region.ready .any ops listed↔
  ∃o,Ready ops (iC listed) i o:=by
 unfold Region.ready
 rw[List.mem_filter,List.mem_range]
 constructor
 ·rintro⟨hi,h⟩;have E:ops[i]?=some ops[i]:=a0B hi;rw[E]at h;simp only[a03,a0u,a1B,a1c]at h;refine⟨ops[i],E,?_,fun e O hb=>?_⟩
  ·unfold iC;have U:=h.1;simp only[a0H,a0B (show i<listed.size by omega),a1c]at U⊢;exact U
  have Y:=h.2;rw[Array.all_eq_true']at Y;have:=Y e (by simpa using O);rw[hb]at this;simpa[iC] using this
 rintro⟨o,E,T,O⟩
 have hi:i<ops.size:=(a0I.1 E).1
 refine⟨hi,?_⟩
 rw[E]
 simp only[a03,a0u,a1B,a1c]
 constructor
 ·unfold iC at T;simp only[a0H,a0B (show i<listed.size by omega),a1c]at T⊢;exact T
 rw[Array.all_eq_true']
 intro e Z
 cases hb:Region.binds .any e with
 |false=>rfl
 |true=>
  have:=O e (by simpa using Z) hb
  simpa[iC] using this
theorem all_of_none(T:Trace P G cf ops st vl nf){listed:Array Bool}(Z:listed.size=ops.size)(h:Region.ready .any ops listed=[]): ∀k,k<ops.size->iC listed k=true:=by
 intro k;induction k using Nat.strongRecOn with
 |_ k ih=>
  intro Y
  cases hs:iC listed k with
  |true=>rfl
  |false=>
   exfalso
   have O:=a0B Y
   have:k∈Region.ready .any ops listed:=(lz Z).2 ⟨ops[k],O,hs,fun e U hb=>by
    have E:=T.reg.back k ops[k] O e U hb;exact ih e.on E M⟩
   rw[h]at this;simp at this
theorem any_sound(U:eB P G cf)(T:Trace P G cf ops st vl nf)(Z:GRel μ0 G){Q:Exit->Act->World->Prop}
  (Y: ∀S μ a w,(∀k,k<ops.size->S k=true)->Inv ops st vl μ0 w0 d0 S μ a w->Q .normal a w):
  ∀(fuel:Nat) (listed:Array Bool) (μ:Emb) (a:Act) (w:World),listed.size=ops.size->cnt (iC listed) ops.size<=fuel->Inv ops st vl μ0 w0 d0 (iC listed) μ a w->
   wpAny P .any ops Q fuel listed a w
 |0,listed,μ,a,w,hl,hc,I=>by
  have E:=cnt_zero ops.size (by omega:cnt (iC listed) ops.size=0);refine⟨?_,Y _ μ a w E I⟩;cases hr:Region.ready .any ops listed with
  |nil=>rfl
  |cons i t=>
   exfalso
   have hm:i∈Region.ready .any ops listed:=by rw[hr];simp
   obtain⟨o,R⟩:=(lz hl).1 hm
   have:=E i R.lt
   rw[R.new]at this;cases this
 |fuel+1,listed,μ,a,w,hl,hc,I=>by
  refine⟨fun h=>Y _ μ a w (all_of_none T hl h) I,fun i hi=>?_⟩;obtain⟨o,R⟩:=(lz hl).1 hi;refine inv_step U T I Z R fun μ' a' w' I'=>?_
  have O:=setOf_set (listed:=listed) (i:=i) (by rw[hl];exact R.lt);refine any_sound U T Z Y fuel (listed.setIfInBounds i true) μ' a' w' (by simp[hl]) ?_ (by rw[O];exact I');rw[O];have:=cnt_add R.new ops.size R.lt;omega
theorem inv_start(T:Trace P G cf ops st vl nf)(ht:TRel μ0 (st 0).tmps (st 0).size a.tmps)(hw:WRel μ0 (st 0).heap w)(O: ∀b l,μ0 b=some l->b<(st 0).heap.next\/(st ops.size).heap.next<=b)(S:Nat->Bool)(E: ∀k,S k=false):
  Inv ops st vl μ0 w a.defers S μ0 a w:=by
 have hc: ∀b,kV st S ops.size b=(st 0).heap.get b:=by intro b;have:=lT st (S:=S) (b:=b) (i:=0) ops.size (fun k _ _=>by rw[E k];simp);rwa [Nat.min_zero]at this
 have a2: ∀t,tv st vl ops S ops.size t=dm (st 0).tmps t:=by intro t;have:=tv_eq st vl ops (S:=S) (t:=t) (i:=0) (fun k=>T.tm k t) ops.size (fun k _ _=>by rw[E k];simp);rwa [Nat.min_zero]at this
 refine⟨(fun k o _ hk=>by rw[E k]at hk;cases hk),fun b l hb=>?_,fun b l o hb U=>hw.obj b l o hb (by rw[←hc];exact U),fun b1 b2 l1 l2 o1 o2 ar Y Z ax a0=>hw.inj b1 b2 l1 l2 o1 o2 ar Y Z (by rw[←hc];exact ax) (by rw[←hc];exact a0),
  ht.1,fun t=>by rw[a2];exact ht.2 t,V,fun _ _ h=>h,fun _ _ h=> .inl h,a07 _,V,V,V,fun _ _ _=>rfl,fun b l o hb U an=> .inr ⟨b,l,o,hb,by rw[←hc];exact U,an,id,V⟩⟩
 rcases O b l hb with h|h
 ·exact .inl h
 exact .inr (.inr h)
theorem inv_end(T:Trace P G cf ops st vl nf){S:Nat->Bool}(E: ∀k,k<ops.size->S k=true)(I:Inv ops st vl μ0 w0 d0 S μ a w):
  Post μ0 (st 0).heap w0 μ (st ops.size).heap w/\TRel μ (st ops.size).tmps (st ops.size).size a.tmps/\a.defers=d0:=by
 have hc: ∀b,kV st S ops.size b=(st ops.size).heap.get b:=by intro b;have:=lT st (S:=S) (b:=b) (i:=ops.size) ops.size (fun k O _=>by rw[E k O];simp[O]);rwa [Nat.min_self]at this
 have a0: ∀t,tv st vl ops S ops.size t=dm (st ops.size).tmps t:=by intro t;have:=tv_eq st vl ops (S:=S) (t:=t) (i:=ops.size) (fun k=>T.tm k t) ops.size (fun k O _=>by rw[E k O];simp[O]);rwa [Nat.min_self]at this
 refine⟨⟨I.ext0,I.dom0,I.grow0,I.os0,I.tape0,I.out0,I.keep0,fun b l o hb U al=>I.img0 b l o hb (by rw[hc];exact U) al,
  ⟨fun b l o hb U=>I.obj b l o hb (by rw[hc];exact U),fun b1 b2 l1 l2 o1 o2 an Y Z ar ax=>I.inj b1 b2 l1 l2 o1 o2 an Y Z (by rw[hc];exact ar) (by rw[hc];exact ax)⟩⟩,⟨?_,fun t=>?_⟩,I.defers⟩
 ·rw[I.size,T.sizeL ops.size]
 have:=I.tm t
 rwa [a0]at this
end
section
variable {P:Program} {G:Nat} {cf:cX} {ops:Array Oper}
theorem jf(al:eB P G cf): ∀(l:List Oper) (k:Nat) (fs:List (Nat×Inf)) (s s':St),ops.toList.drop k=l->k+l.length=ops.size->bB P G cf ops k fs l s=some s'->WF s.heap->
  ∃(st:Nat->St) (vl:Nat->Value) (nf:Nat->Inf),st k=s/\st ops.size=s'/\(∀j,ops.size<=j->st (j+1)=st j)/\(∀j,k<=j->WF (st j).heap)/\
   (∀j o,k<=j->ops[j]?=some o->OpFact P G cf ops o (st j) (st (j+1)) (vl j) (nf j))/\
   (∀j,k<=j->j<ops.size->∀q∈fs,bw (cT ops) q.1 j=true\/eL q.2 (nf j)=true)/\
   (∀i j,k<=i->i<j->j<ops.size->bw (cT ops) i j=true\/eL (nf i) (nf j)=true)
 | [],k,fs,s,s',hd,hlen,h,hw=>by simp only[bB,a01]at h;subst h;simp only[List.length_nil,a1v]at hlen;refine⟨fun _=>s,fun _=>undef,fun _=> .v,V,V,fun _ _=>rfl,fun _ _=>hw,fun j o T U=>?_,fun j T b1=>by omega,fun i j hi ar T=>by omega⟩;have:=(a0I.1 U).1;omega
 |x::os,k,fs,s,s',hd,hlen,h,hw=>by
  simp only[a02]at hlen;unfold bB at h;split at h
  case h_2=>cases h
  rename_i s1 f h1;cases O:cJ (cT ops) k f fs with
  |false=>rw[O]at h;cases h
  |true=>
   rw[O]at h
   simp only[cond_true]at h
   obtain⟨v,F⟩:=stepD_fact al hw h1
   have a5:WF s1.heap:=fun b hb=>by rw[F.far b hb];exact hw b (a0g F.next hb)
   have hk:k<ops.toList.length:=by simp;omega
   have an:=a0T hk
   rw[hd]at an
   injection an with e1 e2
   have a4:ops[k]?=some x:=by rw[←Array.getElem?_toList,a09 hk,←e1]
   obtain⟨st,vl,nf,g1,g2,g3,g4,g5,g6,g7⟩:=jf al os (k+1) ((k,f)::fs) s1 s' e2.symm M h a5
   have Z: ∀(l:List (Nat×Inf)),cJ (cT ops) k f l=true->∀q∈l,bw (cT ops) q.1 k=true\/eL q.2 f=true:=by
    intro l;induction l with
    |nil=>intro _ q O;simp at O
    |cons p l ih=>
     intro hl q O
     obtain⟨pj,pg⟩:=p
     simp only[cJ,a03,a0C]at hl
     rcases a0m.1 O with rfl|O
     ·exact hl.1
     exact ih hl.2 q O
   refine⟨fun j=>if j<=k then s else st j,fun j=>if j<=k then v else vl j,fun j=>if j<=k then f else nf j,by simp,?_,fun j T=>?_,fun j T=>?_,fun j o T U=>?_,fun j T Y q ax=>?_,fun i j hi ar Y=>?_⟩
   ·simp only[show ¬(ops.size<=k) by omega,if_false];exact g2
   ·simp only[show ¬(j<=k) by omega,show ¬(j+1<=k) by omega,if_false];exact g3 j T
   ·by_cases E:j<=k
    ·simp only[E,if_true];exact hw
    simp only[E,if_false];exact g4 j M
   ·by_cases E:j=k
    ·subst E;rw[a4]at U;injection U with U;subst U;simp only[a07,if_true,show ¬(j+1<=j) by omega,if_false,g1];exact F
    simp only[show ¬(j<=k) by omega,show ¬(j+1<=k) by omega,if_false];exact g5 j o M U
   ·by_cases E:j=k
    ·subst E;simp only[a07,if_true];exact Z fs O q ax
    simp only[show ¬(j<=k) by omega,if_false];exact g6 j M Y q (a0z _ ax)
   by_cases a2:i=k
   ·subst a2;simp only[a07,if_true,show ¬(j<=i) by omega,if_false];exact g6 j M Y (i,f) (by simp)
   simp only[show ¬(i<=k) by omega,show ¬(j<=k) by omega,if_false]
   exact g7 i j M ar Y
def Dom(μ:Emb)(H:Heap):Prop:= ∀b l,μ b=some l->b<H.next
theorem region_sound(Z:eB P G cf){id:Nat}{O:Bool}{s E:St}(h:bY P G cf ops O s=some E){μ:Emb}{a:Act}{w:World}{Q:Exit->Act->World->Prop}
  (a1:WF s.heap) (ht:TRel μ s.tmps s.size a.tmps) (hG:GRel μ G) (hw:WRel μ s.heap w) (al: ∀b l,μ b=some l->b<s.heap.next\/E.heap.next<=b)
  (hQ: ∀μ' w' U,Post μ s.heap w μ' E.heap w'->TRel μ' E.tmps E.size U.tmps->U.defers=a.defers->Q .normal U w'):(Code.region id ops O).wp P Q a w:=by
 have an: ∀b,s.heap.next<=b->b<E.heap.next->μ b=none:=by
  intro b h1 h2;cases hb:μ b with
  |none=>rfl
  |some l=>rcases al b l hb with h3|h3<;>omega
 unfold bY at h
 cases O with
 |false=>
  simp only[cond_false]at h
  refine wp_region ?_
  rw[List.range_eq_range']
  have:=j4 Z ops.toList 0 s E V h μ a w a1 ht hG hw an (Q:=Q) hQ
  simpa using this
 |true=>
  simp only[cond_true]at h
  cases hq:(jg ops&&P.follows .mixedOrders) with
  |false=>rw[hq]at h;cases h
  |true=>
   rw[hq]at h
   simp only[cond_true]at h
   simp only[a03]at hq
   obtain⟨st,vl,nf,Y,g2,g3,g4,g5,_,g7⟩:=jf Z ops.toList 0 [] s E V (by simp) h a1
   have T:Trace P G cf ops st vl nf:=⟨fun k o ho=>g5 k o (a0l _) ho,g3,fun j k a6 hk=>g7 j k (a0l _) a6 hk,regOK_facts hq.1,fun k=>g4 k (a0l _)⟩
   refine wp_region_any hq.2 ?_
   rw[World.drew_eq]
   have I:=inv_start (a:=a) (w:=w.drew) (μ0:=μ) T (by rw[Y];exact ht) (by rw[Y];exact hw.drew) (by rw[Y,g2];exact al) (iC (Array.replicate ops.size false)) (fun k=>by
    unfold iC;simp[a0H,Array.getElem?_replicate];split<;>rfl)
   refine any_sound Z T hG (fun S μ' U w' hS I'=>?_) ops.size _ μ a w.drew (by simp) (cnt_le _) I
   obtain⟨hp,a0,a5⟩:=inv_end T hS I'
   rw[Y,g2]at hp
   rw[g2]at a0
   refine hQ μ' w' U ((Post.drew hw).trans hp (a07 _) ?_) a0 a5
   have:=T.monoL (a0l ops.size)
   rwa [Y,g2]at this
end
end Go.R
namespace Go.R
open Go.RowKit
def Ex.toExit:Ex->Exit
 | .normal=> .normal
 | .exit id=> .exit id
 | .ret=> .ret
def LoopWp(P:Program)(c:Code)(Q:Exit->Act->World->Prop)(a:Act)(w:World):Prop:=
 ∀(b:Frame) (k:List Item) (cs:List Frame),∃e E w',Q e E w'/\Arrives P (lone (b.at a (.code c:: .inLoop c::k)) cs w) b k cs e E w'
theorem LoopWp.wp{P:Program}{c:Code}{Q:Exit->Act->World->Prop}{a:Act}{w:World}(h:LoopWp P c Q a w):(Code.loop c).wp P Q a w:=
 fun b k cs=>let⟨e,a',w',q,r⟩:=h b k cs;⟨e,a',w',q,.of_steps (.one step_loop) r⟩
theorem LoopWp.round{P:Program}{c:Code}{Q:Exit->Act->World->Prop}{a:Act}{w:World}(h:c.wp P (Exit.then (LoopWp P c Q) Q) a w):LoopWp P c Q a w:=by
 intro b k cs;obtain⟨e,T,U,O,E⟩:=h b (.inLoop c::k) cs;cases e with
 |normal=>
  obtain⟨e₂,a₂,w₂,Z,Y⟩:=O b k cs
  exact⟨e₂,a₂,w₂,Z,.of_steps (Steps.trans E (.one step_inLoop)) Y⟩
 |exit id=>exact⟨_,T,U,O,.pass (x:= .inLoop c) V (fun _ _=> .inl (by simp)) E⟩
 |goto l=>exact⟨_,T,U,O,.pass (x:= .inLoop c) V (fun _ _=> .inl (by simp)) E⟩
 |ret=>exact⟨_,T,U,O,.pass (x:= .inLoop c) V (fun _ _=> .inl (by simp)) E⟩
 |panic ch=>exact⟨_,T,U,O,.pass (x:= .inLoop c) V (fun _ _=> .inl (by simp)) E⟩
 |outgrown=>exact⟨_,T,U,O,.pass (x:= .inLoop c) V (fun _ _=> .inl (by simp)) E⟩
def Wp(P:Program)(c:Code)(Q:Exit->Act->World->Prop)(a:Act)(w:World):Prop:=
 match c with
 | .loop b=>LoopWp P b Q a w
 |c=>c.wp P Q a w
theorem Wp.wp{P:Program}{c:Code}{Q:Exit->Act->World->Prop}{a:Act}{w:World}(h:Wp P c Q a w):c.wp P Q a w:=by cases c<;>first|exact LoopWp.wp h|exact h
def After(μ:Emb)(s:St)(w:World)(e:Ex)(E:St):Exit->Act->World->Prop:=fun T O U=>
 T=e.toExit/\O.defers=[]/\∃μ',Post μ s.heap w μ' E.heap U/\TRel μ' E.tmps E.size O.tmps
def ExOK(P:Program)(G:Nat)(ex:Code->St->Option (Ex×St)):Prop:= ∀c s e E,ex c s=some (e,E)->WF s.heap->Ext s.heap E.heap/\
 ∀μ a w,a.defers=[]->TRel μ s.tmps s.size a.tmps->GRel μ G->WRel μ s.heap w->(∀b,s.heap.next<=b->b<E.heap.next->μ b=none)->Wp P c (After μ s w e E) a w
section
variable {P:Program} {G:Nat}
theorem mE{μ E:Emb}{H H1 O:Heap}{w w1:World}(hp:Post μ H w E H1 w1)(T:H.next<=H1.next)(Z: ∀b,H.next<=b->b<O.next->μ b=none): ∀b,H1.next<=b->b<O.next->E b=none:=by
 intro b U Y;cases hb:E b with
 |none=>rfl
 |some l=>
  rcases hp.dom b l hb with h|⟨_,h⟩
  ·rw[Z b (a0g T U) Y]at h;cases h
  omega
theorem After.trans{μ Z:Emb}{s E U:St}{w w1:World}{e:Ex}(hp:Post μ s.heap w Z E.heap w1)(h1:s.heap.next<=E.heap.next)(h2:E.heap.next<=U.heap.next):
  ∀T O Y,After Z E w1 e U T O Y->After μ s w e U T O Y:=by
 rintro T O Y ⟨he,hd,μ2,hp2,ht⟩
 exact⟨he,hd,μ2,hp.trans hp2 h1 h2,ht⟩
theorem region_ext{cf:cX}(Z:eB P G cf){ops:Array Oper}{O:Bool}{s E:St}(Y:WF s.heap)(h:bY P G cf ops O s=some E):Ext s.heap E.heap:=by
 unfold bY at h;cases O with
 |false=>exact jH Z _ _ _ Y h
 |true=>
  simp only[cond_true]at h
  cases U:(jg ops&&P.follows .mixedOrders) with
  |false=>rw[U]at h;cases h
  |true=>
   rw[U]at h
   simp only[cond_true]at h
   have key: ∀(l:List Oper) (k:Nat) (fs:List (Nat×Inf)) (s E:St),WF s.heap->bB P G cf ops k fs l s=some E->Ext s.heap E.heap:=by
    intro l;induction l with
    |nil=>intro k fs s E _ h;simp only[bB,a01]at h;subst h;exact Ext.refl _
    |cons o os ih=>
     intro k fs s E Y h
     unfold bB at h
     split at h
     case h_2=>cases h
     rename_i s1 f T
     cases U:cJ (cT ops) k f fs with
     |false=>rw[U]at h;cases h
     |true=>
      rw[U]at h
      simp only[cond_true]at h
      have e1:Ext s.heap s1.heap:=by
       unfold iB at T;split at T
       case h_2=>cases T
       rename_i t ar;simp only[a01,a04]at T;obtain⟨rfl,_⟩:=T;have e0:=kM Z (s:={s with heap:={s.heap with log:=[]}}) Y ar;obtain⟨d,hd,hs⟩:=e0.log;refine⟨e0.next,⟨d8 s.heap.next t.heap.log,V,fun b hb hn=>?_⟩,e0.far⟩;refine hs b hb fun hm=>hn (gX.2 ⟨?_,hb⟩)
       rw[hd,a0p];exact hm
      exact e1.trans (ih _ _ _ _ (Y.ext e1) h)
   exact key _ _ _ _ _ Y h
theorem execC_ok{rec_:Code->St->Option (Ex×St)}{cf:cX}(ba:ExOK P G rec_)(a8:eB P G cf):ExOK P G (fp P G rec_ cf):=by
 intro c;induction c with
 |skip=>
  intro s e s' h hw
  rw[mI]at h
  simp only[a01,a04]at h
  obtain⟨rfl,rfl⟩:=h
  exact⟨Ext.refl _,fun μ a w hd O T Y _=>wp_skip ⟨V,hd,μ,Post.refl Y,O⟩⟩
 |region id ops draw=>
  intro s e s' h hw
  rw[hL]at h
  unfold ek at h
  split at h
  ·rename_i s1 h1;simp only[a01,a04]at h;obtain⟨rfl,rfl⟩:=h;refine⟨region_ext a8 hw h1,fun μ a w hd O T Y Z=>?_⟩;refine region_sound a8 h1 hw O T Y (fun b l hb=>?_) fun μ' w' a' hp bl bb=>⟨V,bb.trans hd,μ',hp,bl⟩
   rcases a0c b s.heap.next with h2|h2
   ·exact .inl h2
   right;rcases a0c b s1.heap.next with h3|h3
   ·rw[Z b h2 h3]at hb;cases hb
   exact h3
  cases h
 |seq x y ihx ihy=>
  intro s e s' h hw
  rw[lO]at h
  cases hx:fp P G rec_ cf x s with
  |none=>rw[hx]at h;cases h
  |some p=>
   obtain⟨e1,s1⟩:=p
   obtain⟨E,U⟩:=ihx s e1 s1 hx hw
   rw[hx]at h
   cases e1 with
   |normal=>
    simp only[hM]at h
    obtain⟨ar,a5⟩:=ihy s1 e s' h (hw.ext E)
    refine⟨E.trans ar,fun μ a w hd O T Y Z=>wp_seq ?_⟩
    refine wp_mono (U μ a w hd O T Y (fun b h1 h2=>Z b h1 (a0S h2 ar.next))).wp ?_
    rintro e2 a2 w2 ⟨rfl,hd2,μ2,hp2,ht2⟩
    exact wp_mono (a5 μ2 a2 w2 hd2 ht2 (T.mono hp2.ext) hp2.wrel (mE hp2 E.next Z)).wp (After.trans hp2 E.next ar.next)
   |exit i=>
    simp only[hM,a01,a04]at h
    obtain⟨rfl,rfl⟩:=h
    refine⟨E,fun μ a w hd O T Y Z=>wp_seq ?_⟩
    refine wp_mono (U μ a w hd O T Y Z).wp ?_
    rintro e2 a2 w2 ⟨rfl,hrest⟩
    exact⟨V,hrest⟩
   |ret=>
    simp only[hM,a01,a04]at h
    obtain⟨rfl,rfl⟩:=h
    refine⟨E,fun μ a w hd O T Y Z=>wp_seq ?_⟩
    refine wp_mono (U μ a w hd O T Y Z).wp ?_
    rintro e2 a2 w2 ⟨rfl,hrest⟩
    exact⟨V,hrest⟩
 |cond c x y ihx ihy=>
  intro s e s' h hw
  rw[jS]at h
  cases hq:bm G c with
  |false=>rw[hq]at h;cases h
  |true=>
   rw[hq]at h
   simp only[cond_true]at h
   unfold mL at h
   split at h
   ·rename_i t hv;have a6: ∀(μ:Emb) (a:Act),TRel μ s.tmps s.size a.tmps->GRel μ G->a.eval c= .bool t:=by
     intro μ a O T;have:=eval_of T hq (tm:=s.tmps) (a:=a) fun k _=>O.2 k
     rw[hv]at this;exact this.bool_inv
    cases t with
    |true=>
     obtain⟨E,U⟩:=ihx s e s' h hw
     exact⟨E,fun μ a w hd O T Y Z=>wp_cond_true (a6 μ a O T) (U μ a w hd O T Y Z).wp⟩
    |false=>
     obtain⟨E,U⟩:=ihy s e s' h hw
     exact⟨E,fun μ a w hd O T Y Z=>wp_cond_false (a6 μ a O T) (U μ a w hd O T Y Z).wp⟩
   cases h
 |block id x ih=>
  intro s e s' h hw
  rw[iS]at h
  cases hx:fp P G rec_ cf x s with
  |none=>rw[hx]at h;cases h
  |some p=>
   obtain⟨e1,s1⟩:=p
   obtain⟨E,U⟩:=ih s e1 s1 hx hw
   rw[hx]at h
   cases e1 with
   |normal=>
    simp only[dH,a01,a04]at h
    obtain⟨rfl,rfl⟩:=h
    refine⟨E,fun μ a w hd O T Y Z=>wp_block ?_⟩
    refine wp_mono (U μ a w hd O T Y Z).wp ?_
    rintro e2 a2 w2 ⟨rfl,hrest⟩
    exact⟨V,hrest⟩
   |exit i=>
    simp only[dH]at h
    cases hb:Nat.beq i id with
    |true=>
     rw[hb]at h
     simp only[cond_true,a01,a04]at h
     obtain⟨rfl,rfl⟩:=h
     have hi:i=id:=a06 hb
     subst hi
     refine⟨E,fun μ a w hd O T Y Z=>wp_block ?_⟩
     refine wp_mono (U μ a w hd O T Y Z).wp ?_
     rintro e2 a2 w2 ⟨rfl,hrest⟩
     simp only[Ex.toExit,Exit.inBlock,if_true]
     exact⟨V,hrest⟩
    |false=>
     rw[hb]at h
     simp only[cond_false,a01,a04]at h
     obtain⟨rfl,rfl⟩:=h
     have hi: ¬i=id:=fun e=>by subst e;rw[a0M]at hb;cases hb
     refine⟨E,fun μ a w hd O T Y Z=>wp_block ?_⟩
     refine wp_mono (U μ a w hd O T Y Z).wp ?_
     rintro e2 a2 w2 ⟨rfl,hrest⟩
     simp only[Ex.toExit,Exit.inBlock,hi,if_false]
     exact⟨V,hrest⟩
   |ret=>
    simp only[dH,a01,a04]at h
    obtain⟨rfl,rfl⟩:=h
    refine⟨E,fun μ a w hd O T Y Z=>wp_block ?_⟩
    refine wp_mono (U μ a w hd O T Y Z).wp ?_
    rintro e2 a2 w2 ⟨rfl,hrest⟩
    exact⟨V,hrest⟩
 |loop x ih=>
  intro s e s' h hw
  rw[jR]at h
  cases hx:fp P G rec_ cf x s with
  |none=>rw[hx]at h;cases h
  |some p=>
   obtain⟨e1,s1⟩:=p
   obtain⟨E,U⟩:=ih s e1 s1 hx hw
   rw[hx]at h
   cases e1 with
   |normal=>
    simp only[hM]at h
    obtain⟨ar,a5⟩:=ba (.loop x) s1 e s' h (hw.ext E)
    refine⟨E.trans ar,fun μ a w hd O T Y Z=>LoopWp.round ?_⟩
    refine wp_mono (U μ a w hd O T Y (fun b h1 h2=>Z b h1 (a0S h2 ar.next))).wp ?_
    rintro e2 a2 w2 ⟨rfl,hd2,μ2,hp2,ht2⟩
    have hl:LoopWp P x (After μ2 s1 w2 e s') a2 w2:=a5 μ2 a2 w2 hd2 ht2 (T.mono hp2.ext) hp2.wrel (mE hp2 E.next Z)
    intro b k cs
    obtain⟨e3,a3,w3,q,r⟩:=hl b k cs
    exact⟨e3,a3,w3,After.trans hp2 E.next ar.next _ _ _ q,r⟩
   |exit i=>
    simp only[hM,a01,a04]at h
    obtain⟨rfl,rfl⟩:=h
    refine⟨E,fun μ a w hd O T Y Z=>LoopWp.round ?_⟩
    refine wp_mono (U μ a w hd O T Y Z).wp ?_
    rintro e2 a2 w2 ⟨rfl,hrest⟩
    exact⟨V,hrest⟩
   |ret=>
    simp only[hM,a01,a04]at h
    obtain⟨rfl,rfl⟩:=h
    refine⟨E,fun μ a w hd O T Y Z=>LoopWp.round ?_⟩
    refine wp_mono (U μ a w hd O T Y Z).wp ?_
    rintro e2 a2 w2 ⟨rfl,hrest⟩
    exact⟨V,hrest⟩
 |exit id=>
  intro s e s' h hw
  rw[mJ]at h
  simp only[a01,a04]at h
  obtain⟨rfl,rfl⟩:=h
  exact⟨Ext.refl _,fun μ a w hd O T Y _=>wp_exit ⟨V,hd,μ,Post.refl Y,O⟩⟩
 |ret=>
  intro s e s' h hw
  rw[execC_ret]at h
  simp only[a01,a04]at h
  obtain⟨rfl,rfl⟩:=h
  exact⟨Ext.refl _,fun μ a w hd O T Y _=>wp_ret ⟨V,hd,μ,Post.refl Y,O⟩⟩
 |rangeFunc f ps x y _ _=>intro s e s' h;cases h
 |scope x _=>intro s e s' h;cases h
 |label l=>intro s e s' h;cases h
 |goto l=>intro s e s' h;cases h
 |refuse m=>intro s e s' h;cases h
theorem iV: ∀(args:List Value) (i:Nat) (t:Tr Value) (k:Nat),dm (fL i args t) k=if i<=k/\k<i+args.length then args.getD (k-i) undef else dm t k
 | [],i,t,k=>by rw[if_neg (by simp only[List.length_nil];omega)];rfl
 |v::l,i,t,k=>by
  simp only[fL];rw[iV l (i+1) _ k];by_cases E:i+1<=k/\k<i+1+l.length
  ·rw[if_pos E,if_pos (by simp only[a02];omega),show k-i=(k-(i+1))+1 by omega];rfl
  rw[if_neg E,gZ];by_cases O:i=k
  ·subst O;rw[if_pos V,if_pos (by simp only[a02];omega)];simp
  rw[if_neg O,if_neg (by simp only[a02];omega)]
theorem args_rel{μ:Emb}{args:List Value}{E:Array Value}(h:LRel μ args E.toList)(n:Nat):
  TRel μ (fL 0 args .nil) (Nat.max args.length n) (E++Array.replicate (n-E.size) undef):=by
 have U:args.length=E.size:=by rw[h.1];simp
 refine⟨by simp only[Array.size_append,Array.size_replicate];rw[U];show _=max _ _;omega,fun i=>?_⟩
 rw[iV]
 simp only[a0l,true_and,a0A,Nat.sub_zero,lget_nil,a0H,Array.getElem?_append]
 by_cases hi:i<args.length
 ·rw[if_pos hi,if_pos M];have O:args[i]?=some args[i]:=a09 hi;obtain⟨v',T,Y⟩:=h.get O;have:E[i]?=some v':=by simpa using T
  rw[this,a08,O];exact Y
 rw[if_neg hi,if_neg M]
 rw[Array.getElem?_replicate]
 split
 ·exact VRel.undef
 exact VRel.undef
theorem iF{μ:Emb}{s:St}{a:Array Value}{w:World}(O:TRel μ s.tmps s.size a)(Z:WRel μ s.heap w): ∀(rs:List ResultVar) (l:List Value),dj P s rs=some l->
  ∃l',(rs.mapM (m:=Sem) fun| .tmp t=>Pure.pure (a.getD t undef)| .cell x t=>do loadVar t (←asAddr (a.getD x undef))).run P w= .ok l' w/\LRel μ l l'
 | [],l,h=>by simp only[dj,a01]at h;subst h;exact⟨[],by simp,.nil⟩
 | .tmp t::rs,l,h=>by
  unfold dj at h;split at h
  ·rename_i l1 U;injection h with h;subst h;obtain⟨l',E,Y⟩:=iF O Z rs l1 U;exact⟨a.getD t undef::l',by simp only[List.mapM_cons,Sem.run_bind,Sem.run_pure,Result.andThen_ok,E],.cons (O.2 t) Y⟩
  cases h
 | .cell x t::rs,l,h=>by
  unfold dj at h;split at h
  ·rename_i p hp;split at h
   ·rename_i v l1 hv U;injection h with h;subst h;obtain⟨l',E,Y⟩:=iF O Z rs l1 U;have hx:=O.2 x;rw[hp]at hx;obtain⟨b,o,sp⟩:=p;have ar:sp=none:=hx.ptr_some.1;subst ar;obtain⟨T,hμ,a0⟩:=hx.ptr_inv;obtain⟨v',an,ax⟩:=iO (P:=P) Z hμ hv;exact⟨v'::l',by simp only[List.mapM_cons,Sem.run_bind,a0,show(asAddr (Value.pointer (some ⟨T.c,T.sh+o,none⟩))).run P w= .ok ⟨T.c,T.sh+o,none⟩ w from V,Sem.run_pure,Result.andThen_ok,an,E],.cons ax Y⟩
   cases h
  cases h
theorem result_rel{μ:Emb}{l l':List Value}(h:LRel μ l l'):VRel μ (eQ l) (if h:l'.toArray.size=1 then l'.toArray[0] else .tuple l'.toArray):=by
 match l,l',h with
 | [],l',h=>
  have:=h.nil_left
  subst this
  exact .tuple _ _ V (fun i v v' h=>by simp at h)
 | [v],l',h=>
  obtain⟨v',t,rfl,O,E⟩:=h.cons_left
  have:=E.nil_left
  subst this
  exact O
 |v::u::r,l',h=>
  obtain⟨v',t,rfl,O,E⟩:=h.cons_left
  obtain⟨Z,Y,rfl,U,T⟩:=E.cons_left
  simp only[List.size_toArray,a02,show ¬(Y.length+1+1=1) by omega,dite_false]
  have:=LRel.cons O (LRel.cons U T)
  exact .tuple _ _ (by simpa[eQ] using this.1) (by simpa[eQ] using this.2)
theorem ng{μ:Emb}{s:St}{fn:Func}{a:Array Value}{w:World}(T:TRel μ s.tmps s.size a)(U:WRel μ s.heap w){l:List Value}(h:dj P s fn.results.toList=some l):
  ∃v',(results fn a).run P w= .ok v' w/\VRel μ (eQ l) v':=by
 obtain⟨l',O,E⟩:=iF (P:=P) T U _ l h
 refine⟨_,?_,result_rel E⟩
 unfold results
 rw[Array.mapM_eq_mapM_toList]
 simp only[Sem.run_bind,Sem.run_map]
 have e: ∀(r:Result (List Value)),r= .ok l' w->((r.andThen fun a w'=>(.ok a.toArray w':Result (Array Value))).andThen fun vs w'=>((Pure.pure (if h:vs.size=1 then vs[0] else Value.tuple vs):Sem Value).run P w'))=
   .ok (if h:l'.toArray.size=1 then l'.toArray[0] else .tuple l'.toArray) w:=by
  intro r E;subst E;rfl
 exact e _ O
theorem callC_ok{ex:Code->St->Option (Ex×St)}(Z:ExOK P G ex):eB P G (nM P ex):=by
 intro f args H v H' h ar;unfold nM at h;split at h
 case h_2=>cases h
 rename_i fn al;split at h
 case h_2=>cases h
 rename_i c hc;have Y: ∀e s,(e=Ex.normal\/e=Ex.ret)->ex c {tmps:=fL 0 args .nil,size:=Nat.max args.length fn.ntmps,heap:=H}=some (e,s)->
   (match dj P s fn.results.toList with|some l=>some (eQ l,s.heap)|none=>none)=some (v,H')->Ext H H'/\
   ∀μ w (E:Array Value),LRel μ args E.toList->GRel μ G->WRel μ H w->(∀b,H.next<=b->b<H'.next->μ b=none)->
    Calls P f E w fun e w'=> ∃μ' v',e= .returned v'/\VRel μ' v v'/\Post μ H w μ' H' w':=by
  intro e s he U O
  split at O
  ·rename_i l hl;simp only[a01,a04]at O;obtain⟨rfl,rfl⟩:=O;obtain⟨ext,ax⟩:=Z c _ e s U ar;refine⟨ext,fun μ w E ha hG hw hf=>?_⟩;refine calls_of_wp al hc ?_;refine wp_mono (ax μ {tmps:=E++Array.replicate (fn.ntmps-E.size) undef,defers:=[]} w V (args_rel ha fn.ntmps) hG hw hf).wp ?_;rintro e2 a2 w2 ⟨rfl,hd,μ',hp,ht⟩;obtain⟨v',T,hr⟩:=ng (P:=P) (fn:=fn) ht hp.wrel hl;rcases he with rfl|rfl
   ·exact⟨hd,v',T,μ',v',V,hr,hp⟩
   exact⟨hd,v',T,μ',v',V,hr,hp⟩
  cases O
 split at h
 ·rename_i s U;exact Y .normal s (.inl V) U h
 ·rename_i s U;exact Y .ret s (.inr V) U h
 cases h
def hZ(P:Program)(G:Nat)(K:bM):Prop:= ∀f args H v,K f args H=some v->args.all noA2=true/\noA2 v=true/\∀(μ:Emb) (E:Array Value) (w:World),E.toList=args->GRel μ G->WRel μ H w->
 Calls P f E w fun e w'=>e= .returned v/\Below w.heap.size w w'
theorem LRel.eq2{μ:Emb}{l l':List Value}(h:LRel μ l l')(E:l.all noA2=true):l'=l:=by
 induction l generalizing l' with
 |nil=>exact h.nil_left
 |cons v l ih=>
  obtain⟨v',U,rfl,T,O⟩:=h.cons_left
  simp only[a0o,a03]at E
  rw[T.eq2 E.1,ih O E.2]
theorem LRel.refl2{μ:Emb}{l:List Value}(h:l.all noA2=true):LRel μ l l:=by refine⟨V,fun i v v' O E=>?_⟩;rw[O]at E;injection E with E;subst E;exact VRel.refl2 (a0s.1 h v (a0n O))
theorem callK_ok{K:bM}{cf:cX}(hK:hZ P G K)(Y:eB P G cf):eB P G (lV K cf):=by
 intro f args H v H' h an;unfold lV at h;split at h
 ·rename_i u hu;simp only[a01,a04]at h;obtain⟨rfl,rfl⟩:=h;obtain⟨h1,h2,h3⟩:=hK f args H u hu;refine⟨Ext.refl _,fun μ w E ha hG U hf=>?_⟩;refine(h3 μ E w (ha.eq2 h1) hG U).mono ?_;rintro e w' ⟨rfl,hb⟩;refine⟨μ,u,V,VRel.refl2 h2,⟨fun _ _ h=>h,fun _ _ h=> .inl h,hb.size,hb.os,hb.tape,hb.output,fun c hc _=>hb.block c hc,fun b l o O T h6=> .inr ⟨b,l,o,O,T,h6,id,V⟩,⟨fun b l o O T=>?_,U.inj⟩⟩⟩;have hr:=U.obj b l o O T;exact hr.keep (fun _ _ h=>h) hb.size (fun Z=>hb.block l.c (hr.lt Z))
 exact Y f args H v H' h an
theorem exec_ok{K:bM}(E:hZ P G K): ∀n,ExOK P G (mK P G K n)
 |0=>fun c s e O h=>by cases h
 |n+1=>execC_ok (exec_ok E n) (callK_ok E (callC_ok (exec_ok E n)))
theorem call_ok{K:bM}(E:hZ P G K)(n:Nat):eB P G (call P G K n):=callK_ok E (callC_ok (exec_ok E n))
theorem none_ok:hZ P G noneKnown:=fun f args H v h=>by cases h
theorem nL{K:bM}(Y:hZ P 0 K){n:Nat}{f:FuncId}{args:List Value}{v:Value}{H':Heap}(ha:args.all noA2=true)(hv:noA2 v=true)
  (h:call P 0 K n f args Heap.empty=some (v,H')) (E:Array Value) (w:World) (hc:E.toList=args):
  Calls P f E w fun e w'=>e= .returned v/\Below w.heap.size w w':=by
 have U:WF Heap.empty:=fun b _=>rfl
 obtain⟨_,O⟩:=call_ok (G:=0) Y n f args Heap.empty v H' h U
 have T:WRel (fun _=>none) Heap.empty w:=⟨fun b l o hb=>(by cases hb),fun b1 b2 l1 l2 o1 o2 _ hb=>(by cases hb)⟩
 refine(O (fun _=>none) w E (by rw[hc];exact LRel.refl2 ha) (fun g hg=>by omega) T (fun _ _ _=>rfl)).mono ?_
 rintro e w' ⟨μ',v',rfl,hr,hp⟩
 rw[hr.eq2 hv]
 refine⟨V,hp.os,hp.tape,hp.out,hp.grow,fun k Z=>hp.keep k Z fun b l o hb=>by cases hb⟩
end
end Go.R
namespace Go.R
open Go.RowKit
theorem walk_of_eval{P:Program}{K:bM}(O:hZ P 0 K){n:Nat}{f:FuncId}(h:saysTrue (call P 0 K n f [] Heap.empty)=true)(w:World):
  Calls P f #[] w fun e w'=>e= .returned (.bool true)/\Below w.heap.size w w':=by
 revert h
 cases hc:call P 0 K n f [] Heap.empty with
 |none=>intro h;cases h
 |some r=>
  obtain⟨v,H'⟩:=r
  intro h
  have T:v= .bool true:=by
   unfold saysTrue at h;split at h
   ·rename_i E;simp only[a01,a04]at E;exact E.1
   cases h
  subst T
  exact nL O V V hc #[] w V
open Go.WideShapes Go.ChangeShapes in
theorem ni{H:Type}{enc:TypeId×Value->H}{P:Program}{f:Func}{s:ChangeSpec}{U a4 ar a3:Bool}{W W':World}{args:Array Value}{v:Value}{ds gs:List (DataW H)}{E pa pv:List MemPlace}
  (hW:DataW.Whole enc P f.params.toList s.vars U W args.toList ds gs E)
  (a2: ∀(b:Nat) (T:Nat->Bool) (hd:Bool),DataW.TrodAll enc P W' b T hd f.resultTypes.toList (v.resultList f.resultTypes.size) (s.fn H (ds++gs)).results [])
  (Y: ∀T:Nat->Bool,(∀p∈E,T p.block=true)->DataW.TrodAll enc P W' 0 T true f.params.toList args.toList (s.fn H (ds++gs)).args pa)
  (al: ∀T:Nat->Bool,(∀p∈E,T p.block=true)->DataW.TrodVars enc P W' T s.vars (s.fn H (ds++gs)).vars pv)
  (Z:E=pa++pv) (hb:Below W.heap.size W W')
  (ba: ∀(j:Nat) (t:TypeId) (r:Value),f.resultTypes[j]?=some t->(v.resultList f.resultTypes.size)[j]?=some r->Value.okWide P W' .any 0 t r):
  s.post enc P f U a4 ar a3 W args v W':=by
 have a1: ∀p∈E,(fun b=>decide (b<W.heap.size)) p.block=true:=fun p O=>by simpa using hW.lt p O
 have a9: ∀p∈E,p.block<W.heap.size:=fun p O=>by simpa using hW.lt p O
 refine⟨ds,gs,E,[],pa,pv,hW,a2 _ _ _,Y _ a1,al _ a1,World.keptBut_mono (fun p O=>⟨O,?_⟩) (hb.frame (· ∈E)),fun _=>?_⟩
 ·rw[Z,a0e]at O;exact Or.inr O
 obtain⟨_,_,_,_,_,hz,hn⟩:=hW
 refine⟨ba,_,_,([]++pa)++pv,⟨[]++pa,pv,trodAll_append (Y _ (fun _ _=>rfl)) (a2 _ _ _),al _ (fun _ _=>rfl),V,?_,?_⟩,?_⟩
 ·intro b off O;have a6:MemPlace.cell b off∈E:=by rw[Z];simpa using O
  have h1:=hb.frozen (p:=⟨b,off,none⟩) (a9 _ a6);have h2:=hz b off a6;first|(rw[h1];exact h2)|(exact h1.trans h2)|(simp_all)
 ·intro ha;have:=hn ha;rw[Z]at this;simpa using this
 intro p O _
 rw[Z]
 simpa using O
end Go.R
noncomputable section
namespace Go.R
open Go.RowKit
section
variable {P:Program} {w:World} {base:Nat} {held:Bool} {enc:TypeId×Value->Unit}
def lit1(P:Program)(t:TypeId)(d:DataW Unit):Option Value:=
 match P.underlying t,d with
 |some .bool,.lit (.bool b)=>some (.bool b)
 |some (.int k),.lit (.int _ n)=>some (.int k n)
 |some .string,.lit (.string l)=>some (.string ⟨⟨l⟩⟩)
 |_,_=>none
def flatFs(P:Program):Nat->List Field->Bool
 |_,[]=>true
 |i,f::fs=>Nat.beq f.offset i&&Nat.beq (P.cellsOf f.type) 1&&flatFs P (i+1) fs
def litFs(P:Program):List Field->List (DataW Unit)->Option (List Value)
 | [],[]=>some []
 |f::fs,d::ds=>
  match lit1 P f.type d,litFs P fs ds with
  |some v,some l=>some (v::l)
  |_,_=>none
 |_,_=>none
def litRows(P:Program)(fs:List Field):List (DataW Unit)->Option (List (List Value))
 | []=>some []
 | .agg ds::r=>
  match litFs P fs ds,litRows P fs r with
  |some l,some m=>some (l::m)
  |_,_=>none
 |_::_=>none
end
end Go.R
end
namespace Go.R
def CfLe(cf cf':cX):Prop:= ∀f a H r,cf f a H=some r->cf' f a H=some r
def ExLe(ex E:Code->St->Option (Ex×St)):Prop:= ∀c s r,ex c s=some r->E c s=some r
section
variable {P:Program} {G:Nat} {cf cf':cX} {ops:Array Oper}
theorem step_mono(h:CfLe cf cf'){o:Oper}{s T:St}(hs:step P G cf ops o s=some T):step P G cf' ops o s=some T:=by
 unfold step at hs⊢;cases O:bg ops o s.tmps with
 |false=>rw[O]at hs;exact hs
 |true=>
  rw[O]at hs
  cases E:o.op.operands.toList.all (bm G) with
  |false=>rw[E]at hs;cases hs
  |true=>
   rw[E]at hs
   simp only[cond_true]at hs⊢
   split at hs
   ·exact hs
   ·exact hs
   ·split at hs
    ·rename_i v U hc;rw[h _ _ _ _ hc];exact hs
    cases hs
   cases hs
theorem iE(h:CfLe cf cf'): ∀(l:List Oper) (s E:St),gD P G cf ops l s=some E->gD P G cf' ops l s=some E
 | [],_,_,hs=>hs
 |o::l,s,E,hs=>by
  rw[cu]at hs⊢;split at hs
  ·rename_i t O;rw[step_mono h O];exact iE h l _ _ hs
  cases hs
theorem stepD_mono(h:CfLe cf cf'){o:Oper}{s:St}{r:St×Inf}(hs:iB P G cf ops o s=some r):iB P G cf' ops o s=some r:=by
 unfold iB at hs⊢;split at hs
 ·rename_i t E;rw[step_mono h E];exact hs
 cases hs
theorem fD(h:CfLe cf cf'): ∀(l:List Oper) (i:Nat) (fs:List (Nat×Inf)) (s s':St),bB P G cf ops i fs l s=some s'->bB P G cf' ops i fs l s=some s'
 | [],_,_,_,_,hs=>by unfold bB at hs⊢;exact hs
 |o::l,i,fs,s,s',hs=>by
  unfold bB at hs⊢;split at hs
  ·rename_i t f O;rw[stepD_mono h O];simp only;cases E:cJ (cT ops) i f fs with
   |false=>rw[E]at hs;cases hs
   |true=>rw[E]at hs;simp only[cond_true]at hs⊢;exact fD h l _ _ _ _ hs
  cases hs
theorem me(h:CfLe cf cf'){E:Bool}{s T:St}(hs:bY P G cf ops E s=some T):bY P G cf' ops E s=some T:=by
 unfold bY at hs⊢;cases E with
 |false=>exact iE h _ _ _ hs
 |true=>
  simp only[cond_true]at hs⊢
  cases O:jg ops&&P.follows .mixedOrders with
  |false=>rw[O]at hs;cases hs
  |true=>rw[O]at hs;simp only[cond_true]at hs⊢;exact fD h _ _ _ _ _ hs
theorem ir{r T:Option (Ex×St)}{k O:St->Option (Ex×St)}(Y: ∀x,r=some x->T=some x)(U: ∀s x,k s=some x->O s=some x){x:Ex×St}(h:hM r k=some x):hM T O=some x:=by
 cases E:r with
 |none=>rw[E]at h;cases h
 |some y=>
  rw[Y y E]
  rw[E]at h
  obtain⟨e,s⟩:=y
  cases e with
  |normal=>exact U _ _ h
  |exit i=>exact h
  |ret=>exact h
theorem kh{id:Nat}{r O:Option (Ex×St)}(T: ∀x,r=some x->O=some x){x:Ex×St}(h:dH id r=some x):dH id O=some x:=by
 cases E:r with
 |none=>rw[E]at h;cases h
 |some y=>rw[T y E];rw[E]at h;exact h
theorem execC_mono(h:CfLe cf cf'){ex T:Code->St->Option (Ex×St)}(U:ExLe ex T)(c:Code): ∀(s:St) (x:Ex×St),fp P G ex cf c s=some x->fp P G T cf' c s=some x:=by
 induction c with
 |skip=>intro s x E;exact E
 |region id ops draw=>
  intro s x E
  rw[hL]at E⊢
  cases O:bY P G cf ops draw s with
  |none=>rw[O]at E;cases E
  |some t=>rw[me h O];rw[O]at E;exact E
 |seq a b iha ihb=>
  intro s x E
  rw[lO]at E⊢
  exact ir (iha s) ihb E
 |cond c t e iht ihe=>
  intro s x E
  rw[jS]at E⊢
  cases O:bm G c with
  |false=>rw[O]at E;cases E
  |true=>
   rw[O]at E
   simp only[cond_true]at E⊢
   unfold mL at E⊢
   split at E
   ·rename_i b hb;cases b with
    |true=>exact iht s x E
    |false=>exact ihe s x E
   cases E
 |block id b ih=>
  intro s x E
  rw[iS]at E⊢
  exact kh (ih s) E
 |loop b ih=>
  intro s x E
  rw[jR]at E⊢
  exact ir (ih s) (U _) E
 |exit id=>intro s x E;exact E
 |ret=>intro s x E;exact E
 |_=>intro s x E;cases E
theorem mS{ex E:Code->St->Option (Ex×St)}(O:ExLe ex E):CfLe (nM P ex) (nM P E):=by
 intro f a H r h;unfold nM at h⊢;split at h
 ·split at h
  ·split at h
   ·rename_i s T;rw[O _ _ _ T];exact h
   ·rename_i s T;rw[O _ _ _ T];exact h
   cases h
  cases h
 cases h
theorem mR{K:bM}(h:CfLe cf cf'):CfLe (lV K cf) (lV K cf'):=by
 intro f a H r E;unfold lV at E⊢;split at E
 ·exact E
 exact h _ _ _ _ E
theorem jo{K:bM}: ∀n,ExLe (mK P G K n) (mK P G K (n+1))
 |0=>fun c s r h=>by cases h
 |n+1=>fun c s r h=>execC_mono (mR (mS (jo n))) (jo n) c s r h
theorem jq{K:bM}{n m:Nat}(h:n<=m):ExLe (mK P G K n) (mK P G K m):=by
 induction h with
 |refl=>exact fun _ _ _ h=>h
 |step _ ih=>exact fun c s r h=>jo _ c s r (ih c s r h)
theorem gc{K:bM}{n m:Nat}(h:n<=m):CfLe (call P G K n) (call P G K m):=mR (mS (jq h))
end
end Go.R
