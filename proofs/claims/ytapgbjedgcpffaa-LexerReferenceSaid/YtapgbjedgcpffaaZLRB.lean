/-
The evaluator is sound: regions, code, calls, laws.
-/
import Derived.Test.YtapgbjedgcpffaaZLRA
import Derived.Below
import Derived.ChangeSame
import Derived.ChangeArms
namespace Go.R
structure Ext(H H':Heap):Prop where
 next:H.next<=H'.next
 log: ∃d,H'.log=d++H.log/\∀b,b<H.next->b∉d->H'.get b=H.get b
 far: ∀b,H'.next<=b->H'.get b=H.get b
theorem Ext.refl(H:Heap):Ext H H:=⟨a07 _,⟨[],rfl,fun _ _ _=>rfl⟩,fun _ _=>rfl⟩
theorem Ext.trans{H H1 O:Heap}(h:Ext H H1)(k:Ext H1 O):Ext H O:=by
 obtain⟨T,Y,g1⟩:=h.log;obtain⟨U,Z,g2⟩:=k.log;refine⟨a0e h.next k.next,⟨U++T,by rw[Z,Y,a08],fun b hb E=>?_⟩,fun b hb=>?_⟩
 ·rw[a0h,not_or]at E;rw[g2 b (a0O hb h.next) E.1,g1 b hb E.2]
 rw[k.far b hb,h.far b (a0e k.next hb)]
theorem Ext.push(H:Heap)(o:AObj):Ext H (H.push o):=by refine⟨by simp,⟨[],rfl,fun b hb _=>Heap.get_push_ne H o (by omega)⟩,fun b hb=>Heap.get_push_ne H o ?_⟩;simp at hb;omega
theorem Ext.put{H:Heap}{b:Nat}(o:AObj)(hb:b<H.next):Ext H (H.put b o):=by refine⟨a07 _,⟨[b],rfl,fun k _ h=>Heap.get_put_ne H o (fun e=>h (by simp[e]))⟩,fun k h=>Heap.get_put_ne H o ?_⟩;simp at h;omega
def WF(H:Heap):Prop:= ∀b,H.next<=b->H.get b=none
theorem WF.ext{H H':Heap}(h:WF H)(e:Ext H H'):WF H':=fun b hb=>by rw[e.far b hb];exact h b (a0e e.next hb)
theorem WF.lt{H:Heap}(h:WF H){b:Nat}{o:AObj}(E:H.get b=some o):b<H.next:=by
 rcases a0k b H.next with hl|hl
 ·exact hl
 rw[h b hl]at E;cases E
section ext
variable {P:Program} {H H':Heap}
def ER(H:Heap){α:Type}(r:Option (α×Heap)):Prop:= ∀a H',r=some (a,H')->Ext H H'
theorem ER.none_{α:Type}:ER H (none:Option (α×Heap)):=fun _ _ h=>by cases h
theorem ER.some_{α:Type}{a:α}{H1:Heap}(h:Ext H H1):ER H (some (a,H1)):=fun _ _ e=>by injection e with e;injection e with _ e;subst e;exact h
theorem ER.same{α:Type}{a:α}:ER H (some (a,H)):=ER.some_ (Ext.refl H)
theorem ER.bif_{α:Type}{c:Bool}{x y:Option (α×Heap)}(h:ER H x)(k:ER H y):ER H (bif c then x else y):=by cases c<;>assumption
def EO(H:Heap)(r:Option Heap):Prop:= ∀H',r=some H'->Ext H H'
theorem EO.none_:EO H none:=fun _ h=>by cases h
theorem EO.some_{H1:Heap}(h:Ext H H1):EO H (some H1):=fun _ e=>by injection e with e;subst e;exact h
theorem EO.bif_{c:Bool}{x y:Option Heap}(h:EO H x)(k:EO H y):EO H (bif c then x else y):=by cases c<;>assumption
theorem ER.ovl_(r:Option Value):ER H (ovl r H):=by unfold ovl;split;exact ER.same;exact ER.none_
theorem ER.ovh_{r:Option (Value×Heap)}(h:ER H r):ER H (ovh r):=by
 unfold ovh;split
 ·rename_i v E;exact ER.some_ (h v E rfl)
 exact ER.none_
theorem ER.osk_{r:Option Heap}(h:EO H r):ER H (osk r):=by
 unfold osk;split
 ·rename_i E;exact ER.some_ (h E rfl)
 exact ER.none_
theorem ER.lift_(s:Sem Value):ER H (lift P s H):=by unfold lift;split;exact ER.same;exact ER.none_
theorem ER.plain_(ρ:Operand->Value)(o:Oper):ER H (bG P ρ o H):=by
 unfold bG;refine ER.bif_ ?_ ER.none_;split
 ·exact ER.bif_ ER.same ER.none_
 exact ER.none_
theorem hU(E:WF H)(a:Addr)(vs:List Value):EO H (H.storeL a vs):=by
 unfold Heap.storeL;split
 ·split
  ·rename_i h;exact EO.bif_ (EO.some_ (Ext.put _ (E.lt h))) EO.none_
  exact EO.none_
 exact EO.none_
theorem append_ext(E:WF H)(types:Array TypeId)(s x:Value):ER H (eZ P types s x H):=by
 unfold eZ;split
 case h_2=>exact ER.none_
 split
 case h_2=>exact ER.none_
 split
 ·exact ER.none_
 split
 case h_2=>exact ER.none_
 split
 ·exact ER.none_
 split
 ·exact ER.bif_ ER.same (ER.bif_ (ER.some_ (Ext.push _ _)) ER.none_)
 ·split
  ·rename_i T;refine ER.bif_ (ER.bif_ ER.same ?_) (ER.bif_ ?_ ER.none_)
   ·split
    ·rename_i O h;exact ER.some_ (hU E _ _ O h)
    exact ER.none_
   split
   ·exact ER.none_
   split
   ·exact ER.some_ (Ext.push _ _)
   exact ER.bif_ (ER.some_ ((Ext.put .dead (E.lt T)).trans (Ext.push _ _))) ER.none_
  exact ER.none_
 exact ER.none_
theorem copy_ext(O:WF H)(types:Array TypeId)(d s:Value):ER H (aCopy P types d s H):=by
 unfold aCopy;split
 case h_2=>exact ER.none_
 split
 case h_2=>exact ER.none_
 split
 case h_2=>exact ER.none_
 refine ER.bif_ ER.same ?_;split
 ·split
  ·rename_i E h;exact ER.some_ (hU O _ _ E h)
  exact ER.none_
 exact ER.none_
theorem j2(E:WF H)(t:TypeId)(m k v:Value):EO H (fN P t m k v H):=by
 unfold fN;split
 ·split
  ·split
   ·rename_i h;exact EO.bif_ (EO.some_ (Ext.put _ (E.lt h))) EO.none_
   exact EO.none_
  exact EO.none_
 exact EO.none_
theorem aop_er(E:WF H)(ρ:Operand->Value)(o:Oper):ER H (aop P ρ o H):=by
 unfold aop;split
 ·exact ER.same
 ·exact ER.same
 ·unfold fA;split;exact ER.same;exact ER.none_
 ·unfold ei;split;exact ER.some_ (Ext.push _ _);exact ER.none_
 ·exact ER.some_ (Ext.push _ _)
 ·unfold gz;split;exact ER.lift_ _;exact ER.none_
 ·unfold bI;split
  ·refine ER.bif_ ?_ ER.none_;split
   ·exact ER.some_ (Ext.push _ _)
   exact ER.none_
  exact ER.none_
 ·unfold d5;split;exact ER.ovl_ _;exact ER.none_
 ·unfold gy;split
  ·split
   ·exact ER.bif_ (ER.osk_ (hU E _ _)) ER.none_
   exact ER.none_
  exact ER.none_
 ·unfold opNil;split;exact ER.same;exact ER.same;exact ER.none_
 ·unfold aBin;split
  ·unfold binInt;split;exact ER.ovl_ _;exact ER.none_
  ·unfold binStr;split;exact ER.ovl_ _;exact ER.none_
  unfold ln;split
  ·exact ER.plain_ _ _
  ·exact ER.plain_ _ _
  intro a H' h;rw[(ig h).1];exact Ext.refl _
 ·unfold eF;split;exact ER.ovl_ _;exact ER.ovl_ _;exact ER.plain_ _ _
 ·exact ER.same
 ·exact ER.some_ (Ext.push _ _)
 ·refine ER.ovh_ ?_;unfold aMake;split
  ·split
   ·exact ER.bif_ (ER.some_ (Ext.push _ _)) ER.none_
   exact ER.none_
  exact ER.none_
 ·exact ER.ovl_ _
 ·exact ER.ovl_ _
 ·exact ER.ovl_ _
 ·exact ER.ovl_ _
 ·unfold jT;split;exact ER.ovl_ _;exact ER.lift_ _
 ·exact ER.ovl_ _
 ·exact ER.osk_ (j2 E _ _ _ _)
 ·exact ER.osk_ (j2 E _ _ _ _)
 ·refine ER.ovh_ ?_;unfold aRange;split;exact ER.some_ (Ext.push _ _);exact ER.none_
 ·refine ER.ovh_ ?_;unfold aNext;split
  ·split
   ·rename_i O;exact ER.bif_ (ER.some_ (Ext.put _ (E.lt O))) ER.same
   exact ER.none_
  exact ER.none_
 ·exact ER.ovl_ _
 ·unfold opCall;split
  ·unfold lB;split
   ·unfold bLen;split;exact ER.ovl_ _;exact ER.none_
   ·unfold bAppend;split;exact ER.ovh_ (append_ext E _ _ _);exact ER.none_
   ·unfold bCopy;split;exact ER.ovh_ (copy_ext E _ _ _);exact ER.none_
   ·exact ER.plain_ _ _
   ·exact ER.plain_ _ _
   exact ER.none_
  ·unfold fS;split;exact ER.same;exact ER.none_
  exact ER.none_
 ·unfold aUn;split
  ·split;exact ER.same;exact ER.none_
  exact ER.plain_ _ _
 exact ER.none_
theorem lu(E:WF H){ρ:Operand->Value}{o:Oper}{r:AN}(h:aop P ρ o H=some (r,H')):Ext H H':=aop_er E ρ o r H' h
end ext
section
variable {P:Program} {μ:Emb} {H H':Heap} {w:World}
theorem two_of{l:List Value}{a b:Value}{E:Array Value}(h:LRel μ l E.toList)(he:l=[a,b]): ∃O T,E= #[O,T]/\VRel μ a O/\VRel μ b T:=by subst he;obtain⟨O,t,Y,ha,ht⟩:=h.cons_left;obtain⟨T,t2,Z,hb,U⟩:=ht.cons_left;have:=U.nil_left;subst this Z;exact⟨O,T,a0X.1 (by rw[Y]),ha,hb⟩
theorem one_of{l:List Value}{a:Value}{E:Array Value}(h:LRel μ l E.toList)(U:l=[a]): ∃O,E= #[O]/\VRel μ a O:=by subst U;obtain⟨O,t,T,ha,Y⟩:=h.cons_left;have:=Y.nil_left;subst this;exact⟨O,a0X.1 (by rw[T]),ha⟩
theorem OpOK.of_value{s:Sem Next}{v v':Value}(h: ∀w,s.run P w= .ok (.value v') w)(O:WRel μ H w)(E:VRel μ v v'):OpOK P μ H w s (.val v) H:=
 ⟨.value v',w,μ,h w,Post.refl O,E⟩
theorem eU{ρ ρ':Operand->Value}{x:Option Operand}(h: ∀y,x=some y->VRel μ (ρ y) (ρ' y)):
  (∀v,x.map ρ=some v->∃v',x.map ρ'=some v'/\VRel μ v v')/\(x.map ρ=none->x.map ρ'=none):=by
 cases x with
 |none=>exact⟨fun v E=>by simp at E,fun _=>rfl⟩
 |some y=>exact⟨fun v E=>by simp at E;subst E;exact⟨_,rfl,h y rfl⟩,fun O=>by simp at O⟩
set_option maxHeartbeats 4000000 in
theorem hN{ρ ρ':Operand->Value}{o:Oper}{r:AN}(U: ∀x∈o.op.operands,VRel μ (ρ x) (ρ' x))(Y:WRel μ H w)
  (hf: ∀b,H.next<=b->b<H'.next->μ b=none) (h:aop P ρ o H=some (r,H')):OpOK P μ H w (execOp ρ' o) r H':=by
 cases hk:bk o.op with
 |true=>
  obtain⟨rfl,v,v',rfl,E,hr⟩:=jm hk U h
  exact OpOK.of_value E Y hr
 |false=>
  obtain⟨a0,op,type,pos,after,Z⟩:=o
  cases op<;>simp only[bk,reduceCtorEq]at hk
  case alloc e=>
   have O:ei P e H=some (r,H'):=h
   have:=alloc_sound Y hf O
   exact this
  case box e x=>
   have O:some (AN.val (ptrTo H.next),aZ H (ρ x).cells.toList none)=some (r,H'):=h
   simp only[a03,a04]at O
   obtain⟨rfl,rfl⟩:=O
   have:=box_sound (P:=P) (e:=e) Y (hf H.next (a07 _) (by simp[aZ])) (U x (by simp[Op.operands]))
   exact this
  case buildSlice t n parts=>
   have O:bI P t n (fe (fun p=>(p.1,ρ p.2)) parts.toList) H=some (r,H'):=h
   rw[jF]at O
   have:=i4 (ps':=parts.map fun(i,x)=>(i,ρ' x)) Y hf (by simp) (fun i x x' h1 h2=>?_) O
   ·exact this
   simp only[Array.toList_map,a1y,a1w]at h1 h2
   obtain⟨y,hy,rfl⟩:=h1
   obtain⟨z,hz,rfl⟩:=h2
   rw[hy]at hz;injection hz with hz;subst hz
   refine⟨rfl,U _ ?_⟩
   have:=a0p hy
   simp only[Op.operands,List.mem_toArray,a0s]
   exact⟨y,this,rfl⟩
  case load t a=>
   have O:d5 P t (ρ a) H=some (r,H'):=h
   have:=load_sound Y (U a (by simp[Op.operands])) O
   exact this
  case store t a x=>
   have O:gy P t (ρ a) (ρ x) H=some (r,H'):=h
   have:=store_sound Y (U a (by simp[Op.operands])) (U x (by simp[Op.operands])) O
   exact this
  case convert s d x=>
   have O:eF P ρ ⟨a0,.convert s d x,type,pos,after,Z⟩ s d (ρ x) H=some (r,H'):=h
   exact lf (o:=⟨a0,.convert s d x,type,pos,after,Z⟩) Y rfl U O
  case makeMap t rsv=>
   cases rsv with
   |some _=>simp[aop]at h
   |none=>
    have O:some (AN.val (.map (some H.next)),H.push (.tab []))=some (r,H'):=h
    simp only[a03,a04]at O
    obtain⟨rfl,rfl⟩:=O
    have:=kV (P:=P) t Y (hf H.next (a07 _) (by simp))
    exact this
  case makeSlice t l c=>
   have O:ovh (aMake P t (ρ l) (ρ c) H)=some (r,H'):=h
   have:=make_sound Y hf (U l (by simp[Op.operands])) (U c (by simp[Op.operands])) O
   exact this
  case slice t x lo hi mx=>
   obtain⟨a1,a2⟩:=eU (μ:=μ) (ρ:=ρ) (ρ':=ρ') (x:=lo) fun y hy=>U y (by subst hy;simp[Op.operands])
   obtain⟨b1,b2⟩:=eU (μ:=μ) (ρ:=ρ) (ρ':=ρ') (x:=hi) fun y hy=>U y (by subst hy;simp[Op.operands])
   obtain⟨_,c2⟩:=eU (μ:=μ) (ρ:=ρ) (ρ':=ρ') (x:=mx) fun y hy=>U y (by subst hy;simp[Op.operands])
   have O:ovl (bS P t (ρ x) (lo.map ρ) (hi.map ρ) (mx.map ρ) H) H=some (r,H'):=h
   have:=slice_sound Y (U x (by simp[Op.operands])) a1 a2 b1 b2 c2 O
   exact this
  case lookup t m k ok=>
   have O:ovl (lz P t (ρ m) (ρ k) ok H) H=some (r,H'):=h
   obtain⟨rfl,v,hv,rfl⟩:=cx O
   obtain⟨v',E,hr⟩:=lookup_sound (P:=P) Y (U m (by simp[Op.operands])) (U k (by simp[Op.operands])) hv
   have:=OpOK.value E (Post.refl Y) hr
   exact this
  case mapUpdate t m k x=>
   have O:osk (fN P t (ρ m) (ρ k) (ρ x) H)=some (r,H'):=h
   obtain⟨hu,rfl⟩:=osk_inv O
   obtain⟨w',E,hp⟩:=iu (P:=P) Y (U m (by simp[Op.operands])) (U k (by simp[Op.operands])) (U x (by simp[Op.operands])) hu
   have:=OpOK.skip E hp
   exact this
  case insert t m k x=>
   have O:osk (fN P t (ρ m) (ρ k) (ρ x) H)=some (r,H'):=h
   obtain⟨hu,rfl⟩:=osk_inv O
   obtain⟨w',E,hp⟩:=iu (P:=P) Y (U m (by simp[Op.operands])) (U k (by simp[Op.operands])) (U x (by simp[Op.operands])) hu
   have:=OpOK.skip E hp
   exact this
  case range t x=>
   have O:ovh (aRange P t (ρ x) H)=some (r,H'):=h
   have:=range_sound Y hf (U x (by simp[Op.operands])) O
   exact this
  case next it isS=>
   cases isS with
   |false=>simp[aop]at h
   |true=>
    have O:ovh (aNext H (ρ it))=some (r,H'):=h
    have:=next_sound (P:=P) (type:=type) Y (U it (by simp[Op.operands])) O
    exact this
  case call c=>
   obtain⟨an,args,T⟩:=c
   have al:LRel μ (fe ρ args.toList) (args.map ρ').toList:=by
    rw[jF];have:=jh (μ:=μ) (ops:=args) (ρ:=ρ) (ρ':=ρ') fun x hx=>U x (by simp[Op.operands,Call.operands];exact .inr hx)
    simpa using this
   have h:opCall P ρ ⟨a0,.call ⟨an,args,T⟩,type,pos,after,Z⟩ ⟨an,args,T⟩ H=some (r,H'):=h
   unfold opCall at h
   cases an with
   |invoke rv nm=>simp at h
   |value f=>
    simp only at h
    unfold fS at h
    split at h
    ·rename_i n hn;simp only[a03,a04]at h;obtain⟨rfl,rfl⟩:=h;obtain⟨i,cl,rfl,b3,E,hr⟩:=callee_sound (P:=P) (U f (by simp[Op.operands,Call.operands])) al hn;refine⟨.enter i b3,w,μ,?_,Post.refl Y,rfl,hr⟩;have:=E w;simpa only[execOp,resolve] using this
    cases h
   |builtin b=>
    simp only at h
    unfold lB at h
    have a3:bG P ρ ⟨a0,.call ⟨.builtin b,args,T⟩,type,pos,after,Z⟩ H=some (r,H')->OpOK P μ H w (execOp ρ' ⟨a0,.call ⟨.builtin b,args,T⟩,type,pos,after,Z⟩) r H':=by intro hp;obtain⟨rfl,v,v',rfl,E,hr⟩:=dy hp (fun _ _=>by simp) U;exact OpOK.of_value E Y hr
    split at h
    ·--len
     unfold bLen at h;split at h
     ·rename_i t x ht hx;obtain⟨x',a4,b0⟩:=one_of al hx;obtain⟨rfl,v,hv,rfl⟩:=cx h;obtain⟨E,hn⟩:=len_sound (P:=P) (ty:=type) Y b0 hv;have a9:T= #[t]:=a0X.1 (by rw[ht]);refine⟨.value v,w,μ,?_,Post.refl Y,.atom v hn⟩;simp only[execOp,resolve,Sem.run_bind,Sem.run_pure,Result.andThen_ok,invoke,builtin,a4,a9,E]
     cases h
    ·unfold bAppend at h;split at h
     ·rename_i t1 t2 s x ht hx;obtain⟨s',x',a4,bb,b0⟩:=two_of al hx;obtain⟨v,hv,rfl⟩:=jA h;have a9:T= #[t1,t2]:=a0X.1 (by rw[ht]);obtain⟨v',w',μ',E,hp,hr⟩:=append_sound (P:=P) (ty:=type) Y hf bb b0 (by rw[a9];rfl) hv;refine⟨.value v',w',μ',?_,hp,hr⟩;simp only[execOp,resolve,Sem.run_bind,Sem.run_pure,Result.andThen_ok,invoke,builtin,a4,E]
     cases h
    ·unfold bCopy at h;split at h
     ·rename_i d s hx;obtain⟨d',s',a4,ch,bb⟩:=two_of al hx;obtain⟨v,hv,rfl⟩:=jA h;obtain⟨v',w',E,hp,hr⟩:=copy_sound (P:=P) (ty:=type) Y ch bb hv;refine⟨.value v',w',μ,?_,hp,hr⟩;simp only[execOp,resolve,Sem.run_bind,Sem.run_pure,Result.andThen_ok,invoke,builtin,a4,E]
     cases h
    ·exact a3 h
    ·exact a3 h
    cases h
  all_goals simp[aop]at h
end
end Go.R
namespace Go.R
@[simp] theorem lget_nil(i:Nat):cP .nil i=undef:=rfl
@[simp] theorem lget_lset_same(t:Tr Value)(d:Nat)(v:Value):cP (lset t d v) d=v:=by simp[cP,lset]
theorem lget_lset_ne(t:Tr Value){d k:Nat}(v:Value)(h:d≠k):cP (lset t d v) k=cP t k:=by simp[cP,lset,Tr.get_set_ne _ _ h]
theorem fC(t:Tr Value)(d k:Nat)(v:Value):cP (lset t d v) k=if d=k then v else cP t k:=by
 by_cases h:d=k
 ·subst h;simp
 rw[if_neg h,lget_lset_ne t v h]
def TRel(μ:Emb)(t:Tr Value)(n:Nat)(a:Array Value):Prop:=a.size=n/\∀i,VRel μ (cP t i) (a.getD i undef)
def GRel(μ:Emb)(G:Nat):Prop:= ∀g,g<G->∃l,μ g=some l/\l.c=g/\l.sh=0
section
variable {P:Program} {G:Nat} {μ μ':Emb}
theorem TRel.mono(h: ∀b l,μ b=some l->μ' b=some l){t:Tr Value}{n:Nat}{a:Array Value}(E:TRel μ t n a):TRel μ' t n a:=⟨E.1,fun i=>(E.2 i).mono h⟩
theorem GRel.mono(h: ∀b l,μ b=some l->μ' b=some l)(Y:GRel μ G):GRel μ' G:=fun g E=>by obtain⟨l,O,T,U⟩:=Y g E;exact⟨l,h _ _ O,T,U⟩
theorem getD_set(a:Array Value)(d i:Nat)(v:Value):(a.setIfInBounds d v).getD i undef=if d=i/\d<a.size then v else a.getD i undef:=by
 simp only[a0C,a0T];by_cases h:d=i
 ·subst h;by_cases E:d<a.size
  ·simp[E]
  simp[E]
 simp[h]
theorem TRel.put{t:Tr Value}{n:Nat}{a:Array Value}(h:TRel μ t n a){d:Nat}(hd:d<n){v v':Value}(E:VRel μ v v'):TRel μ (lset t d v) n (a.setIfInBounds d v'):=by
 refine⟨by simp[h.1],fun i=>?_⟩;rw[fC,getD_set];by_cases hi:d=i
 ·rw[if_pos hi,if_pos ⟨hi,by rw[h.1];exact hd⟩];exact E
 rw[if_neg hi,if_neg (fun e=>hi e.1)];exact h.2 i
theorem eval_of(Y:GRel μ G){tm:Tr Value}{a:Act}{x:Operand}(E:bH G x=true)(h: ∀t,x= .tmp t->VRel μ (cP tm t) (a.tmps.getD t undef)):
  VRel μ (dl tm x) (a.eval x):=by
 cases x with
 |tmp t=>exact h t rfl
 |const v=>exact VRel.refl2 E
 |global g=>
  obtain⟨l,O,T,U⟩:=Y g (a0d E)
  have:=VRel.ptr (μ:=μ) g 0 l O
  rw[T,U]at this;exact this
 |func f=>exact .atom _ rfl
theorem yield_eq{ops:Array Oper}{tm:Tr Value}{a:Array Value}{j:Nat}(h: ∀d,(ops[j]?).bind (·.dst)=some d->VRel μ (cP tm d) (a.getD d undef)):
  jZ ops tm j=yielded ops a j:=by
 unfold jZ yielded
 cases hd:(ops[j]?).bind (·.dst) with
 |none=>rfl
 |some d=>
  have E:=h d hd
  simp only[a0n]
  simp only[a0C]at E
  cases ha:a[d]? with
  |none=>
   rw[ha]at E
   simp only[Option.getD_none]at E
   have: ∀b,cP tm d≠ .bool b:=by intro b e;rw[e]at E;have:=E.bool_inv;cases this
   cases O:cP tm d<;>first|rfl|exact absurd O (this _)
  |some x=>
   rw[ha]at E
   simp only[a19]at E
   cases x with
   |bool b=>
    have:cP tm d= .bool b:=by generalize cP tm d=y at E;cases E;rfl
    rw[this]
   |_=>
    have: ∀b,cP tm d≠ .bool b:=by intro b e;rw[e]at E;have:=E.bool_inv;cases this
    cases O:cP tm d<;>first|rfl|exact absurd O (this _)
theorem wanted_eq{ops:Array Oper}{o:Oper}{tm:Tr Value}{a:Array Value}(h: ∀j w,o.guard=some (j,w)->∀d,(ops[j]?).bind (·.dst)=some d->VRel μ (cP tm d) (a.getD d undef)):
  bm ops o tm=Region.wanted o (yielded ops a):=by
 unfold bm Region.wanted
 cases E:o.guard with
 |none=>rfl
 |some p=>
  obtain⟨j,w⟩:=p
  simp only
  rw[yield_eq (h j w E)]
def dT(P:Program)(G:Nat)(cf:cF):Prop:= ∀f args H v H',cf f args H=some (v,H')->WF H->Ext H H'/\
 ∀μ w (cargs:Array Value),LRel μ args cargs.toList->GRel μ G->WRel μ H w->(∀b,H.next<=b->b<H'.next->μ b=none)->
  Calls P f cargs w fun e w'=> ∃μ' v',e= .returned v'/\VRel μ' v v'/\Post μ H w μ' H' w'
noncomputable def d6 (P : Program) (cf : cF) (ρ : Operand -> Value) (o : Oper) (H : Heap) : Option (Value × Heap) :=
 match aop P ρ o H with
 |some (.val v,h)=>some (v,h)
 |some (.skip,h)=>some (undef,h)
 |some (.enter f args,h)=>cf f args h
 |none=>none
theorem step_eq(cf:cF)(ops:Array Oper)(o:Oper)(s:St):step P G cf ops o s=
  bif bm ops o s.tmps then
   bif o.op.operands.toList.all (bH G) then
    match d6 P cf (dl s.tmps) o s.heap with
    |some (v,h)=>{s with heap:=h}.put o.dst v
    |none=>none
   else none
  else s.put o.dst undef:=by
 unfold step d6
 cases bm ops o s.tmps with
 |false=>rfl
 |true=>
  cases o.op.operands.toList.all (bH G) with
  |false=>rfl
  |true=>
   simp only[cond_true]
   cases aop P (dl s.tmps) o s.heap with
   |none=>rfl
   |some p=>
    obtain⟨r,h⟩:=p
    cases r with
    |val v=>rfl
    |skip=>rfl
    |enter f args=>
     simp only
     cases cf f args h with
     |none=>rfl
     |some q=>rfl
theorem gw{s O:St}{E:Option Tmp}{v:Value}(h:s.put E v=some O):
  O.size=s.size/\O.heap=s.heap/\((E=none/\O.tmps=s.tmps)\/∃d,E=some d/\d<s.size/\O.tmps=lset s.tmps d v):=by
 unfold St.put at h
 split at h
 ·rename_i d;cases T:Nat.ble (d+1) s.size with
  |false=>rw[T]at h;cases h
  |true=>
   rw[T]at h;simp only[cond_true,a03]at h;subst h
   exact⟨rfl,rfl,.inr ⟨d,rfl,a0d T,rfl⟩⟩
 injection h with h;subst h;exact⟨rfl,rfl,.inl ⟨rfl,rfl⟩⟩
theorem ku{cf:cF}(U:dT P G cf){ρ:Operand->Value}{o:Oper}{H H':Heap}{v:Value}(E:WF H)(h:d6 P cf ρ o H=some (v,H')):Ext H H':=by
 unfold d6 at h;split at h
 ·rename_i u O ha;simp only[a03,a04]at h;rw[←h.2];exact lu E ha
 ·rename_i O ha;simp only[a03,a04]at h;rw[←h.2];exact lu E ha
 ·rename_i f args O ha;have T:=lu E ha;exact T.trans (U f args O v H' h (E.ext T)).1
 cases h
theorem iJ{cf:cF}(a6:dT P G cf){ρ:Operand->Value}{o:Oper}{a:Act}{H H':Heap}{v:Value}{w:World}(ax:WF H)(hρ: ∀x∈o.op.operands,VRel μ (ρ x) (a.eval x))
  (hG:GRel μ G) (hw:WRel μ H w) (hf: ∀b,H.next<=b->b<H'.next->μ b=none) (h:d6 P cf ρ o H=some (v,H')) {K:Act->World->Prop} {Q:Exit->Act->World->Prop}
  (hK: ∀μ' w' v',Post μ H w μ' H' w'->VRel μ' v v'->K (a.put o.dst v') w'):o.wp P a w K Q:=by
 unfold d6 at h
 unfold Oper.wp
 split at h
 ·rename_i u h1 ha;simp only[a03,a04]at h;obtain⟨rfl,rfl⟩:=h;obtain⟨n,w1,U,E,O,T⟩:=hN hρ hw hf ha;rw[E];cases n<;>first|exact hK U w1 _ O T|exact T.elim
 ·rename_i h1 ha;simp only[a03,a04]at h;obtain⟨rfl,rfl⟩:=h;obtain⟨n,w1,U,E,O,T⟩:=hN hρ hw hf ha;rw[E];cases n<;>first|exact hK U w1 _ O VRel.undef|exact T.elim
 ·rename_i f args h1 ha;have e1:=lu ax ha;obtain⟨e2,an⟩:=a6 f args h1 v H' h (ax.ext e1);obtain⟨n,w1,U,E,O,T⟩:=hN hρ hw (fun b Y Z=>hf b Y (a0O Z e2.next)) ha;rw[E];cases n with
  |enter f' cargs=>
   obtain⟨rfl,al⟩:=T
   rw[Oper.upon_enter]
   refine(an U w1 cargs al (hG.mono O.ext) O.wrel (fun b Y Z=>?_)).mono ?_
   ·cases hb:U b with
    |none=>rfl
    |some l=>
     rcases O.dom b l hb with hb0|⟨_,hb3⟩
     ·rw[hf b (a0e e1.next Y) Z]at hb0;cases hb0
     omega
   rintro e w2 ⟨μ2,v',rfl,hv,hp2⟩
   exact hK μ2 w2 v' (O.trans hp2 e1.next e2.next) hv
  |_=>exact T.elim
 cases h
theorem i7{cf:cF}(O:dT P G cf){ops:Array Oper}{o:Oper}{s U:St}(Z:WF s.heap)(h:step P G cf ops o s=some U):Ext s.heap U.heap:=by
 rw[step_eq]at h;cases T:bm ops o s.tmps with
 |false=>rw[T]at h;rw[(gw h).2.1];exact Ext.refl _
 |true=>
  rw[T]at h
  cases E:o.op.operands.toList.all (bH G) with
  |false=>rw[E]at h;cases h
  |true=>
   rw[E]at h
   simp only[cond_true]at h
   split at h
   ·rename_i v h1 Y;rw[(gw h).2.1];exact ku O Z Y
   cases h
theorem eJ(a:Act)(h:Option Tmp)(v:Value):(a.put h v).defers=a.defers:=by cases h<;>rfl
theorem put_rel{s T:St}{E:Option Tmp}{v v':Value}{a:Act}(h:s.put E v=some T)(Y:TRel μ s.tmps s.size a.tmps)(Z:VRel μ v v'):
  TRel μ T.tmps T.size (a.put E v').tmps:=by
 obtain⟨U,_,⟨rfl,O⟩|⟨d,rfl,hd,O⟩⟩:=gw h
 ·rw[U,O];exact Y
 rw[U,O];exact Y.put hd Z
theorem step_sound{cf:cF}(ar:dT P G cf){ops:Array Oper}{i:Nat}{o:Oper}(ho:ops[i]?=some o){s T:St}{a:Act}{w:World}(a3:WF s.heap)(U:TRel μ s.tmps s.size a.tmps)
  (hG:GRel μ G) (hw:WRel μ s.heap w) (hf: ∀b,s.heap.next<=b->b<T.heap.next->μ b=none) (h:step P G cf ops o s=some T) {K:Act->World->Prop} {Q:Exit->Act->World->Prop}
  (hK: ∀μ' w' Z,Post μ s.heap w μ' T.heap w'->TRel μ' T.tmps T.size Z.tmps->Z.defers=a.defers->K Z w'):wpOp P ops Q i K a w:=by
 unfold wpOp
 rw[ho]
 simp only
 have Y:bm ops o s.tmps=Region.wanted o (yielded ops a.tmps):=wanted_eq (μ:=μ) fun _ _ _ d _=>U.2 d
 rw[step_eq,Y]at h
 cases hq:Region.wanted o (yielded ops a.tmps) with
 |false=>
  rw[hq]at h
  simp only[cond_false]at h
  simp only[a0i,if_false]
  have E:=(gw h).2.1
  exact hK μ w _ (by rw[E];exact Post.refl hw) (put_rel h U VRel.undef) (eJ _ _ _)
 |true=>
  rw[hq]at h
  simp only[if_true]
  left
  cases O:o.op.operands.toList.all (bH G) with
  |false=>rw[O]at h;cases h
  |true=>
   rw[O]at h
   simp only[cond_true]at h
   split at h
   ·rename_i v h1 he;have E:=(gw h).2.1;simp only at E;refine iJ ar a3 (fun x hx=>eval_of hG (a0t.1 O x (by simpa using hx)) fun t _=>U.2 t) hG hw (by rw[←E];exact hf) he ?_;intro μ' w' v' hp hv;have a1:TRel μ' s.tmps s.size a.tmps:=U.mono hp.ext;exact hK μ' w' _ (by rw[E];exact hp) (put_rel (s:={s with heap:=h1}) h a1 hv) (eJ _ _ _)
   cases h
theorem ia{cf:cF}(O:dT P G cf){ops:Array Oper}: ∀(l:List Oper) (s E:St),WF s.heap->e9 P G cf ops l s=some E->Ext s.heap E.heap
 | [],s,E,_,h=>by rw[hZ]at h;injection h with h;subst h;exact Ext.refl _
 |o::os,s,E,hw,h=>by
  rw[bZ]at h;split at h
  ·rename_i Y U;have T:=i7 O hw U;exact T.trans (ia O os Y E (hw.ext T) h)
  cases h
theorem iy{cf:cF}(O:dT P G cf){ops:Array Oper}{Q:Exit->Act->World->Prop}: ∀(l:List Oper) (k:Nat) (s E:St),ops.toList.drop k=l->e9 P G cf ops l s=some E->
  ∀(μ:Emb) (a:Act) (w:World),WF s.heap->TRel μ s.tmps s.size a.tmps->GRel μ G->WRel μ s.heap w->(∀b,s.heap.next<=b->b<E.heap.next->μ b=none)->
  (∀μ' w' a',Post μ s.heap w μ' E.heap w'->TRel μ' E.tmps E.size a'.tmps->a'.defers=a.defers->Q .normal a' w')->wpOps P ops Q (List.range' k l.length) a w
 | [],k,s,E,_,h,μ,a,w,hwf,ht,hG,hw,hf,hQ=>by rw[hZ]at h;injection h with h;subst h;simp only[a02,List.range'_zero,wpOps];exact hQ μ w a (Post.refl hw) ht rfl
 |o::os,k,s,E,hd,h,μ,a,w,hwf,ht,hG,hw,hf,hQ=>by
  rw[bZ]at h;split at h
  ·rename_i s1 h1;have Y:=i7 O hwf h1;have e2:=ia O os s1 E (hwf.ext Y) h;have hk:k<ops.toList.length:=by
    rcases a0k k ops.toList.length with hl|hl
    ·exact hl
    rw[a1m hl]at hd;cases hd
   have al:=a0P hk;rw[hd]at al;injection al with h2 h3;have ho:ops[k]?=some o:=by
    have:ops.toList[k]?=some o:=by rw[a0c hk,←h2]
    simpa using this
   simp only[a01,List.range'_succ];rw[wpOps_cons];refine step_sound O ho hwf ht hG hw (fun b T U=>hf b T (a0O U e2.next)) h1 ?_;intro μ1 w1 a1 Z a6 a0;refine iy O os (k+1) s1 E h3.symm h μ1 a1 w1 (hwf.ext Y) a6 (hG.mono Z.ext) Z.wrel (fun b T U=>?_) ?_
   ·cases hb:μ1 b with
    |none=>rfl
    |some l=>
     rcases Z.dom b l hb with hb0|⟨_,hb3⟩
     ·rw[hf b (a0e Y.next T) U]at hb0;cases hb0
     omega
   intro μ2 w2 a2 a5 a7 a3;exact hQ μ2 w2 a2 (Z.trans a5 Y.next e2.next) a7 (a3.trans a0)
  cases h
end
end Go.R
set_option linter.unusedVariables false
set_option linter.unusedSimpArgs false
namespace Go.R
def jY(l:List Nat)(o:Oper):Nat:=o.after.toList.foldl (fun s e=>bif Region.binds .any e then s|||2^e.on|||l.getD e.on 0 else s) 0
theorem gJ: ∀(os:List Oper) (E:List Nat),∃t,ancs os E=E++t/\t.length=os.length
 | [],E=>⟨[],by simp[ancs],rfl⟩
 |o::os,E=>by obtain⟨t,h,O⟩:=gJ os (E++[jY E o]);refine⟨jY E o::t,?_,by simp[O]⟩;show ancs os (E++[jY E o])=_;rw[h];simp
theorem ancs_at: ∀(os:List Oper) (E:List Nat) (k:Nat) (o:Oper),os[k]?=some o->
  (ancs os E).getD (E.length+k) 0=jY ((ancs os E).take (E.length+k)) o
 | [],E,k,o,h=>by simp at h
 |x::os,E,0,o,h=>by
  simp at h;subst h;obtain⟨t,h,_⟩:=gJ os (E++[jY E x]);have e:ancs (x::os) E=E++([jY E x]++t):=by show ancs os (E++[jY E x])=_;rw[h];simp
  rw[e];simp
 |x::os,E,k+1,o,h=>by have ih:=ancs_at os (E++[jY E x]) k o (by simpa using h);have e:ancs (x::os) E=ancs os (E++[jY E x]):=rfl;rw[e];simp only[a00,a0S]at ih;rw[show E.length+(k+1)=E.length+1+k by omega];exact ih
theorem fold_bit(l:List Nat)(j:Nat): ∀(es:List Edge) (s:Nat),(es.foldl (fun s e=>bif Region.binds .any e then s|||2^e.on|||l.getD e.on 0 else s) s).testBit j=true->
  s.testBit j=true\/∃e∈es,Region.binds .any e=true/\(e.on=j\/(l.getD e.on 0).testBit j=true)
 | [],s,h=> .inl h
 |e::es,s,h=>by
  simp only[List.foldl_cons]at h;rcases fold_bit l j es _ h with h1|⟨e',he,h2⟩
  ·cases hb:Region.binds .any e with
   |false=>rw[hb]at h1;exact .inl h1
   |true=>
    rw[hb]at h1
    simp only[cond_true,Nat.testBit_or,a0G]at h1
    rcases h1 with(h1|h1)|h1
    ·exact .inl h1
    ·rw[Nat.testBit_two_pow]at h1;exact .inr ⟨e,by simp,hb,.inl (by simpa using h1)⟩
    exact .inr ⟨e,by simp,hb,.inr h1⟩
  exact .inr ⟨e',by simp[he],h2⟩
theorem ordered_edge{ops:Array Oper}{j k:Nat}(h:bw (cz ops) j k=true):
  ∃o,ops[k]?=some o/\∃e∈o.after.toList,Region.binds .any e=true/\(e.on=j\/(e.on<k/\bw (cz ops) j e.on=true)):=by
 unfold bw at h
 have O:k<ops.toList.length:=by
  obtain⟨t,T,U⟩:=gJ ops.toList [];rcases a0k k ops.toList.length with hlt|hge
  ·exact hlt
  have:(cz ops).getD k 0=0:=by unfold cz;rw[T,a0v,a0b,a1c (by omega)];rfl
  rw[this]at h;simp at h
 have E:ops.toList[k]?=some ops.toList[k]:=a0c O
 have ha:=ancs_at ops.toList [] k _ E
 simp only[a02,a0A]at ha
 change (cz ops).getD k 0=jY ((cz ops).take k) _ at ha
 rw[ha]at h
 rcases fold_bit _ j _ 0 h with h1|⟨e,he,hb,h2⟩
 ·simp at h1
 refine⟨ops.toList[k],by rw[←Array.getElem?_toList];exact E,e,he,hb,?_⟩
 rcases h2 with h2|h2
 ·exact .inl h2
 right
 rcases a0k e.on k with hlt|hge
 ·refine⟨hlt,?_⟩;unfold bw;rw[a0b,a0w,if_pos hlt,←a0b]at h2;exact h2
 rw[a0b,a0w,if_neg (by omega)]at h2
 simp at h2
def DC(ops:Array Oper)(S:Nat->Bool):Prop:= ∀(k:Nat) o,ops[k]?=some o->S k=true->∀e∈o.after.toList,Region.binds .any e=true->S e.on=true
theorem DC.anc{ops:Array Oper}{S:Nat->Bool}(h:DC ops S){j:Nat}: ∀(k:Nat),S k=true->bw (cz ops) j k=true->S j=true:=by
 intro k;induction k using Nat.strongRecOn with
 |_ k ih=>
  intro U Y
  obtain⟨o,E,e,T,hb,O⟩:=ordered_edge Y
  have hs:=h k o E U e T hb
  rcases O with rfl|⟨hlt,h2⟩
  ·exact hs
  exact ih e.on hlt hs h2
structure RegFacts(ops:Array Oper):Prop where
 back: ∀(j:Nat) o,ops[j]?=some o->∀e∈o.after.toList,Region.binds .any e=true->e.on<j
 pair: ∀(i j:Nat) x o,i<j->ops[i]?=some x->ops[j]?=some o->bw (cz ops) i j=true\/x.apart ops o=true
theorem regOK_facts{ops:Array Oper}(h:jv ops=true):RegFacts ops:=by
 unfold jv at h;simp only[a0t,List.mem_range]at h;refine⟨fun j o O e Y hb=>?_,fun i j x o U Z O=>?_⟩
 ·have T:j<ops.size:=(a0E.1 O).1;have:=h j T;rw[O]at this;simp only[a05,a0t]at this;have E:=this.1.1 e Y;rw[hb]at E;simp only[a1j,a1F]at E;exact a0d E
 have T:j<ops.size:=(a0E.1 O).1;have:=h j T;rw[O]at this;simp only[a05,a0t,List.mem_range]at this;have E:=this.2 i U;rw[Z]at E;simpa using E
section
variable (st:Nat->St) (vl:Nat->Value) (ops:Array Oper)
def chg(k b:Nat):Prop:=(st (k+1)).heap.get b≠(st k).heap.get b
open Classical in
noncomputable def jf (S : Nat -> Bool) : Nat -> Nat -> Option AObj
 |0,b=>(st 0).heap.get b
 |k+1,b=>if S k=true/\chg st k b then(st (k+1)).heap.get b else jf S k b
def iZ(k:Nat):Option Tmp:=(ops[k]?).bind (·.dst)
open Classical in
noncomputable def tv (S : Nat -> Bool) : Nat -> Nat -> Value
 |0,t=>cP (st 0).tmps t
 |k+1,t=>if S k=true/\iZ ops k=some t then vl k else tv S k t
theorem jM{S:Nat->Bool}{b i:Nat}: ∀m,(∀k,k<m->chg st k b->(S k=true↔k<i))->jf st S m b=(st (min m i)).heap.get b
 |0,_=>by simp[jf]
 |m+1,h=>by
  have ih:=jM m fun k O=>h k (by omega)
  unfold jf;by_cases E:m<i
  ·rw[show min (m+1) i=m+1 by omega];rw[show min m i=m by omega]at ih;by_cases hc:chg st m b
   ·rw[if_pos ⟨(h m (by omega) hc).2 E,hc⟩]
   rw[if_neg (fun e=>hc e.2),ih];unfold chg at hc;exact(Classical.not_not.1 hc).symm
  rw[show min (m+1) i=i by omega];rw[show min m i=i by omega]at ih;rw[if_neg (fun e=>E ((h m (by omega) e.2).1 e.1)),ih]
theorem kz{S S':Nat->Bool}{b:Nat}: ∀m,(∀k,k<m->chg st k b->S k=S' k)->jf st S m b=jf st S' m b
 |0,_=>rfl
 |m+1,h=>by
  have ih:=kz m fun k E=>h k (by omega)
  unfold jf;by_cases hc:chg st m b
  ·rw[h m (by omega) hc,ih]
  rw[if_neg (fun e=>hc e.2),if_neg (fun e=>hc e.2),ih]
theorem tv_eq{S:Nat->Bool}{t i:Nat}(E: ∀k,cP (st (k+1)).tmps t=if iZ ops k=some t then vl k else cP (st k).tmps t):
  ∀m,(∀k,k<m->iZ ops k=some t->(S k=true↔k<i))->tv st vl ops S m t=cP (st (min m i)).tmps t
 |0,_=>by simp[tv]
 |m+1,h=>by
  have ih:=tv_eq E m fun k T=>h k (by omega)
  unfold tv;by_cases O:m<i
  ·rw[show min (m+1) i=m+1 by omega];rw[show min m i=m by omega]at ih;by_cases hc:iZ ops m=some t
   ·rw[if_pos ⟨(h m (by omega) hc).2 O,hc⟩,E,if_pos hc]
   rw[if_neg (fun e=>hc e.2),ih,E,if_neg hc]
  rw[show min (m+1) i=i by omega];rw[show min m i=i by omega]at ih;rw[if_neg (fun e=>O ((h m (by omega) e.2).1 e.1)),ih]
theorem tv_congr{S S':Nat->Bool}{t:Nat}: ∀m,(∀k,k<m->iZ ops k=some t->S k=S' k)->tv st vl ops S m t=tv st vl ops S' m t
 |0,_=>rfl
 |m+1,h=>by
  have ih:=tv_congr m fun k E=>h k (by omega)
  unfold tv;by_cases hc:iZ ops m=some t
  ·rw[h m (by omega) hc,ih]
  rw[if_neg (fun e=>hc e.2),if_neg (fun e=>hc e.2),ih]
end
structure Inv(ops:Array Oper)(st:Nat->St)(vl:Nat->Value)(μ0:Emb)(w0:World)(d0:List Deferred)(S:Nat->Bool)(μ:Emb)(a:Act)(w:World):Prop where
 dc:DC ops S
 dom: ∀b l,μ b=some l->b<(st 0).heap.next\/(∃k,k<ops.size/\S k=true/\(st k).heap.next<=b/\b<(st (k+1)).heap.next)\/(st ops.size).heap.next<=b
 obj: ∀b l o,μ b=some l->jf st S ops.size b=some o->ObjRel μ w l o
 inj: ∀b1 b2 l1 l2 o1 o2,b1≠b2->μ b1=some l1->μ b2=some l2->jf st S ops.size b1=some o1->jf st S ops.size b2=some o2->o1.rw=true->o2.live=true->l1.c≠l2.c
 size:a.tmps.size=(st 0).size
 tm: ∀t,VRel μ (tv st vl ops S ops.size t) (a.tmps.getD t undef)
 defers:a.defers=d0
 ext0: ∀b l,μ0 b=some l->μ b=some l
 dom0: ∀b l,μ b=some l->μ0 b=some l\/((st 0).heap.next<=b/\b<(st ops.size).heap.next)
 grow0:w0.heap.size<=w.heap.size
 os0:w.os=w0.os
 tape0:w.tape=w0.tape
 out0:w.output=w0.output
 keep0: ∀c,c<w0.heap.size->(∀b l o,μ0 b=some l->(st 0).heap.get b=some o->o.rw=true->l.c≠c)->w.heap[c]?=w0.heap[c]?
 img0: ∀b l o,μ b=some l->jf st S ops.size b=some o->o.live=true->
  w0.heap.size<=l.c\/∃b0 l0 o0,μ0 b0=some l0/\(st 0).heap.get b0=some o0/\o0.live=true/\(o.rw=true->o0.rw=true)/\l0.c=l.c
def iR(S:Nat->Bool)(i:Nat):Nat->Bool:=fun k=>Nat.beq k i||S k
theorem fL(S:Nat->Bool)(i:Nat):iR S i i=true:=by simp[iR]
theorem fM(S:Nat->Bool){i k:Nat}(h:k≠i):iR S i k=S k:=by
 have:Nat.beq k i=false:=by
  cases hb:Nat.beq k i with
  |false=>rfl
  |true=>exact absurd (a06 hb) h
 simp[iR,this]
theorem Inv.next{ops:Array Oper}{st:Nat->St}{vl:Nat->Value}{μ0 μ μ':Emb}{w0 w w':World}{d0:List Deferred}{S:Nat->Bool}{a:Act}{i:Nat}{H Hn:Heap}{o:Oper}{v':Value}
  (I:Inv ops st vl μ0 w0 d0 S μ a w) (hi:i<ops.size) (ho:ops[i]?=some o) (O:Post μ H w μ' Hn w') (hv:VRel μ' (vl i) v') (a9: ∀k,(st k).heap.next<=(st (k+1)).heap.next)
  (dd:(st i).heap.next<=H.next) (df:Hn.next<=(st (i+1)).heap.next)
  (c1: ∀b l x,μ b=some l->H.get b=some x->jf st S ops.size b=some x)
  (c2: ∀b l x,μ' b=some l->Hn.get b=some x->jf st (iR S i) ops.size b=some x)
  (c3: ∀b l x,μ' b=some l->Hn.get b=none->jf st (iR S i) ops.size b=some x->μ b=some l/\H.get b=none/\jf st S ops.size b=some x)
  (cw:DC ops (iR S i)) (cL: ∀d,o.dst=some d->d<(st 0).size)
  (c5: ∀t,o.dst=some t->tv st vl ops (iR S i) ops.size t=vl i) (ck: ∀t,o.dst≠some t->tv st vl ops (iR S i) ops.size t=tv st vl ops S ops.size t):
  Inv ops st vl μ0 w0 d0 (iR S i) μ' (a.put o.dst v') w':=by
 have b9: ∀k,(st 0).heap.next<=(st k).heap.next:=by
  intro k;induction k with
  |zero=>exact a07 _
  |succ k ih=>exact a0e ih (a9 k)
 have monoL: ∀j k,j<=k->(st j).heap.next<=(st k).heap.next:=by
  intro j k h;induction h with
  |refl=>exact a07 _
  |step _ ih=>exact a0e ih (a9 _)
 have c6:=monoL (i+1) ops.size hi
 have co: ∀b l x,μ b=some l->H.get b=none->jf st S ops.size b=some x->x.live=true->w'.heap[l.c]?=w.heap[l.c]?:=by
  intro b l x hb hh hc ax;refine O.keep l.c ((I.obj b l x hb hc).lt ax) fun U l2 o2 Y b7 a0=>?_
  exact I.inj U b l2 l o2 x (fun e=>by subst e;rw[hh]at b7;cases b7) Y hb (c1 U l2 o2 Y b7) hc a0 ax
 refine⟨cw,fun b l hb=>?_,fun b l x hb hc=>?_,fun b1 U l1 l2 o1 o2 ci a7 Y a3 T a1 a0=>?_,?_,fun t=>?_,?_,fun b l hb=>O.ext b l (I.ext0 b l hb),fun b l hb=>?_,a0e I.grow0 O.grow,
  O.os.trans I.os0,O.tape.trans I.tape0,O.out.trans I.out0,fun c hc b6=>?_,fun b l x hb hc ax=>?_⟩
 ·rcases O.dom b l hb with E|⟨E,h2⟩
  ·rcases I.dom b l E with h2|⟨k,hk,hs,Z,h4⟩|h2
   ·exact .inl h2
   ·refine .inr (.inl ⟨k,hk,?_,Z,h4⟩);unfold iR;rw[hs];simp
   exact .inr (.inr h2)
  exact .inr (.inl ⟨i,hi,fL S i,by omega,by omega⟩)
 ·cases hg:Hn.get b with
  |some y=>
   have:=c2 b l y hb hg
   rw[this]at hc;injection hc with hc;subst hc
   exact O.wrel.obj b l y hb hg
  |none=>
   obtain⟨E,h2,Z⟩:=c3 b l x hb hg hc
   exact(I.obj b l x E Z).keep O.ext O.grow (fun ax=>co b l x E h2 Z ax)
 ·--no two blocks at one place
  cases a8:Hn.get b1 with
  |some y1=>
   have e1:=c2 b1 l1 y1 a7 a8
   rw[e1]at a3;injection a3 with a3;subst a3
   cases ar:Hn.get U with
   |some y2=>
    have e2:=c2 U l2 y2 Y ar
    rw[e2]at T;injection T with T;subst T
    exact O.wrel.inj b1 U l1 l2 y1 y2 ci a7 Y a8 ar a1 a0
   |none=>
    obtain⟨E,h2,Z⟩:=c3 U l2 o2 Y ar T
    have c0:=(I.obj U l2 o2 E Z).lt a0
    rcases O.img b1 l1 y1 a7 a8 (gj a1) with hh|⟨b0,l0,o0,g1,g2,g3,g4,g5⟩
    ·omega
    rw[←g5]
    exact I.inj b0 U l0 l2 o0 o2 (fun e=>by subst e;rw[h2]at g2;cases g2) g1 E (c1 b0 l0 o0 g1 g2) Z (g4 a1) a0
  |none=>
   obtain⟨E,h2,Z⟩:=c3 b1 l1 o1 a7 a8 a3
   cases ar:Hn.get U with
   |some y2=>
    have e2:=c2 U l2 y2 Y ar
    rw[e2]at T;injection T with T;subst T
    have c0:=(I.obj b1 l1 o1 E Z).lt (gj a1)
    rcases O.img U l2 y2 Y ar a0 with hh|⟨b0,l0,o0,g1,g2,g3,g4,g5⟩
    ·omega
    rw[←g5]
    exact I.inj b1 b0 l1 l0 o1 o0 (fun e=>by subst e;rw[h2]at g2;cases g2) E g1 Z (c1 b0 l0 o0 g1 g2) a1 g3
   |none=>
    obtain⟨k1,k2,k3⟩:=c3 U l2 o2 Y ar T
    exact I.inj b1 U l1 l2 o1 o2 ci E k1 Z k3 a1 a0
 ·cases hd:o.dst with
  |none=>exact I.size
  |some d=>simp only[Act.put,Array.size_setIfInBounds];exact I.size
 ·have b8:=(I.tm t).mono O.ext;cases hd:o.dst with
  |none=>rw[ck t (by rw[hd];simp)];exact b8
  |some d=>
   simp only[Act.put,getD_set]
   by_cases b5:d=t
   ·subst b5;rw[c5 d hd,if_pos ⟨rfl,by rw[I.size];exact cL d hd⟩];exact hv
   rw[ck t (by rw[hd];simpa using b5),if_neg (fun e=>b5 e.1)];exact b8
 ·rw[eJ];exact I.defers
 ·rcases O.dom b l hb with E|⟨E,h2⟩
  ·exact I.dom0 b l E
  exact .inr ⟨by have:=b9 i;omega,by omega⟩
 ·rw[O.keep c (a0O hc I.grow0) ?_,I.keep0 c hc b6];intro b l x hb hx hr he;rcases I.img0 b l x hb (c1 b l x hb hx) (gj hr) with hh|⟨b0,l0,o0,g1,g2,g3,g4,g5⟩
  ·omega
  exact b6 b0 l0 o0 g1 g2 (g4 hr) (g5.trans he)
 cases hg:Hn.get b with
 |some y=>
  have:=c2 b l y hb hg
  rw[this]at hc;injection hc with hc;subst hc
  rcases O.img b l y hb hg ax with hh|⟨b0,l0,o0,g1,g2,g3,g4,g5⟩
  ·exact .inl (a0e I.grow0 hh)
  rcases I.img0 b0 l0 o0 g1 (c1 b0 l0 o0 g1 g2) g3 with hh|⟨b3,l3,o3,e1,e2,e3,e4,e5⟩
  ·exact .inl (g5▸hh)
  exact .inr ⟨b3,l3,o3,e1,e2,e3,fun hx=>e4 (g4 hx),e5.trans g5⟩
 |none=>
  obtain⟨E,h2,Z⟩:=c3 b l x hb hg hc
  exact I.img0 b l x E Z ax
end Go.R
namespace Go.R
section
variable {P:Program} {G:Nat}
def lC(ρ:Operand->Value)(o:Oper)(b:Nat):Prop:=
 (∃t a off,o.op= .load t a/\ρ a= .pointer (some ⟨b,off,none⟩))\/
 (∃t x lo hi h off n k,o.op= .slice t x lo hi h/\ρ x= .slice (some ⟨b,off,none⟩) n k)
def NilCut(ρ:Operand->Value)(o:Oper):Prop:=(∃t x lo hi h n k,o.op= .slice t x lo hi h/\ρ x= .slice none n k)\/
 (∃xs E x,o.op= .call ⟨.builtin .len,xs,E⟩/\fe ρ xs.toList=[x]/\((∃a n k,x= .slice a n k)\/∃s,x= .string s))
structure OpFact(P:Program)(G:Nat)(cf:cF)(ops:Array Oper)(o:Oper)(s s':St)(v:Value)(f:Inf):Prop where
 size:s'.size=s.size
 tm: ∀t,cP s'.tmps t=if o.dst=some t then v else cP s.tmps t
 dlt: ∀d,o.dst=some d->d<s.size
 next:s.heap.next<=s'.heap.next
 far: ∀b,s'.heap.next<=b->s'.heap.get b=s.heap.get b
 how:(bm ops o s.tmps=false/\v=undef/\f= .v/\s'.heap.next=s.heap.next/\∀b,s'.heap.get b=s.heap.get b)\/
  (bm ops o s.tmps=true/\o.op.operands.toList.all (bH G)=true/\∃H1 H2,(∀b,H1.get b=s.heap.get b)/\H1.next=s.heap.next/\
   d6 P cf (dl s.tmps) o H1=some (v,H2)/\(∀b,s'.heap.get b=H2.get b)/\s'.heap.next=H2.next/\
   ((f= .v/\(bk o.op=true\/NilCut (dl s.tmps) o))\/(f= .a s.heap.next/\dX o.op=true)\/
    (∃b,f= .l b/\lC (dl s.tmps) o b)\/
    (∃w,f= .x w/\(∀b,b∈w->b<s.heap.next)/\∀b,b<s.heap.next->b∉w->s'.heap.get b=s.heap.get b)))
theorem fB{n b:Nat}: ∀{l:List Nat},b∈dD n l↔b∈l/\b<n
 | []=>by simp[dD]
 |c::l=>by
  unfold dD;cases O:Nat.ble n c with
  |true=>
   have:=a0d O
   simp only[cond_true,a0l]
   rw[fB (l:=l)]
   constructor
   ·rintro⟨h,E⟩;exact⟨.inr h,E⟩
   rintro⟨rfl|h,E⟩
   ·omega
   exact⟨h,E⟩
  |false=>
   have U: ¬n<=c:=fun T=>by rw[a0q T]at O;cases O
   simp only[cond_false,a0l]
   rw[fB (l:=l)]
   constructor
   ·rintro(rfl|⟨h,E⟩)
    ·exact⟨.inl rfl,by omega⟩
    exact⟨.inr h,E⟩
   rintro⟨rfl|h,E⟩
   ·exact .inl rfl
   exact .inr ⟨h,E⟩
theorem loadV_spot{P:Program}{H:Heap}{t:TypeId}{p:Addr}{v:Value}(h:H.loadV P t p=some v):p.spot=none:=by
 obtain⟨b,o,E⟩:=p;cases E with
 |none=>rfl
 |some _=>
  unfold Heap.loadV at h
  split at h
  ·split at h
   ·simp[Heap.loadN]at h
   cases h
  ·simp[Heap.cellAt]at h
  cases h
theorem loadV_congr{H H':Heap}{t:TypeId}{b off:Nat}(h:H.get b=H'.get b):H.loadV P t ⟨b,off,none⟩=H'.loadV P t ⟨b,off,none⟩:=by unfold Heap.loadV Heap.loadN Heap.cellAt;simp only[h]
theorem loadV_some{H:Heap}{t:TypeId}{b off:Nat}{v:Value}(h:H.loadV P t ⟨b,off,none⟩=some v): ∃x,H.get b=some x:=by
 cases E:H.get b with
 |some x=>exact⟨x,rfl⟩
 |none=>
  unfold Heap.loadV Heap.loadN Heap.cellAt at h
  simp only[E]at h
  split at h
  ·split at h<;>cases h
  ·cases h
  cases h
theorem aSlice_spot{P:Program}{H:Heap}{t:TypeId}{p:Addr}{n k:Nat}{lo hi E:Option Value}{v:Value}(h:bS P t (.slice (some p) n k) lo hi E H=some v):p.spot=none:=by
 obtain⟨b,o,O⟩:=p;cases O with
 |none=>rfl
 |some _=>
  unfold bS at h
  split at h
  ·cases h
  split at h<;>simp_all
theorem aSlice_get{P:Program}{H:Heap}{t:TypeId}{b off n k:Nat}{lo hi T:Option Value}{v:Value}(h:bS P t (.slice (some ⟨b,off,none⟩) n k) lo hi T H=some v):
  ∃E,H.get b=some E/\∀O:Heap,O.get b=some E->bS P t (.slice (some ⟨b,off,none⟩) n k) lo hi T O=some v:=by
 cases Y:H.get b with
 |some E=>
  refine⟨E,rfl,fun O U=>?_⟩
  rw[←h]
  unfold bS
  cases T with
  |some _=>rfl
  |none=>
   cases P.underlying t with
   |none=>rfl
   |some d=>cases d<;>first|rfl|simp only[U,Y]
 |none=>
  exfalso
  unfold bS at h
  split at h
  ·cases h
  split at h<;>simp_all
theorem ee{P:Program}{ρ:Operand->Value}{o:Oper}{b:Nat}{H H':Heap}{r:AN}(hr:lC ρ o b)(h:aop P ρ o H=some (r,H')):
  ∃v O,r= .val v/\H'=H/\H.get b=some O/\∀U:Heap,U.get b=some O->aop P ρ o U=some (.val v,U):=by
 rcases hr with⟨t,a,off,Y,ha⟩|⟨t,x,lo,hi,mx,off,n,k,Y,hx⟩
 ·have E: ∀H,aop P ρ o H=d5 P t (ρ a) H:=fun H=>by unfold aop;rw[Y]
  rw[E,ha]at h;unfold d5 at h;simp only at h;obtain⟨rfl,v,Z,rfl⟩:=cx h;obtain⟨O,T⟩:=loadV_some Z;refine⟨v,O,rfl,rfl,T,fun U h2=>?_⟩;rw[E,ha];unfold d5;simp only;rw[loadV_congr (H':=H') (by rw[h2,T]),Z];rfl
 have E: ∀H,aop P ρ o H=ovl (bS P t (ρ x) (lo.map ρ) (hi.map ρ) (mx.map ρ) H) H:=fun H=>by unfold aop;rw[Y]
 rw[E,hx]at h
 obtain⟨rfl,v,Z,rfl⟩:=cx h
 obtain⟨O,T,an⟩:=aSlice_get Z
 refine⟨v,O,rfl,rfl,T,fun U h2=>?_⟩
 rw[E,hx,an U h2]
 rfl
theorem reads_sound{P:Program}{μ:Emb}{ρ ρ':Operand->Value}{o:Oper}{b:Nat}{H:Heap}{w:World}{v:Value}(hr:lC ρ o b)(hρ: ∀x∈o.op.operands,VRel μ (ρ x) (ρ' x))(hw:WRel μ H w)
  (h:aop P ρ o H=some (.val v,H)): ∃v',(execOp ρ' o).run P w= .ok (.value v') w/\VRel μ v v':=by
 rcases hr with⟨t,a,off,E,ha⟩|⟨t,x,lo,hi,mx,off,n,k,E,hx⟩
 ·have T: ∀H,aop P ρ o H=d5 P t (ρ a) H:=fun H=>by unfold aop;rw[E]
  rw[T,ha]at h;unfold d5 at h;simp only at h;obtain⟨_,v1,hv,O⟩:=cx h;injection O with O;subst O;have ar:VRel μ (ρ a) (ρ' a):=hρ a (by rw[E];simp[Op.operands]);rw[ha]at ar;obtain⟨l,hμ,a0⟩:=ar.ptr_inv;obtain⟨v',U,Y⟩:=gA (P:=P) hw hμ hv;refine⟨v',?_,Y⟩;obtain⟨ax,op,type,pos,after,an⟩:=o;simp only at E;subst E;simp only[execOp,a0,Instr.loadAt,Instr.sureAddr,Sem.run_bind,Sem.run_pure,Result.andThen_ok,U]
 have T: ∀H,aop P ρ o H=ovl (bS P t (ρ x) (lo.map ρ) (hi.map ρ) (mx.map ρ) H) H:=fun H=>by unfold aop;rw[E]
 rw[T]at h
 obtain⟨ax,op,type,pos,after,an⟩:=o
 simp only at E
 subst E
 obtain⟨a1,a2⟩:=eU (μ:=μ) (ρ:=ρ) (ρ':=ρ') (x:=lo) fun y Z=>hρ y (by subst Z;simp[Op.operands])
 obtain⟨b1,b2⟩:=eU (μ:=μ) (ρ:=ρ) (ρ':=ρ') (x:=hi) fun y Z=>hρ y (by subst Z;simp[Op.operands])
 obtain⟨_,c2⟩:=eU (μ:=μ) (ρ:=ρ) (ρ':=ρ') (x:=mx) fun y Z=>hρ y (by subst Z;simp[Op.operands])
 obtain⟨v1,v',O,_,U,Y⟩:=js (P:=P) hw (hρ x (by simp[Op.operands])) a1 a2 b1 b2 c2 h
 injection O with O;subst O
 refine⟨v',?_,Y⟩
 simp only[execOp,Sem.run_bind,U,Result.andThen_ok,Sem.run_pure]
theorem reads_loc{μ:Emb}{ρ ρ':Operand->Value}{o:Oper}{b:Nat}(U:lC ρ o b)(T: ∀x∈o.op.operands,VRel μ (ρ x) (ρ' x)): ∃l,μ b=some l:=by
 rcases U with⟨t,a,off,E,ha⟩|⟨t,x,lo,hi,Z,off,n,k,E,Y⟩
 ·have h:VRel μ (ρ a) (ρ' a):=T a (by rw[E];simp[Op.operands]);rw[ha]at h;obtain⟨l,O,_⟩:=h.ptr_inv;exact⟨l,O⟩
 have h:VRel μ (ρ x) (ρ' x):=T x (by rw[E];simp[Op.operands]);rw[Y]at h;obtain⟨l,O,_⟩:=h.slice_inv;exact⟨l,O⟩
theorem stepD_fact{cf:cF}(a8:dT P G cf){ops:Array Oper}{o:Oper}{s s':St}{f:Inf}(hw:WF s.heap)(h:gh P G cf ops o s=some (s',f)):
  ∃v,OpFact P G cf ops o s s' v f:=by
 unfold gh at h
 split at h
 case h_2=>cases h
 rename_i t E
 simp only[a03,a04]at h
 obtain⟨rfl,rfl⟩:=h
 have a9:WF {s.heap with log:=[]}:=hw
 have ext:=i7 a8 (s:={s with heap:={s.heap with log:=[]}}) a9 E
 rw[step_eq]at E
 cases hq:bm ops o s.tmps with
 |false=>
  rw[hq]at E
  simp only[cond_false]at E
  obtain⟨h1,U,h3⟩:=gw E
  refine⟨undef,h1,?_,?_,by rw[U];exact a07 _,fun b _=>by rw[U];rfl,.inl ⟨hq,rfl,by unfold dY;rw[hq];rfl,by rw[U],fun b=>by rw[U];rfl⟩⟩
  ·intro k;rcases h3 with⟨O,h5⟩|⟨d,O,hd,h5⟩
   ·simp[O,h5]
   rw[O];simp only[h5,fC,a03]
  intro d hd
  rcases h3 with⟨O,_⟩|⟨d',O,a2,_⟩
  ·rw[O]at hd;cases hd
  rw[O]at hd;injection hd with hd;subst hd;exact a2
 |true=>
  rw[hq]at E
  cases a4:o.op.operands.toList.all (bH G) with
  |false=>rw[a4]at E;cases E
  |true=>
   rw[a4]at E
   simp only[cond_true]at E
   split at E
   case h_2=>cases E
   rename_i v H2 Y
   obtain⟨h1,U,h3⟩:=gw E
   simp only at U
   have ax:Ext {s.heap with log:=[]} H2:=ku a8 a9 Y
   refine⟨v,h1,?_,?_,by simp only[U];exact ax.next,fun b hb=>by simp only[U]at hb⊢;exact ax.far b hb,.inr ⟨hq,a4,{s.heap with log:=[]},H2,fun _=>rfl,rfl,Y,fun b=>by simp only[U];rfl,by simp only[U],?_⟩⟩
   ·intro k;rcases h3 with⟨O,h5⟩|⟨d,O,hd,h5⟩
    ·simp[O,h5]
    rw[O];simp only[h5,fC,a03]
   ·intro d hd;rcases h3 with⟨O,_⟩|⟨d',O,a2,_⟩
    ·rw[O]at hd;cases hd
    rw[O]at hd;injection hd with hd;subst hd;exact a2
   ·--which kind
    have hx:(∃w,Inf.x (dD s.heap.next t.heap.log)= .x w/\(∀b,b∈w->b<s.heap.next)/\∀b,b<s.heap.next->b∉w->t.heap.get b=s.heap.get b):=by
     refine⟨_,rfl,fun b hb=>(fB.1 hb).2,fun b hb hn=>?_⟩;obtain⟨d,hd,a5⟩:=ax.log;rw[U];refine a5 b hb fun hm=>hn (fB.2 ⟨?_,hb⟩)
     rw[U,hd,a0j];exact hm
    unfold dY;rw[hq];cases hv:bk o.op with
    |true=>exact .inl ⟨rfl,.inl rfl⟩
    |false=>
     simp only[a1j,Bool.or_false,cond_false]
     cases b9:dX o.op with
     |true=>exact .inr (.inl ⟨rfl,rfl⟩)
     |false=>
      simp only[cond_false]
      split
      ·rename_i ty a T;split
       ·rename_i p Z;have al:p.spot=none:=by
         unfold d6 at Y;have ar:aop P (dl s.tmps) o {s.heap with log:=[]}=d5 P ty (dl s.tmps a) {s.heap with log:=[]}:=by unfold aop;rw[T]
         rw[ar,Z]at Y;unfold d5 at Y;simp only at Y;cases hl:Heap.loadV P {s.heap with log:=[]} ty p with
         |none=>rw[hl]at Y;simp[ovl]at Y
         |some u=>exact loadV_spot hl
        obtain⟨b,off,sp⟩:=p;simp only at al;subst al;exact .inr (.inr (.inl ⟨b,rfl,.inl ⟨ty,a,off,T,Z⟩⟩))
       exact .inr (.inr (.inr hx))
      ·rename_i ty x lo hi mx T;split
       ·rename_i p n k Z;have al:p.spot=none:=by
         unfold d6 at Y;have ar:aop P (dl s.tmps) o {s.heap with log:=[]}=ovl (bS P ty (dl s.tmps x) (lo.map (dl s.tmps)) (hi.map (dl s.tmps)) (mx.map (dl s.tmps)) {s.heap with log:=[]}) {s.heap with log:=[]}:=by unfold aop;rw[T]
         rw[ar,Z]at Y;cases hl:bS P ty (.slice (some p) n k) (lo.map (dl s.tmps)) (hi.map (dl s.tmps)) (mx.map (dl s.tmps)) {s.heap with log:=[]} with
         |none=>rw[hl]at Y;simp[ovl]at Y
         |some u=>exact aSlice_spot hl
        obtain⟨b,off,sp⟩:=p;simp only at al;subst al;exact .inr (.inr (.inl ⟨b,rfl,.inr ⟨ty,x,lo,hi,mx,off,n,k,T,Z⟩⟩))
       ·rename_i n k Z;exact .inl ⟨rfl,.inr (.inl ⟨ty,x,lo,hi,mx,n,k,T,Z⟩)⟩
       exact .inr (.inr (.inr hx))
      ·rename_i xs ts T;split
       ·rename_i a n k Z;exact .inl ⟨rfl,.inr (.inr ⟨xs,ts,_,T,Z,.inl ⟨a,n,k,rfl⟩⟩)⟩
       ·rename_i b2 Z;exact .inl ⟨rfl,.inr (.inr ⟨xs,ts,_,T,Z,.inr ⟨b2,rfl⟩⟩)⟩
       exact .inr (.inr (.inr hx))
      exact .inr (.inr (.inr hx))
theorem jz{ρ:Operand->Value}{o:Oper}{H H':Heap}{r:AN}(h:bG P ρ o H=some (r,H')):H'=H/\∃v,r= .val v:=by
 unfold bG at h;cases O:o.op.operands.toList.all fun x=>ie (ρ x) with
 |false=>rw[O]at h;cases h
 |true=>
  rw[O]at h
  simp only[cond_true]at h
  split at h
  ·rename_i v T;cases E:noA2 v with
   |false=>rw[E]at h;cases h
   |true=>
    rw[E]at h;simp only[cond_true,a03,a04]at h
    exact⟨h.2.symm,v,h.1.symm⟩
  cases h
theorem lift_val{s:Sem Value}{H H':Heap}{r:AN}(h:lift P s H=some (r,H')):H'=H/\∃v,r= .val v:=by obtain⟨E,v,O,_⟩:=jG h;exact⟨E,v,O⟩
theorem eT{x:Option Value}{H H':Heap}{r:AN}(h:ovl x H=some (r,H')):H'=H/\∃v,r= .val v:=by obtain⟨E,v,_,O⟩:=cx h;exact⟨E,v,O⟩
theorem eR{v:Value}{H H':Heap}{r:AN}(h:some (AN.val v,H)=some (r,H')):H'=H/\∃v,r= .val v:=by simp only[a03,a04]at h;exact⟨h.2.symm,v,h.1.symm⟩
theorem aop_value{ρ:Operand->Value}{o:Oper}{H H':Heap}{r:AN}(Z:bk o.op=true)(h:aop P ρ o H=some (r,H')):H'=H/\∃v,r= .val v:=by
 obtain⟨T,op,type,pos,after,O⟩:=o;cases op<;>simp only[bk,a0i]at Z
 case move x=>exact eR (v:=ρ x) h
 case assign x=>exact eR (v:=ρ x) h
 case pick c a b=>
  have E:fA ρ c a b H=some (r,H'):=h
  unfold fA at E
  split at E
  ·exact eR E
  cases E
 case build t parts=>
  have E:gz P t (parts.map fun p=>(p.1,ρ p.2)) H=some (r,H'):=h
  unfold gz at E
  split at E
  ·exact lift_val E
  cases E
 case nilCheck x=>
  have E:opNil (ρ x) H=some (r,H'):=h
  unfold opNil at E
  split at E
  ·exact eR E
  ·exact eR E
  cases E
 case binOp op t x y yt=>
  have E:aBin P ρ ⟨T,.binOp op t x y yt,type,pos,after,O⟩ op t (ρ x) y H=some (r,H'):=h
  unfold aBin at E
  split at E
  ·unfold binInt at E;split at E
   ·exact eT E
   cases E
  ·unfold binStr at E;split at E
   ·exact eT E
   cases E
  unfold ln at E;split at E
  ·exact jz E
  ·exact jz E
  obtain⟨Y,b,_,hc⟩:=ig E
  rcases hc with⟨_,U⟩|⟨_,U⟩
  ·exact⟨Y,_,U⟩
  exact⟨Y,_,U⟩
 case unOp op t x=>
  have E:aUn P ρ ⟨T,.unOp op t x,type,pos,after,O⟩ op (ρ x) H=some (r,H'):=h
  unfold aUn at E
  split at E
  ·split at E
   ·exact eR E
   cases E
  exact jz E
 case makeFunc fn first captured=>exact eR (v:= .func fn (first.map ρ) (captured.map ρ)) h
 case fieldAddr s x f=>
  have E:ovl (iS P s (ρ x) f) H=some (r,H'):=h
  exact eT E
 case field t x f=>
  have E:ovl (gL P t (ρ x) f) H=some (r,H'):=h
  exact eT E
 case indexAddr t x i=>
  have E:ovl (dj P t (ρ x) (ρ i)) H=some (r,H'):=h
  exact eT E
 case index t x i=>
  have E:jT P t (ρ x) (ρ i) H=some (r,H'):=h
  unfold jT at E
  split at E
  ·exact eT E
  exact lift_val E
 case extract x i=>
  have E:ovl (f0 (ρ x) i) H=some (r,H'):=h
  exact eT E
theorem j1{ρ:Operand->Value}{o:Oper}{H H':Heap}{r:AN}(E:bk o.op=true)(h:aop P ρ o H=some (r,H')):H'=H:=by have:=aop_value E h;exact this.1
theorem jl{ρ:Operand->Value}{o:Oper}{H H':Heap}{r:AN}(E:bk o.op=true)(h:aop P ρ o H=some (r,H')): ∃v,r= .val v:=(aop_value E h).2
theorem eM{ρ:Operand->Value}{o:Oper}{H H':Heap}{r:AN}(hk:dX o.op=true)(h:aop P ρ o H=some (r,H')):
  ∃v U,r= .val v/\H'=H.push U/\∀O:Heap,O.next=H.next->aop P ρ o O=some (.val v,O.push U):=by
 obtain⟨ar,op,type,pos,after,an⟩:=o
 cases op<;>simp only[dX,a0i]at hk
 case alloc e=>
  have E:ei P e H=some (r,H'):=h
  unfold ei at E
  split at E
  ·rename_i z Z;simp only[a03,a04]at E;obtain⟨rfl,rfl⟩:=E;refine⟨_,_,rfl,rfl,fun O T=>?_⟩;show ei P e O=_;unfold ei;rw[Z,T];rfl
  cases E
 case box e x=>
  have E:some (AN.val (ptrTo H.next),aZ H (ρ x).cells.toList none)=some (r,H'):=h
  simp only[a03,a04]at E
  obtain⟨rfl,rfl⟩:=E
  refine⟨_,_,rfl,rfl,fun O T=>?_⟩
  show some (AN.val (ptrTo O.next),aZ O (ρ x).cells.toList none)=_
  rw[T];rfl
 case buildSlice t n parts=>
  have E:bI P t n (fe (fun p=>(p.1,ρ p.2)) parts.toList) H=some (r,H'):=h
  unfold bI at E
  split at E
  ·rename_i sz z Z;cases Y:Nat.ble (n *sz) 16777216 with
   |false=>rw[Y]at E;cases E
   |true=>
    rw[Y]at E
    simp only[cond_true]at E
    split at E
    ·rename_i cells hc;simp only[a03,a04]at E;obtain⟨rfl,rfl⟩:=E;refine⟨_,_,rfl,rfl,fun O T=>?_⟩;show bI P t n (fe (fun p=>(p.1,ρ p.2)) parts.toList) O=_;unfold bI;rw[Z];simp only[Y,cond_true,hc,T];rfl
    cases E
  cases E
 case makeMap t rsv=>
  cases rsv with
  |some _=>simp at hk
  |none=>
   have E:some (AN.val (.map (some H.next)),H.push (.tab []))=some (r,H'):=h
   simp only[a03,a04]at E
   obtain⟨rfl,rfl⟩:=E
   refine⟨_,_,rfl,rfl,fun O T=>?_⟩
   show some (AN.val (.map (some O.next)),O.push (.tab []))=_
   rw[T]
def bare(n:Nat):Heap:={tr:= .nil,next:=n,log:=[]}
theorem ed(n b:Nat):(bare n).get b=none:=rfl
theorem jg(μ:Emb)(n:Nat)(w:World):WRel μ (bare n) w:=
 ⟨(fun b l o _ h=>by rw[ed]at h;cases h),(fun E O l1 T U Y _ _ _ h=>by rw[ed]at h;cases h)⟩
theorem aSlice_nil{t:TypeId}{n k:Nat}{lo hi h:Option Value}(H E:Heap):bS P t (.slice none n k) lo hi h H=bS P t (.slice none n k) lo hi h E:=by
 unfold bS;cases h with
 |some _=>rfl
 |none=>
  cases P.underlying t with
  |none=>rfl
  |some d=>cases d<;>first|rfl|(cases n<;>cases k<;>rfl)
theorem ek{ρ:Operand->Value}{o:Oper}{H H':Heap}{r:AN}(T:NilCut ρ o)(h:aop P ρ o H=some (r,H')):H'=H/\∃v,r= .val v:=by
 rcases T with⟨t,x,lo,hi,Y,n,k,O,U⟩|⟨xs,Z,x,O,U,_⟩
 ·have E: ∀H,aop P ρ o H=ovl (bS P t (ρ x) (lo.map ρ) (hi.map ρ) (Y.map ρ) H) H:=fun H=>by unfold aop;rw[O]
  rw[E]at h;exact eT h
 have E:aop P ρ o H=bLen P Z (fe ρ xs.toList) H:=by unfold aop;rw[O];rfl
 rw[E]at h;unfold bLen at h;split at h
 ·exact eT h
 cases h
theorem aLen_any{t:TypeId}{x:Value}(E:(∃a n k,x= .slice a n k)\/∃s,x= .string s)(H h:Heap):aLen P t x H=aLen P t x h:=by
 rcases E with⟨a,n,k,rfl⟩|⟨s,rfl⟩<;>(unfold aLen;cases P.underlying t with
  |none=>rfl
  |some d=>cases d<;>rfl)
theorem nilcut_sound{μ:Emb}{ρ ρ':Operand->Value}{o:Oper}{H:Heap}{v:Value}(hr:NilCut ρ o)(hρ: ∀x∈o.op.operands,VRel μ (ρ x) (ρ' x))(h:aop P ρ o H=some (.val v,H))(w:World):
  ∃v',(execOp ρ' o).run P w= .ok (.value v') w/\VRel μ v v':=by
 rcases hr with hr|⟨xs,ts,x,E,hxs,Y⟩
 rotate_left
 ·have T:aop P ρ o H=bLen P ts (fe ρ xs.toList) H:=by unfold aop;rw[E];rfl
  rw[T,hxs]at h;obtain⟨a5,op,type,pos,after,ar⟩:=o;simp only at E;subst E;unfold bLen at h;split at h
  ·rename_i t x1 ht a0;simp only[List.cons.injEq,and_true]at a0;subst a0;obtain⟨_,v1,Z,O⟩:=cx h;injection O with O;subst O;rw[aLen_any Y H (bare 0)]at Z;have ax:LRel μ (fe ρ xs.toList) (xs.map ρ').toList:=by
    rw[jF];have:=jh (μ:=μ) (ops:=xs) (ρ:=ρ) (ρ':=ρ') fun x Y=>hρ x (by simp[Op.operands,Call.operands];exact Y)
    simpa using this
   obtain⟨x',a8,a9⟩:=one_of ax hxs;obtain⟨U,hn⟩:=len_sound (P:=P) (ty:=type) (jg μ 0 w) a9 Z;have a6:ts= #[t]:=a0X.1 (by rw[ht]);refine⟨v,?_,.atom v hn⟩;simp only[execOp,resolve,Sem.run_bind,Sem.run_pure,Result.andThen_ok,invoke,builtin,a8,a6,U]
  cases h
 obtain⟨t,x,lo,hi,mx,n,k,E,Y⟩:=hr
 have T: ∀H,aop P ρ o H=ovl (bS P t (ρ x) (lo.map ρ) (hi.map ρ) (mx.map ρ) H) H:=fun H=>by unfold aop;rw[E]
 rw[T,Y]at h
 obtain⟨_,v1,Z,O⟩:=cx h
 rw[aSlice_nil H (bare 0)]at Z
 have h2:ovl (bS P t (ρ x) (lo.map ρ) (hi.map ρ) (mx.map ρ) (bare 0)) (bare 0)=some (.val v,bare 0):=by rw[Y,Z,O];rfl
 obtain⟨a5,op,type,pos,after,ar⟩:=o
 simp only at E
 subst E
 obtain⟨a1,a2⟩:=eU (μ:=μ) (ρ:=ρ) (ρ':=ρ') (x:=lo) fun y hy=>hρ y (by subst hy;simp[Op.operands])
 obtain⟨b1,b2⟩:=eU (μ:=μ) (ρ:=ρ) (ρ':=ρ') (x:=hi) fun y hy=>hρ y (by subst hy;simp[Op.operands])
 obtain⟨_,c2⟩:=eU (μ:=μ) (ρ:=ρ) (ρ':=ρ') (x:=mx) fun y hy=>hρ y (by subst hy;simp[Op.operands])
 obtain⟨v1,v',O,_,U,a7⟩:=js (P:=P) (jg μ 0 w) (hρ x (by simp[Op.operands])) a1 a2 b1 b2 c2 h2
 injection O with O;subst O
 refine⟨v',?_,a7⟩
 simp only[execOp,Sem.run_bind,U,Result.andThen_ok,Sem.run_pure]
theorem either_heap{ρ:Operand->Value}{o:Oper}{H H':Heap}{r:AN}(E:bk o.op=true\/NilCut ρ o)(h:aop P ρ o H=some (r,H')):H'=H:=by
 rcases E with E|E
 ·exact j1 E h
 exact(ek E h).1
theorem kv{ρ:Operand->Value}{o:Oper}{H H':Heap}{r:AN}(E:bk o.op=true\/NilCut ρ o)(h:aop P ρ o H=some (r,H')): ∃v,r= .val v:=by
 rcases E with E|E
 ·exact jl E h
 exact(ek E h).2
structure Trace(P:Program)(G:Nat)(cf:cF)(ops:Array Oper)(st:Nat->St)(vl:Nat->Value)(nf:Nat->Inf):Prop where
 fact: ∀k o,ops[k]?=some o->OpFact P G cf ops o (st k) (st (k+1)) (vl k) (nf k)
 past: ∀k,ops.size<=k->st (k+1)=st k
 comp: ∀j k,j<k->k<ops.size->bw (cz ops) j k=true\/d7 (nf j) (nf k)=true
 reg:RegFacts ops
 wf: ∀k,WF (st k).heap
section
variable {cf:cF} {ops:Array Oper} {st:Nat->St} {vl:Nat->Value} {nf:Nat->Inf}
theorem Trace.mono(T:Trace P G cf ops st vl nf)(k:Nat):(st k).heap.next<=(st (k+1)).heap.next:=by
 rcases a0k k ops.size with h|h
 ·exact(T.fact k ops[k] (a0y h)).next
 rw[T.past k h];exact a07 _
theorem Trace.monoL(T:Trace P G cf ops st vl nf){j k:Nat}(h:j<=k):(st j).heap.next<=(st k).heap.next:=by
 induction h with
 |refl=>exact a07 _
 |step _ ih=>exact a0e ih (T.mono _)
theorem Trace.sizeL(T:Trace P G cf ops st vl nf)(k:Nat):(st k).size=(st 0).size:=by
 induction k with
 |zero=>rfl
 |succ k ih=>
  rcases a0k k ops.size with h|h
  ·rw[(T.fact k ops[k] (a0y h)).size,ih]
  rw[T.past k h,ih]
theorem Trace.tm(T:Trace P G cf ops st vl nf)(k t:Nat):cP (st (k+1)).tmps t=if iZ ops k=some t then vl k else cP (st k).tmps t:=by
 unfold iZ;rcases a0k k ops.size with h|h
 ·have E:=a0y h;rw[(T.fact k ops[k] E).tm t,E];rfl
 rw[T.past k h,Array.getElem?_eq_none h];simp
theorem Trace.chg(T:Trace P G cf ops st vl nf){k b:Nat}(h:chg st k b):
  k<ops.size/\((st k).heap.next<=b/\b<(st (k+1)).heap.next\/∃w,nf k= .x w/\b∈w/\b<(st k).heap.next):=by
 have hk:k<ops.size:=by
  rcases a0k k ops.size with hk|hk
  ·exact hk
  exfalso;unfold R.chg at h;rw[T.past k hk]at h;exact h rfl
 refine⟨hk,?_⟩
 have F:=T.fact k ops[k] (a0y hk)
 have a4:b<(st (k+1)).heap.next:=by
  rcases a0k b (st (k+1)).heap.next with U|U
  ·exact U
  exact absurd (F.far b U) h
 rcases a0k b (st k).heap.next with hb|hb
 ·right;rcases F.how with⟨_,_,_,_,hs⟩|⟨_,_,H1,H2,ar,a6,O,Z,a7,a1⟩
  ·exact absurd (hs b) h
  rcases a1 with⟨hf,hv⟩|⟨hf,hv⟩|⟨b',hf,ax⟩|⟨w,hf,a8,a3⟩
  ·--a value operation changes nothing
   exfalso;unfold d6 at O;split at O
   ·rename_i u U E;simp only[a03,a04]at O;have:=(either_heap hv E)
    rw[←O.2,this]at Z;exact h (by rw[Z b,ar b])
   ·rename_i U E;have:=(kv hv E)
    obtain⟨_,Y⟩:=this;cases Y
   ·rename_i f args U E;obtain⟨_,Y⟩:=kv hv E;cases Y
   cases O
  ·exfalso;unfold d6 at O;split at O
   ·rename_i u U E;simp only[a03,a04]at O;obtain⟨_,a9,_,a2,_⟩:=eM hv E;rw[←O.2,a2]at Z;exact h (by rw[Z b,Heap.get_push_ne _ _ (by omega),ar b])
   ·rename_i U E;obtain⟨_,_,Y,_⟩:=eM hv E;cases Y
   ·rename_i f args U E;obtain⟨_,_,Y,_⟩:=eM hv E;cases Y
   cases O
  ·exfalso;unfold d6 at O;split at O
   ·rename_i u U E;simp only[a03,a04]at O;obtain⟨_,_,_,hH,_,_⟩:=ee ax E;rw[←O.2,hH]at Z;exact h (by rw[Z b,ar b])
   ·rename_i U E;obtain⟨_,_,Y,_⟩:=ee ax E;cases Y
   ·rename_i f args U E;obtain⟨_,_,Y,_⟩:=ee ax E;cases Y
   cases O
  rcases Classical.em (b∈w) with hm|hm
  ·exact⟨w,hf,hm,hb⟩
  exact absurd (a3 b hb hm) h
 exact .inl ⟨hb,a4⟩
end
end
end Go.R
set_option linter.unusedVariables false
namespace Go.R
section
variable {P:Program} {G:Nat} {cf:cF} {ops:Array Oper} {st:Nat->St} {vl:Nat->Value} {nf:Nat->Inf}
variable {μ0 μ:Emb} {w0 w:World} {d0:List Deferred} {S:Nat->Bool} {a:Act} {i:Nat} {o:Oper}
structure Ready(ops:Array Oper)(S:Nat->Bool)(i:Nat)(o:Oper):Prop where
 at_:ops[i]?=some o
 new:S i=false
 edges: ∀e∈o.after.toList,Region.binds .any e=true->S e.on=true
theorem Ready.lt(R:Ready ops S i o):i<ops.size:=(a0E.1 R.at_).1
theorem Ready.dc(R:Ready ops S i o)(h:DC ops S):DC ops (iR S i):=by
 intro k x E hs e T hb;by_cases O:k=i
 ·subst O;rw[R.at_]at E;injection E with E;subst E;have:=R.edges e T hb;unfold iR;rw[this];simp
 rw[fM S O]at hs;have:=h k x E hs e T hb;unfold iR;rw[this];simp
theorem Ready.ahead(R:Ready ops S i o)(h:DC ops S){k:Nat}(E:k≠i)(O:bw (cz ops) k i=true):S k=true:=by have:=(R.dc h).anc i (fL S i) O;rwa [fM S E]at this
theorem Ready.behind(R:Ready ops S i o)(h:DC ops S){k:Nat}(E:bw (cz ops) i k=true):S k=false:=by
 cases hs:S k with
 |false=>rfl
 |true=>have:=h.anc k hs E;rw[R.new]at this;cases this
theorem Ready.iff_(R:Ready ops S i o)(h:DC ops S){k:Nat}(E:k<i->bw (cz ops) k i=true)(O:i<k->bw (cz ops) i k=true):S k=true↔k<i:=by
 rcases Nat.lt_trichotomy k i with hlt|rfl|hgt
 ·exact⟨fun _=>hlt,fun _=>R.ahead h (by omega) (E hlt)⟩
 ·rw[R.new];simp
 rw[R.behind h (O hgt)];simp;omega
theorem Ready.iffAdd(R:Ready ops S i o)(h:DC ops S){k:Nat}(O:k<i->bw (cz ops) k i=true)(T:i<k->bw (cz ops) i k=true):iR S i k=true↔k<i+1:=by
 by_cases E:k=i
 ·subst E;rw[fL];simp
 rw[fM S E,R.iff_ h O T];omega
theorem share(T:Trace P G cf ops st vl nf)(Z:ops[i]?=some o){t:Tmp}(E:t∈o.looksAt ops\/o.dst=some t){k:Nat}(hd:iZ ops k=some t):
  (k<i->bw (cz ops) k i=true)/\(i<k->bw (cz ops) i k=true):=by
 unfold iZ at hd
 cases U:ops[k]? with
 |none=>rw[U]at hd;simp at hd
 |some x=>
  rw[U]at hd
  simp only[a0n]at hd
  constructor
  ·intro O;rcases T.reg.pair k i x o O U Z with h|h
   ·exact h
   exfalso;obtain⟨p1,Y,p3⟩:=Oper.apart_spec h;rcases E with E|E
   ·exact p1 t hd E
   exact Y t hd E
  intro O
  rcases T.reg.pair i k o x O Z U with h|h
  ·exact h
  exfalso
  obtain⟨p1,Y,p3⟩:=Oper.apart_spec h
  rcases E with E|E
  ·exact p3 t hd E
  exact Y t E hd
theorem slot_here(T:Trace P G cf ops st vl nf)(I:Inv ops st vl μ0 w0 d0 S μ a w)(R:Ready ops S i o){t:Tmp}(h:t∈o.looksAt ops):
  VRel μ (cP (st i).tmps t) (a.tmps.getD t undef):=by
 have:=I.tm t
 rw[tv_eq st vl ops (i:=i) (fun k=>T.tm k t) ops.size (fun k _ hd=>R.iff_ I.dc (share T R.at_ (.inl h) hd).1 (share T R.at_ (.inl h) hd).2)]at this
 rwa [a1B (a1M R.lt)]at this
theorem operand_here(T:Trace P G cf ops st vl nf)(I:Inv ops st vl μ0 w0 d0 S μ a w)(R:Ready ops S i o)(O:GRel μ G)(h:o.op.operands.toList.all (bH G)=true):
  ∀x∈o.op.operands,VRel μ (dl (st i).tmps x) (a.eval x):=by
 intro x E
 refine eval_of O (a0t.1 h x (by simpa using E)) fun t U=>?_
 subst U
 refine slot_here T I R ?_
 unfold Oper.looksAt
 rw[a0h]
 left
 rw[List.mem_filterMap]
 exact⟨.tmp t,by simpa using E,rfl⟩
theorem wanted_here(T:Trace P G cf ops st vl nf)(I:Inv ops st vl μ0 w0 d0 S μ a w)(R:Ready ops S i o):bm ops o (st i).tmps=Region.wanted o (yielded ops a.tmps):=by
 refine wanted_eq (μ:=μ) fun j w h d hd=>slot_here T I R ?_
 unfold Oper.looksAt;rw[a0h];right;rw[h];simp only;rw[hd];simp
theorem between(T:Trace P G cf ops st vl nf){j k b:Nat}(E:(st j).heap.next<=b)(O:b<(st (j+1)).heap.next)(U:(st k).heap.next<=b)(Y:b<(st (k+1)).heap.next):j=k:=by
 rcases Nat.lt_trichotomy j k with h|h|h
 ·have:=T.monoL (show j+1<=k from h);omega
 ·exact h
 have:=T.monoL (show k+1<=j from h);omega
theorem kh(T:Trace P G cf ops st vl nf)(I:Inv ops st vl μ0 w0 d0 S μ a w)(R:Ready ops S i o)(b:Nat)(E:(st i).heap.next<=b)(O:b<(st (i+1)).heap.next):μ b=none:=by
 cases hb:μ b with
 |none=>rfl
 |some l=>
  exfalso
  rcases I.dom b l hb with h|⟨k,_,hs,h3,h4⟩|h
  ·have:=T.monoL (a0o i);omega
  ·have:=between T E O h3 h4;subst this;rw[R.new]at hs;cases hs
  have:=T.monoL (show i+1<=ops.size from R.lt);omega
theorem cont_here(T:Trace P G cf ops st vl nf)(I:Inv ops st vl μ0 w0 d0 S μ a w)(R:Ready ops S i o){b:Nat}{l:Loc}(hb:μ b=some l)(al:b<(st i).heap.next)
  (Z: ∀k w',nf k= .x w'->b∈w'->k<ops.size->(k<i->bw (cz ops) k i=true)/\(i<k->bw (cz ops) i k=true)):jf st S ops.size b=(st i).heap.get b:=by
 rw[jM st (i:=i) ops.size,a1B (a1M R.lt)]
 intro k U hc
 obtain⟨_,⟨E,O⟩|⟨w',E,O,h3⟩⟩:=T.chg hc
 ·--made there
  have Y:k<i:=by
   rcases a0k k i with h|h
   ·exact h
   have:=T.monoL h;omega
  refine⟨fun _=>Y,fun _=>?_⟩;rcases I.dom b l hb with h|⟨k',_,hs,h4,h5⟩|h
  ·have:=T.monoL (a0o k);omega
  ·have:=between T E O h4 h5;subst this;exact hs
  have:=T.monoL (a1M R.lt);omega
 exact R.iff_ I.dc (Z k w' E O U).1 (Z k w' E O U).2
theorem io(T:Trace P G cf ops st vl nf)(I:Inv ops st vl μ0 w0 d0 S μ a w)(R:Ready ops S i o){b:Nat}(hb:b<(st i).heap.next->∃l,μ b=some l)(ax:b<(st (i+1)).heap.next)
  (hw: ∀k w',nf k= .x w'->b∈w'->k<ops.size->(k<i->bw (cz ops) k i=true)/\(i<k->bw (cz ops) i k=true)):jf st (iR S i) ops.size b=(st (i+1)).heap.get b:=by
 rw[jM st (i:=i+1) ops.size,a1B R.lt]
 intro k Z hc
 by_cases U:k=i
 ·subst U;rw[fL];simp
 obtain⟨_,⟨E,O⟩|⟨w',E,O,h3⟩⟩:=T.chg hc
 ·have al:k<i:=by
   rcases a0k k i with h|h
   ·exact h
   have:=T.monoL (show i+1<=k by omega);omega
  rw[fM S U];refine⟨fun _=>by omega,fun _=>?_⟩;have Y:b<(st i).heap.next:=by have:=T.monoL (show k+1<=i from al);omega
  obtain⟨l,hl⟩:=hb Y;rcases I.dom b l hl with h|⟨k',_,hs,h4,h5⟩|h
  ·have:=T.monoL (a0o k);omega
  ·have:=between T E O h4 h5;subst this;exact hs
  have:=T.monoL (a1M R.lt);omega
 exact R.iffAdd I.dc (hw k w' E O Z).1 (hw k w' E O Z).2
theorem jL(T:Trace P G cf ops st vl nf){b:Nat}(h: ¬chg st i b):jf st (iR S i) ops.size b=jf st S ops.size b:=by refine(kz st ops.size fun k _ hc=>?_);exact fM S (fun e=>by subst e;exact h hc)
theorem jb{b:Nat}: ∀{l:List Nat},memB b l=true↔b∈l
 | []=>by simp[memB]
 |c::l=>by
  unfold memB;rw[a0G,jb (l:=l),a0l];constructor
  ·rintro(h|h)
   ·exact .inl (a06 h)
   exact .inr h
  rintro(rfl|h)
  ·exact .inl (a0J b)
  exact .inr h
theorem hY(T:Trace P G cf ops st vl nf)(I:Inv ops st vl μ0 w0 d0 S μ a w)(R:Ready ops S i o):
  (∀t,o.dst=some t->tv st vl ops (iR S i) ops.size t=vl i)/\(∀t,o.dst≠some t->tv st vl ops (iR S i) ops.size t=tv st vl ops S ops.size t):=by
 constructor
 ·intro t h;rw[tv_eq st vl ops (i:=i+1) (fun k=>T.tm k t) ops.size (fun k _ hd=>R.iffAdd I.dc (share T R.at_ (.inr h) hd).1 (share T R.at_ (.inr h) hd).2),a1B R.lt,T.tm];rw[if_pos (by unfold iZ;rw[R.at_];exact h)]
 intro t h
 refine tv_congr st vl ops ops.size fun k _ hd=>fM S ?_
 intro e
 subst e
 unfold iZ at hd
 rw[R.at_]at hd
 exact h hd
theorem fU(T:Trace P G cf ops st vl nf)(I:Inv ops st vl μ0 w0 d0 S μ a w)(R:Ready ops S i o)(E: ∀b,(st (i+1)).heap.get b=(st i).heap.get b){v':Value}(O:VRel μ (vl i) v'):
  Inv ops st vl μ0 w0 d0 (iR S i) μ (a.put o.dst v') w:=by
 obtain⟨U,Y⟩:=hY T I R
 refine Inv.next (H:=bare (st i).heap.next) (Hn:=bare (st i).heap.next) I R.lt R.at_ (Post.refl (jg μ _ w)) O (fun k=>T.mono k) (a07 _) (T.mono i)
  (fun b l x _ h=>by rw[ed]at h;cases h) (fun b l x _ h=>by rw[ed]at h;cases h) (fun b l x hb _ hc=>⟨hb,rfl,?_⟩) (R.dc I.dc) (fun d hd=>?_) U Y
 ·rw[jL T (fun e=>e (E b))]at hc;exact hc
 have:=(T.fact i o R.at_).dlt d hd
 rwa [T.sizeL i]at this
theorem inv_step(fz:dT P G cf)(T:Trace P G cf ops st vl nf)(I:Inv ops st vl μ0 w0 d0 S μ a w)(hG:GRel μ0 G)(R:Ready ops S i o){K:Act->World->Prop}{Q:Exit->Act->World->Prop}
  (hK: ∀μ' a' w',Inv ops st vl μ0 w0 d0 (iR S i) μ' a' w'->K a' w'):wpOp P ops Q i K a w:=by
 have d3:GRel μ G:=hG.mono I.ext0
 have F:=T.fact i o R.at_
 have cl:=wanted_here T I R
 unfold wpOp
 rw[R.at_]
 simp only
 rcases F.how with⟨hq,hv,hf,hn,hs⟩|⟨hq,ez,H1,H2,ax,an,Y,a0,ch,ds⟩
 ·rw[cl]at hq;rw[hq];simp only[a0i,if_false];exact hK μ _ w (fU T I R hs (by rw[hv];exact VRel.undef))
 rw[cl]at hq
 rw[hq]
 simp only[if_true]
 left
 have hρ:=operand_here T I R d3 ez
 have b6:WF (st i).heap:=T.wf i
 rcases ds with⟨hf,hk|hk⟩|⟨hf,hk⟩|⟨b,hf,b0⟩|⟨wr,hf,g3,f5⟩
 rotate_left
 ·--a part of the nil slice
  unfold d6 at Y;split at Y
  case h_2=>rename_i Z E;obtain⟨_,_,O⟩:=ek hk E;cases O
  case h_3=>rename_i f args Z E;obtain⟨_,_,O⟩:=ek hk E;cases O
  case h_4=>cases Y
  rename_i u Z E;simp only[a03,a04]at Y;obtain⟨e1,_⟩:=ek hk E;subst e1;obtain⟨rfl,rfl⟩:=Y;obtain⟨v',a1,hr⟩:=nilcut_sound hk hρ E w;unfold Oper.wp;rw[a1,Oper.upon_value];exact hK μ _ w (fU T I R (fun b=>by rw[a0 b,ax b]) hr)
 rotate_right
 ·--a value
  have E: ∃u,aop P (dl (st i).tmps) o H1=some (.val u,H1)/\u=vl i/\H2=H1:=by
   unfold d6 at Y;split at Y
   ·rename_i u Z E;simp only[a03,a04]at Y;have:=j1 hk E;subst this;exact⟨u,E,Y.1,Y.2.symm⟩
   ·rename_i Z E;obtain⟨_,O⟩:=jl hk E;cases O
   ·rename_i f args Z E;obtain⟨_,O⟩:=jl hk E;cases O
   cases Y
  obtain⟨u,E,rfl,rfl⟩:=E;obtain⟨_,v,v',c6,a1,hr⟩:=jm hk hρ E;injection c6 with c6;subst c6;unfold Oper.wp;rw[a1 w,Oper.upon_value];exact hK μ _ w (fU T I R (fun b=>by rw[a0 b,ax b]) hr)
 ·--a new block
  unfold d6 at Y;split at Y
  case h_2=>rename_i Z E;obtain⟨_,_,O,_⟩:=eM hk E;cases O
  case h_3=>rename_i f args Z E;obtain⟨_,_,O,_⟩:=eM hk E;cases O
  case h_4=>cases Y
  rename_i u Z E;simp only[a03,a04]at Y;obtain⟨rfl,rfl⟩:=Y;obtain⟨u,al,hu,dt,e2⟩:=eM hk E;injection hu with hu;subst hu dt;have c3:(st (i+1)).heap.next=(st i).heap.next+1:=by rw[ch,Heap.next_push,an]
  have fu:=e2 (bare (st i).heap.next) (by rw[an];rfl);obtain⟨n,w',μ',a1,hp,hr⟩:=hN hρ (jg μ _ w) (fun b a2 a3=>kh T I R b a2 (by rw[c3];exact a3)) fu;unfold Oper.wp;rw[a1];cases n with
  |value v'=>
   rw[Oper.upon_value]
   obtain⟨t1,t2⟩:=hY T I R
   have hw: ∀k w',nf k= .x w'->(st i).heap.next∈w'->k<ops.size->(k<i->bw (cz ops) k i=true)/\(i<k->bw (cz ops) i k=true):=by
    intro k w' O hm a4;have f4:(st i).heap.next<(st k).heap.next:=by
     have Fk:=T.fact k ops[k] (a0y a4);rcases Fk.how with⟨_,_,U,_⟩|⟨_,_,_,_,_,_,_,_,_,f2⟩
     ·rw[O]at U;cases U
     rcases f2 with⟨U,_⟩|⟨U,_⟩|⟨_,U,_⟩|⟨w2,U,f3,_⟩
     ·rw[O]at U;cases U
     ·rw[O]at U;cases U
     ·rw[O]at U;cases U
     rw[O]at U;injection U with U;subst U;exact f3 _ hm
    constructor
    ·intro a9;have:=T.monoL (a1M a9);omega
    intro a8;rcases T.comp i k a8 a4 with h|h
    ·exact h
    rw[hf,O]at h;simp only[d7]at h;rw[jb.2 hm]at h;cases h
   have e3:jf st (iR S i) ops.size (st i).heap.next=some al:=by rw[io T I R (fun h=>absurd h (Nat.lt_irrefl _)) (by rw[c3];omega) hw,a0,←an,Heap.get_push_same]
   have dn: ∀b x,((bare (st i).heap.next).push al).get b=some x->b=(st i).heap.next/\x=al:=by
    intro b x O;by_cases b7:(bare (st i).heap.next).next=b
    ·subst b7;rw[Heap.get_push_same]at O;injection O with O;exact⟨rfl,O.symm⟩
    rw[Heap.get_push_ne _ _ b7,ed]at O;cases O
   refine hK μ' _ w' (Inv.next (H:=bare (st i).heap.next) (Hn:=(bare (st i).heap.next).push al) I R.lt R.at_ hp hr (fun k=>T.mono k) (a07 _) (by rw[c3];exact a07 _)
    (fun b l x _ h=>by rw[ed]at h;cases h) (fun b l x _ h=>?_) (fun b l x hb hg hc=>?_) (R.dc I.dc) (fun d hd=>?_) t1 t2)
   ·obtain⟨rfl,rfl⟩:=dn b x h;exact e3
   ·have b7:b≠(st i).heap.next:=by rintro rfl;have:((bare (st i).heap.next).push al).get (st i).heap.next=some al:=Heap.get_push_same (bare (st i).heap.next) al;rw[this]at hg;cases hg
    have c0: ¬chg st i b:=by intro cL;apply cL;rw[a0,Heap.get_push_ne _ _ (by rw[an];exact Ne.symm b7),ax]
    rw[jL T c0]at hc;rcases hp.dom b l hb with Z|⟨Z,h2⟩
    ·exact⟨Z,rfl,hc⟩
    exfalso;have g1:(st i).heap.next<=b:=Z;have g2:b<(st i).heap.next+1:=h2;omega
   have:=F.dlt d hd
   rwa [T.sizeL i]at this
  |_=>exact hr.elim
 ·--a load,or a part of a slice
  unfold d6 at Y;split at Y
  case h_2=>rename_i Z E;obtain⟨_,_,O,_⟩:=ee b0 E;cases O
  case h_3=>rename_i f args Z E;obtain⟨_,_,O,_⟩:=ee b0 E;cases O
  case h_4=>cases Y
  rename_i u Z E;simp only[a03,a04]at Y;obtain⟨rfl,rfl⟩:=Y;obtain⟨u,al,hu,rfl,c4,dk⟩:=ee b0 E;injection hu with hu;subst hu;obtain⟨l,hμ⟩:=reads_loc b0 hρ;have e0:b<(st i).heap.next:=b6.lt (by rw[←ax];exact c4);have dp:=cont_here T I R hμ e0 (fun k w' b3 hm a4=>by
   constructor
   ·intro a9;rcases T.comp k i a9 R.lt with h|h
    ·exact h
    rw[hf,b3]at h;simp only[d7]at h;rw[jb.2 hm]at h;cases h
   intro a8;rcases T.comp i k a8 a4 with h|h
   ·exact h
   rw[hf,b3]at h;simp only[d7]at h;rw[jb.2 hm]at h;cases h)
  have e4:WRel μ ((bare (st i).heap.next).put b al) w:=by
   refine⟨fun b' l' o' fl a6=>?_,fun b1 b2 l1 l2 o1 o2 a5 _ _ ci ck=>?_⟩
   ·by_cases em:b=b'
    ·subst em;rw[Heap.get_put_same]at a6;injection a6 with a6;subst a6;exact I.obj b l' al fl (by rw[dp,←ax];exact c4)
    rw[Heap.get_put_ne _ _ em,ed]at a6;cases a6
   exfalso;by_cases Z:b=b1
   ·by_cases h2:b=b2
    ·exact a5 (Z.symm.trans h2)
    rw[Heap.get_put_ne _ _ h2,ed]at ck;cases ck
   rw[Heap.get_put_ne _ _ Z,ed]at ci;cases ci
  obtain⟨v',d2,hr⟩:=reads_sound b0 hρ e4 (dk _ (Heap.get_put_same _ _ _));unfold Oper.wp;rw[d2,Oper.upon_value];exact hK μ _ w (fU T I R (fun b=>by rw[a0 b,ax b]) hr)
 ·--any other
  have c8: ∀b k w',nf k= .x w'->b∈w'->k<ops.size->(k<i->bw (cz ops) k i=true)/\(i<k->bw (cz ops) i k=true):=by
   intro b k w' b3 hm a4;have a5:isNilL w'=false:=by cases w' with
    |nil=>simp at hm
    |cons _ _=>rfl
   constructor
   ·intro a9;rcases T.comp k i a9 R.lt with h|h
    ·exact h
    rw[hf,b3]at h;simp only[d7,a5,Bool.false_and]at h;cases h
   intro a8;rcases T.comp i k a8 a4 with h|h
   ·exact h
   rw[hf,b3]at h;simp only[d7,a5,a1l]at h;cases h
  have b8: ∀b l x,μ b=some l->H1.get b=some x->jf st S ops.size b=some x:=by intro b l x hb O;rw[ax]at O;rw[cont_here T I R hb (b6.lt O) (c8 b)];exact O
  have c7:WF H1:=fun b hb=>by rw[ax];exact b6 b (by rw[←an];exact hb)
  have d1:WRel μ H1 w:=⟨fun b l x hb O=>I.obj b l x hb (b8 b l x hb O),fun b1 b2 l1 l2 o1 o2 a5 a2 a3 ci ck=>I.inj b1 b2 l1 l2 o1 o2 a5 a2 a3 (b8 b1 l1 o1 a2 ci) (b8 b2 l2 o2 a3 ck)⟩
  refine iJ fz c7 hρ d3 d1 (fun b a2 a3=>kh T I R b (by rw[←an];exact a2) (by rw[ch];exact a3)) Y ?_;intro μ' w' v' hp hv;obtain⟨t1,t2⟩:=hY T I R;have b9: ∀b l,μ' b=some l->b<(st i).heap.next->∃l,μ b=some l:=by
   intro b l hb f4;rcases hp.dom b l hb with h|⟨h,_⟩
   ·exact⟨l,h⟩
   rw[an]at h;omega
  refine hK μ' _ w' (Inv.next (H:=H1) (Hn:=H2) I R.lt R.at_ hp hv (fun k=>T.mono k) (by rw[an];exact a07 _) (by rw[ch];exact a07 _) b8 (fun b l x hb O=>?_) (fun b l x hb O hc=>?_) (R.dc I.dc) (fun d hd=>?_) t1 t2)
  ·rw[←a0]at O;rw[io T I R (b9 b l hb) ((T.wf (i+1)).lt O) (c8 b)];exact O
  ·rw[←a0]at O;have et:(st (i+1)).heap.next<=b:=by
    rcases a0k b (st (i+1)).heap.next with h|h
    ·rw[io T I R (b9 b l hb) h (c8 b),O]at hc;cases hc
    exact h
   have c0: ¬chg st i b:=fun cL=>cL (F.far b et)
   rw[jL T c0]at hc;refine⟨?_,?_,hc⟩
   ·rcases hp.dom b l hb with h|⟨_,h⟩
    ·exact h
    rw[←ch]at h;omega
   exact c7 b (by rw[an];exact a0e F.next et)
  have:=F.dlt d hd;rwa [T.sizeL i]at this
end
end Go.R
namespace Go.R
section
variable {P:Program} {G:Nat} {cf:cF} {ops:Array Oper} {st:Nat->St} {vl:Nat->Value} {nf:Nat->Inf}
variable {μ0 μ:Emb} {w0 w:World} {d0:List Deferred} {a:Act}
def cnt(S:Nat->Bool):Nat->Nat
 |0=>0
 |n+1=>cnt S n+if S n=true then 0 else 1
theorem cnt_far{S:Nat->Bool}{i:Nat}: ∀n,n<=i->cnt (iR S i) n=cnt S n
 |0,_=>rfl
 |n+1,h=>by have:=cnt_far (S:=S) (i:=i) n (by omega);simp only[cnt,this,fM S (show n≠i by omega)]
theorem cnt_add{S:Nat->Bool}{i:Nat}(hs:S i=false): ∀n,i<n->cnt (iR S i) n+1=cnt S n
 |0,h=>by omega
 |n+1,h=>by
  by_cases hi:i=n
  ·subst hi;simp only[cnt,cnt_far i (a07 i),fL,hs,if_true,a0i,if_false]
  have:=cnt_add hs n (by omega);simp only[cnt,fM S (show n≠i by omega)];omega
theorem cnt_zero{S:Nat->Bool}: ∀n,cnt S n=0->∀k,k<n->S k=true
 |0,_,k,h=>by omega
 |n+1,h,k,hk=>by
  simp only[cnt]at h;by_cases hs:S n=true
  ·by_cases E:k=n
   ·subst E;exact hs
   exact cnt_zero n (by omega) k (by omega)
  rw[if_neg hs]at h;omega
theorem cnt_le{S:Nat->Bool}: ∀n,cnt S n<=n
 |0=>a07 _
 |n+1=>by have:=cnt_le (S:=S) n;simp only[cnt];split<;>omega
def gi(listed:Array Bool):Nat->Bool:=fun k=>listed.getD k false
theorem setOf_set{listed:Array Bool}{i:Nat}(hi:i<listed.size):gi (listed.setIfInBounds i true)=iR (gi listed) i:=by
 funext k;unfold gi iR;simp only[a0C,a0T];by_cases h:i=k
 ·subst h;simp[hi]
 have:Nat.beq k i=false:=by
  cases hb:Nat.beq k i with
  |false=>rfl
  |true=>exact absurd (a06 hb).symm h
 simp[h,this]
theorem jx{listed:Array Bool}(hl:listed.size=ops.size){i:Nat}:i∈Region.ready .any ops listed↔
  ∃o,Ready ops (gi listed) i o:=by
 unfold Region.ready
 rw[List.mem_filter,List.mem_range]
 constructor
 ·rintro⟨hi,h⟩;have E:ops[i]?=some ops[i]:=a0y hi;rw[E]at h;simp only[a05,a12,a1u,a19]at h;refine⟨ops[i],E,?_,fun e O hb=>?_⟩
  ·unfold gi;have U:=h.1;simp only[a0C,a0y (show i<listed.size by omega),a19]at U⊢;exact U
  have Y:=h.2;rw[Array.all_eq_true']at Y;have:=Y e (by simpa using O);rw[hb]at this;simpa[gi] using this
 rintro⟨o,E,T,O⟩
 have hi:i<ops.size:=(a0E.1 E).1
 refine⟨hi,?_⟩
 rw[E]
 simp only[a05,a12,a1u,a19]
 constructor
 ·unfold gi at T;simp only[a0C,a0y (show i<listed.size by omega),a19]at T⊢;exact T
 rw[Array.all_eq_true']
 intro e Z
 cases hb:Region.binds .any e with
 |false=>rfl
 |true=>
  have:=O e (by simpa using Z) hb
  simpa[gi] using this
theorem all_of_none(T:Trace P G cf ops st vl nf){listed:Array Bool}(Z:listed.size=ops.size)(h:Region.ready .any ops listed=[]): ∀k,k<ops.size->gi listed k=true:=by
 intro k;induction k using Nat.strongRecOn with
 |_ k ih=>
  intro Y
  cases hs:gi listed k with
  |true=>rfl
  |false=>
   exfalso
   have O:=a0y Y
   have:k∈Region.ready .any ops listed:=(jx Z).2 ⟨ops[k],O,hs,fun e U hb=>by
    have E:=T.reg.back k ops[k] O e U hb;exact ih e.on E (by omega)⟩
   rw[h]at this;simp at this
theorem any_sound(U:dT P G cf)(T:Trace P G cf ops st vl nf)(Z:GRel μ0 G){Q:Exit->Act->World->Prop}
  (Y: ∀S μ a w,(∀k,k<ops.size->S k=true)->Inv ops st vl μ0 w0 d0 S μ a w->Q .normal a w):
  ∀(fuel:Nat) (listed:Array Bool) (μ:Emb) (a:Act) (w:World),listed.size=ops.size->cnt (gi listed) ops.size<=fuel->Inv ops st vl μ0 w0 d0 (gi listed) μ a w->
   wpAny P .any ops Q fuel listed a w
 |0,listed,μ,a,w,hl,hc,I=>by
  have E:=cnt_zero ops.size (by omega:cnt (gi listed) ops.size=0);refine⟨?_,Y _ μ a w E I⟩;cases hr:Region.ready .any ops listed with
  |nil=>rfl
  |cons i t=>
   exfalso
   have hm:i∈Region.ready .any ops listed:=by rw[hr];simp
   obtain⟨o,R⟩:=(jx hl).1 hm
   have:=E i R.lt
   rw[R.new]at this;cases this
 |fuel+1,listed,μ,a,w,hl,hc,I=>by
  refine⟨fun h=>Y _ μ a w (all_of_none T hl h) I,fun i hi=>?_⟩;obtain⟨o,R⟩:=(jx hl).1 hi;refine inv_step U T I Z R fun μ' a' w' I'=>?_
  have O:=setOf_set (listed:=listed) (i:=i) (by rw[hl];exact R.lt);refine any_sound U T Z Y fuel (listed.setIfInBounds i true) μ' a' w' (by simp[hl]) ?_ (by rw[O];exact I');rw[O];have:=cnt_add R.new ops.size R.lt;omega
theorem inv_start(T:Trace P G cf ops st vl nf)(ht:TRel μ0 (st 0).tmps (st 0).size a.tmps)(hw:WRel μ0 (st 0).heap w)(O: ∀b l,μ0 b=some l->b<(st 0).heap.next\/(st ops.size).heap.next<=b)(S:Nat->Bool)(E: ∀k,S k=false):
  Inv ops st vl μ0 w a.defers S μ0 a w:=by
 have hc: ∀b,jf st S ops.size b=(st 0).heap.get b:=by intro b;have:=jM st (S:=S) (b:=b) (i:=0) ops.size (fun k _ _=>by rw[E k];simp);rwa [Nat.min_zero]at this
 have a2: ∀t,tv st vl ops S ops.size t=cP (st 0).tmps t:=by intro t;have:=tv_eq st vl ops (S:=S) (t:=t) (i:=0) (fun k=>T.tm k t) ops.size (fun k _ _=>by rw[E k];simp);rwa [Nat.min_zero]at this
 refine⟨(fun k o _ hk=>by rw[E k]at hk;cases hk),fun b l hb=>?_,fun b l o hb U=>hw.obj b l o hb (by rw[←hc];exact U),fun b1 b2 l1 l2 o1 o2 ar Y Z ax a0=>hw.inj b1 b2 l1 l2 o1 o2 ar Y Z (by rw[←hc];exact ax) (by rw[←hc];exact a0),
  ht.1,fun t=>by rw[a2];exact ht.2 t,rfl,fun _ _ h=>h,fun _ _ h=> .inl h,a07 _,rfl,rfl,rfl,fun _ _ _=>rfl,fun b l o hb U an=> .inr ⟨b,l,o,hb,by rw[←hc];exact U,an,id,rfl⟩⟩
 rcases O b l hb with h|h
 ·exact .inl h
 exact .inr (.inr h)
theorem inv_end(T:Trace P G cf ops st vl nf){S:Nat->Bool}(h: ∀k,k<ops.size->S k=true)(I:Inv ops st vl μ0 w0 d0 S μ a w):
  Post μ0 (st 0).heap w0 μ (st ops.size).heap w/\TRel μ (st ops.size).tmps (st ops.size).size a.tmps/\a.defers=d0:=by
 have hc: ∀b,jf st S ops.size b=(st ops.size).heap.get b:=by intro b;have:=jM st (S:=S) (b:=b) (i:=ops.size) ops.size (fun k E _=>by rw[h k E];simp[E]);rwa [Nat.min_self]at this
 have ax: ∀t,tv st vl ops S ops.size t=cP (st ops.size).tmps t:=by intro t;have:=tv_eq st vl ops (S:=S) (t:=t) (i:=ops.size) (fun k=>T.tm k t) ops.size (fun k E _=>by rw[h k E];simp[E]);rwa [Nat.min_self]at this
 refine⟨⟨I.ext0,I.dom0,I.grow0,I.os0,I.tape0,I.out0,I.keep0,fun b l o hb O Z=>I.img0 b l o hb (by rw[hc];exact O) Z,
  ⟨fun b l o hb O=>I.obj b l o hb (by rw[hc];exact O),fun b1 b2 l1 l2 o1 o2 al U Y an ar=>I.inj b1 b2 l1 l2 o1 o2 al U Y (by rw[hc];exact an) (by rw[hc];exact ar)⟩⟩,⟨?_,fun t=>?_⟩,I.defers⟩
 ·rw[I.size,T.sizeL ops.size]
 have:=I.tm t
 rwa [ax]at this
end
section
variable {P:Program} {G:Nat} {cf:cF} {ops:Array Oper}
theorem gT(al:dT P G cf): ∀(l:List Oper) (k:Nat) (fs:List (Nat×Inf)) (s s':St),ops.toList.drop k=l->k+l.length=ops.size->bB P G cf ops k fs l s=some s'->WF s.heap->
  ∃(st:Nat->St) (vl:Nat->Value) (nf:Nat->Inf),st k=s/\st ops.size=s'/\(∀j,ops.size<=j->st (j+1)=st j)/\(∀j,k<=j->WF (st j).heap)/\
   (∀j o,k<=j->ops[j]?=some o->OpFact P G cf ops o (st j) (st (j+1)) (vl j) (nf j))/\
   (∀j,k<=j->j<ops.size->∀q∈fs,bw (cz ops) q.1 j=true\/d7 q.2 (nf j)=true)/\
   (∀i j,k<=i->i<j->j<ops.size->bw (cz ops) i j=true\/d7 (nf i) (nf j)=true)
 | [],k,fs,s,s',hd,hlen,h,hw=>by simp only[bB,a03]at h;subst h;simp only[a02,Nat.add_zero]at hlen;refine⟨fun _=>s,fun _=>undef,fun _=> .v,rfl,rfl,fun _ _=>rfl,fun _ _=>hw,fun j o T U=>?_,fun j T b3=>by omega,fun i j hi ar T=>by omega⟩;have:=(a0E.1 U).1;omega
 |x::os,k,fs,s,s',hd,hlen,h,hw=>by
  simp only[a01]at hlen;unfold bB at h;split at h
  case h_2=>cases h
  rename_i s1 f h1;cases O:cr (cz ops) k f fs with
  |false=>rw[O]at h;cases h
  |true=>
   rw[O]at h
   simp only[cond_true]at h
   obtain⟨v,F⟩:=stepD_fact al hw h1
   have a5:WF s1.heap:=fun b hb=>by rw[F.far b hb];exact hw b (a0e F.next hb)
   have hk:k<ops.toList.length:=by simp;omega
   have an:=a0P hk
   rw[hd]at an
   injection an with e1 e2
   have a4:ops[k]?=some x:=by rw[←Array.getElem?_toList,a0c hk,←e1]
   obtain⟨st,vl,nf,g1,g2,g3,g4,g5,g6,g7⟩:=gT al os (k+1) ((k,f)::fs) s1 s' e2.symm (by omega) h a5
   have Z: ∀(l:List (Nat×Inf)),cr (cz ops) k f l=true->∀q∈l,bw (cz ops) q.1 k=true\/d7 q.2 f=true:=by
    intro l;induction l with
    |nil=>intro _ q O;simp at O
    |cons p l ih=>
     intro hl q O
     obtain⟨pj,pg⟩:=p
     simp only[cr,a05,a0G]at hl
     rcases a0l.1 O with rfl|O
     ·exact hl.1
     exact ih hl.2 q O
   refine⟨fun j=>if j<=k then s else st j,fun j=>if j<=k then v else vl j,fun j=>if j<=k then f else nf j,by simp,?_,fun j T=>?_,fun j T=>?_,fun j o T U=>?_,fun j T Y q ax=>?_,fun i j hi ar Y=>?_⟩
   ·simp only[show ¬(ops.size<=k) by omega,if_false];exact g2
   ·simp only[show ¬(j<=k) by omega,show ¬(j+1<=k) by omega,if_false];exact g3 j T
   ·by_cases E:j<=k
    ·simp only[E,if_true];exact hw
    simp only[E,if_false];exact g4 j (by omega)
   ·by_cases E:j=k
    ·subst E;rw[a4]at U;injection U with U;subst U;simp only[a07,if_true,show ¬(j+1<=j) by omega,if_false,g1];exact F
    simp only[show ¬(j<=k) by omega,show ¬(j+1<=k) by omega,if_false];exact g5 j o (by omega) U
   ·by_cases E:j=k
    ·subst E;simp only[a07,if_true];exact Z fs O q ax
    simp only[show ¬(j<=k) by omega,if_false];exact g6 j (by omega) Y q (a0u _ ax)
   by_cases a2:i=k
   ·subst a2;simp only[a07,if_true,show ¬(j<=i) by omega,if_false];exact g6 j (by omega) Y (i,f) (by simp)
   simp only[show ¬(i<=k) by omega,show ¬(j<=k) by omega,if_false]
   exact g7 i j (by omega) ar Y
def Dom(μ:Emb)(H:Heap):Prop:= ∀b l,μ b=some l->b<H.next
theorem region_sound(Z:dT P G cf){id:Nat}{O:Bool}{s E:St}(h:bV P G cf ops O s=some E){μ:Emb}{a:Act}{w:World}{Q:Exit->Act->World->Prop}
  (a1:WF s.heap) (ht:TRel μ s.tmps s.size a.tmps) (hG:GRel μ G) (hw:WRel μ s.heap w) (al: ∀b l,μ b=some l->b<s.heap.next\/E.heap.next<=b)
  (hQ: ∀μ' w' U,Post μ s.heap w μ' E.heap w'->TRel μ' E.tmps E.size U.tmps->U.defers=a.defers->Q .normal U w'):(Code.region id ops O).wp P Q a w:=by
 have an: ∀b,s.heap.next<=b->b<E.heap.next->μ b=none:=by
  intro b h1 h2;cases hb:μ b with
  |none=>rfl
  |some l=>rcases al b l hb with h3|h3<;>omega
 unfold bV at h
 cases O with
 |false=>
  simp only[cond_false]at h
  refine wp_region ?_
  rw[List.range_eq_range']
  have:=iy Z ops.toList 0 s E rfl h μ a w a1 ht hG hw an (Q:=Q) hQ
  simpa using this
 |true=>
  simp only[cond_true]at h
  cases hq:(jv ops&&P.follows .mixedOrders) with
  |false=>rw[hq]at h;cases h
  |true=>
   rw[hq]at h
   simp only[cond_true]at h
   simp only[a05]at hq
   obtain⟨st,vl,nf,Y,g2,g3,g4,g5,_,g7⟩:=gT Z ops.toList 0 [] s E rfl (by simp) h a1
   have T:Trace P G cf ops st vl nf:=⟨fun k o ho=>g5 k o (a0o _) ho,g3,fun j k a6 hk=>g7 j k (a0o _) a6 hk,regOK_facts hq.1,fun k=>g4 k (a0o _)⟩
   refine wp_region_any hq.2 ?_
   rw[World.drew_eq]
   have I:=inv_start (a:=a) (w:=w.drew) (μ0:=μ) T (by rw[Y];exact ht) (by rw[Y];exact hw.drew) (by rw[Y,g2];exact al) (gi (Array.replicate ops.size false)) (fun k=>by
    unfold gi;simp[a0C,Array.getElem?_replicate];split<;>rfl)
   refine any_sound Z T hG (fun S μ' U w' hS I'=>?_) ops.size _ μ a w.drew (by simp) (cnt_le _) I
   obtain⟨hp,a0,a5⟩:=inv_end T hS I'
   rw[Y,g2]at hp
   rw[g2]at a0
   refine hQ μ' w' U ((Post.drew hw).trans hp (a07 _) ?_) a0 a5
   have:=T.monoL (a0o ops.size)
   rwa [Y,g2]at this
end
end Go.R
namespace Go.R
open Go.RowKit
def Ex.toExit:Ex->Exit
 | .normal=> .normal
 | .exit id=> .exit id
 | .ret=> .ret
def LoopWp(P:Program)(c:Code)(Q:Exit->Act->World->Prop)(a:Act)(w:World):Prop:=
 ∀(b:Frame) (k:List Item) (cs:List Frame),∃e h w',Q e h w'/\Arrives P (lone (b.at a (.code c:: .inLoop c::k)) cs w) b k cs e h w'
theorem LoopWp.wp{P:Program}{c:Code}{Q:Exit->Act->World->Prop}{a:Act}{w:World}(h:LoopWp P c Q a w):(Code.loop c).wp P Q a w:=
 fun b k cs=>let⟨e,a',w',q,r⟩:=h b k cs;⟨e,a',w',q,.of_steps (.one step_loop) r⟩
theorem LoopWp.round{P:Program}{c:Code}{Q:Exit->Act->World->Prop}{a:Act}{w:World}(h:c.wp P (Exit.then (LoopWp P c Q) Q) a w):LoopWp P c Q a w:=by
 intro b k cs;obtain⟨e,T,U,O,E⟩:=h b (.inLoop c::k) cs;cases e with
 |normal=>
  obtain⟨e₂,a₂,w₂,Z,Y⟩:=O b k cs
  exact⟨e₂,a₂,w₂,Z,.of_steps (Steps.trans E (.one step_inLoop)) Y⟩
 |exit id=>exact⟨_,T,U,O,.pass (x:= .inLoop c) rfl (fun _ _=> .inl (by simp)) E⟩
 |goto l=>exact⟨_,T,U,O,.pass (x:= .inLoop c) rfl (fun _ _=> .inl (by simp)) E⟩
 |ret=>exact⟨_,T,U,O,.pass (x:= .inLoop c) rfl (fun _ _=> .inl (by simp)) E⟩
 |panic ch=>exact⟨_,T,U,O,.pass (x:= .inLoop c) rfl (fun _ _=> .inl (by simp)) E⟩
 |outgrown=>exact⟨_,T,U,O,.pass (x:= .inLoop c) rfl (fun _ _=> .inl (by simp)) E⟩
def Wp(P:Program)(c:Code)(Q:Exit->Act->World->Prop)(a:Act)(w:World):Prop:=
 match c with
 | .loop b=>LoopWp P b Q a w
 |c=>c.wp P Q a w
theorem Wp.wp{P:Program}{c:Code}{Q:Exit->Act->World->Prop}{a:Act}{w:World}(h:Wp P c Q a w):c.wp P Q a w:=by cases c<;>first|exact LoopWp.wp h|exact h
def After(μ:Emb)(s:St)(w:World)(e:Ex)(h:St):Exit->Act->World->Prop:=fun O E T=>
 O=e.toExit/\E.defers=[]/\∃μ',Post μ s.heap w μ' h.heap T/\TRel μ' h.tmps h.size E.tmps
def ExOK(P:Program)(G:Nat)(ex:Code->St->Option (Ex×St)):Prop:= ∀c s e h,ex c s=some (e,h)->WF s.heap->Ext s.heap h.heap/\
 ∀μ a w,a.defers=[]->TRel μ s.tmps s.size a.tmps->GRel μ G->WRel μ s.heap w->(∀b,s.heap.next<=b->b<h.heap.next->μ b=none)->Wp P c (After μ s w e h) a w
section
variable {P:Program} {G:Nat}
theorem kg{μ E:Emb}{H H1 O:Heap}{w w1:World}(hp:Post μ H w E H1 w1)(T:H.next<=H1.next)(Z: ∀b,H.next<=b->b<O.next->μ b=none): ∀b,H1.next<=b->b<O.next->E b=none:=by
 intro b U Y;cases hb:E b with
 |none=>rfl
 |some l=>
  rcases hp.dom b l hb with h|⟨_,h⟩
  ·rw[Z b (a0e T U) Y]at h;cases h
  omega
theorem After.trans{μ Y:Emb}{s h T:St}{w w1:World}{e:Ex}(hp:Post μ s.heap w Y h.heap w1)(Z:s.heap.next<=h.heap.next)(h2:h.heap.next<=T.heap.next):
  ∀O E U,After Y h w1 e T O E U->After μ s w e T O E U:=by
 rintro O E U ⟨he,hd,μ2,hp2,ht⟩
 exact⟨he,hd,μ2,hp.trans hp2 Z h2,ht⟩
theorem region_ext{cf:cF}(Z:dT P G cf){ops:Array Oper}{O:Bool}{s E:St}(Y:WF s.heap)(h:bV P G cf ops O s=some E):Ext s.heap E.heap:=by
 unfold bV at h;cases O with
 |false=>exact ia Z _ _ _ Y h
 |true=>
  simp only[cond_true]at h
  cases U:(jv ops&&P.follows .mixedOrders) with
  |false=>rw[U]at h;cases h
  |true=>
   rw[U]at h
   simp only[cond_true]at h
   have key: ∀(l:List Oper) (k:Nat) (fs:List (Nat×Inf)) (s E:St),WF s.heap->bB P G cf ops k fs l s=some E->Ext s.heap E.heap:=by
    intro l;induction l with
    |nil=>intro k fs s E _ h;simp only[bB,a03]at h;subst h;exact Ext.refl _
    |cons o os ih=>
     intro k fs s E Y h
     unfold bB at h
     split at h
     case h_2=>cases h
     rename_i s1 f T
     cases U:cr (cz ops) k f fs with
     |false=>rw[U]at h;cases h
     |true=>
      rw[U]at h
      simp only[cond_true]at h
      have e1:Ext s.heap s1.heap:=by
       unfold gh at T;split at T
       case h_2=>cases T
       rename_i t ar;simp only[a03,a04]at T;obtain⟨rfl,_⟩:=T;have e0:=i7 Z (s:={s with heap:={s.heap with log:=[]}}) Y ar;obtain⟨d,hd,hs⟩:=e0.log;refine⟨e0.next,⟨dD s.heap.next t.heap.log,rfl,fun b hb hn=>?_⟩,e0.far⟩;refine hs b hb fun hm=>hn (fB.2 ⟨?_,hb⟩)
       rw[hd,a0j];exact hm
      exact e1.trans (ih _ _ _ _ (Y.ext e1) h)
   exact key _ _ _ _ _ Y h
theorem execC_ok{rec_:Code->St->Option (Ex×St)}{cf:cF}(bb:ExOK P G rec_)(a8:dT P G cf):ExOK P G (en P G rec_ cf):=by
 intro c;induction c with
 |skip=>
  intro s e s' h hw
  rw[km]at h
  simp only[a03,a04]at h
  obtain⟨rfl,rfl⟩:=h
  exact⟨Ext.refl _,fun μ a w hd O T Y _=>wp_skip ⟨rfl,hd,μ,Post.refl Y,O⟩⟩
 |region id ops draw=>
  intro s e s' h hw
  rw[fG]at h
  unfold dL at h
  split at h
  ·rename_i s1 h1;simp only[a03,a04]at h;obtain⟨rfl,rfl⟩:=h;refine⟨region_ext a8 hw h1,fun μ a w hd O T Y Z=>?_⟩;refine region_sound a8 h1 hw O T Y (fun b l hb=>?_) fun μ' w' a' hp b1 b0=>⟨rfl,b0.trans hd,μ',hp,b1⟩
   rcases a0k b s.heap.next with h2|h2
   ·exact .inl h2
   right;rcases a0k b s1.heap.next with h3|h3
   ·rw[Z b h2 h3]at hb;cases hb
   exact h3
  cases h
 |seq x y ihx ihy=>
  intro s e s' h hw
  rw[jJ]at h
  cases hx:en P G rec_ cf x s with
  |none=>rw[hx]at h;cases h
  |some p=>
   obtain⟨e1,s1⟩:=p
   obtain⟨E,U⟩:=ihx s e1 s1 hx hw
   rw[hx]at h
   cases e1 with
   |normal=>
    simp only[fH]at h
    obtain⟨ar,a5⟩:=ihy s1 e s' h (hw.ext E)
    refine⟨E.trans ar,fun μ a w hd O T Y Z=>wp_seq ?_⟩
    refine wp_mono (U μ a w hd O T Y (fun b h1 h2=>Z b h1 (a0O h2 ar.next))).wp ?_
    rintro e2 a2 w2 ⟨rfl,hd2,μ2,hp2,ht2⟩
    exact wp_mono (a5 μ2 a2 w2 hd2 ht2 (T.mono hp2.ext) hp2.wrel (kg hp2 E.next Z)).wp (After.trans hp2 E.next ar.next)
   |exit i=>
    simp only[fH,a03,a04]at h
    obtain⟨rfl,rfl⟩:=h
    refine⟨E,fun μ a w hd O T Y Z=>wp_seq ?_⟩
    refine wp_mono (U μ a w hd O T Y Z).wp ?_
    rintro e2 a2 w2 ⟨rfl,hrest⟩
    exact⟨rfl,hrest⟩
   |ret=>
    simp only[fH,a03,a04]at h
    obtain⟨rfl,rfl⟩:=h
    refine⟨E,fun μ a w hd O T Y Z=>wp_seq ?_⟩
    refine wp_mono (U μ a w hd O T Y Z).wp ?_
    rintro e2 a2 w2 ⟨rfl,hrest⟩
    exact⟨rfl,hrest⟩
 |cond c x y ihx ihy=>
  intro s e s' h hw
  rw[il]at h
  cases hq:bH G c with
  |false=>rw[hq]at h;cases h
  |true=>
   rw[hq]at h
   simp only[cond_true]at h
   unfold kr at h
   split at h
   ·rename_i t hv;have a6: ∀(μ:Emb) (a:Act),TRel μ s.tmps s.size a.tmps->GRel μ G->a.eval c= .bool t:=by
     intro μ a O T;have:=eval_of T hq (tm:=s.tmps) (a:=a) fun k _=>O.2 k
     rw[hv]at this;exact this.bool_inv
    cases t with
    |true=>
     obtain⟨E,U⟩:=ihx s e s' h hw
     exact⟨E,fun μ a w hd O T Y Z=>wp_cond_true (a6 μ a O T) (U μ a w hd O T Y Z).wp⟩
    |false=>
     obtain⟨E,U⟩:=ihy s e s' h hw
     exact⟨E,fun μ a w hd O T Y Z=>wp_cond_false (a6 μ a O T) (U μ a w hd O T Y Z).wp⟩
   cases h
 |block id x ih=>
  intro s e s' h hw
  rw[gF]at h
  cases hx:en P G rec_ cf x s with
  |none=>rw[hx]at h;cases h
  |some p=>
   obtain⟨e1,s1⟩:=p
   obtain⟨E,U⟩:=ih s e1 s1 hx hw
   rw[hx]at h
   cases e1 with
   |normal=>
    simp only[cZ,a03,a04]at h
    obtain⟨rfl,rfl⟩:=h
    refine⟨E,fun μ a w hd O T Y Z=>wp_block ?_⟩
    refine wp_mono (U μ a w hd O T Y Z).wp ?_
    rintro e2 a2 w2 ⟨rfl,hrest⟩
    exact⟨rfl,hrest⟩
   |exit i=>
    simp only[cZ]at h
    cases hb:Nat.beq i id with
    |true=>
     rw[hb]at h
     simp only[cond_true,a03,a04]at h
     obtain⟨rfl,rfl⟩:=h
     have hi:i=id:=a06 hb
     subst hi
     refine⟨E,fun μ a w hd O T Y Z=>wp_block ?_⟩
     refine wp_mono (U μ a w hd O T Y Z).wp ?_
     rintro e2 a2 w2 ⟨rfl,hrest⟩
     simp only[Ex.toExit,Exit.inBlock,if_true]
     exact⟨rfl,hrest⟩
    |false=>
     rw[hb]at h
     simp only[cond_false,a03,a04]at h
     obtain⟨rfl,rfl⟩:=h
     have hi: ¬i=id:=fun e=>by subst e;rw[a0J]at hb;cases hb
     refine⟨E,fun μ a w hd O T Y Z=>wp_block ?_⟩
     refine wp_mono (U μ a w hd O T Y Z).wp ?_
     rintro e2 a2 w2 ⟨rfl,hrest⟩
     simp only[Ex.toExit,Exit.inBlock,hi,if_false]
     exact⟨rfl,hrest⟩
   |ret=>
    simp only[cZ,a03,a04]at h
    obtain⟨rfl,rfl⟩:=h
    refine⟨E,fun μ a w hd O T Y Z=>wp_block ?_⟩
    refine wp_mono (U μ a w hd O T Y Z).wp ?_
    rintro e2 a2 w2 ⟨rfl,hrest⟩
    exact⟨rfl,hrest⟩
 |loop x ih=>
  intro s e s' h hw
  rw[ij]at h
  cases hx:en P G rec_ cf x s with
  |none=>rw[hx]at h;cases h
  |some p=>
   obtain⟨e1,s1⟩:=p
   obtain⟨E,U⟩:=ih s e1 s1 hx hw
   rw[hx]at h
   cases e1 with
   |normal=>
    simp only[fH]at h
    obtain⟨ar,a5⟩:=bb (.loop x) s1 e s' h (hw.ext E)
    refine⟨E.trans ar,fun μ a w hd O T Y Z=>LoopWp.round ?_⟩
    refine wp_mono (U μ a w hd O T Y (fun b h1 h2=>Z b h1 (a0O h2 ar.next))).wp ?_
    rintro e2 a2 w2 ⟨rfl,hd2,μ2,hp2,ht2⟩
    have hl:LoopWp P x (After μ2 s1 w2 e s') a2 w2:=a5 μ2 a2 w2 hd2 ht2 (T.mono hp2.ext) hp2.wrel (kg hp2 E.next Z)
    intro b k cs
    obtain⟨e3,a3,w3,q,r⟩:=hl b k cs
    exact⟨e3,a3,w3,After.trans hp2 E.next ar.next _ _ _ q,r⟩
   |exit i=>
    simp only[fH,a03,a04]at h
    obtain⟨rfl,rfl⟩:=h
    refine⟨E,fun μ a w hd O T Y Z=>LoopWp.round ?_⟩
    refine wp_mono (U μ a w hd O T Y Z).wp ?_
    rintro e2 a2 w2 ⟨rfl,hrest⟩
    exact⟨rfl,hrest⟩
   |ret=>
    simp only[fH,a03,a04]at h
    obtain⟨rfl,rfl⟩:=h
    refine⟨E,fun μ a w hd O T Y Z=>LoopWp.round ?_⟩
    refine wp_mono (U μ a w hd O T Y Z).wp ?_
    rintro e2 a2 w2 ⟨rfl,hrest⟩
    exact⟨rfl,hrest⟩
 |exit id=>
  intro s e s' h hw
  rw[ko]at h
  simp only[a03,a04]at h
  obtain⟨rfl,rfl⟩:=h
  exact⟨Ext.refl _,fun μ a w hd O T Y _=>wp_exit ⟨rfl,hd,μ,Post.refl Y,O⟩⟩
 |ret=>
  intro s e s' h hw
  rw[execC_ret]at h
  simp only[a03,a04]at h
  obtain⟨rfl,rfl⟩:=h
  exact⟨Ext.refl _,fun μ a w hd O T Y _=>wp_ret ⟨rfl,hd,μ,Post.refl Y,O⟩⟩
 |rangeFunc f ps x y _ _=>intro s e s' h;cases h
 |scope x _=>intro s e s' h;cases h
 |label l=>intro s e s' h;cases h
 |goto l=>intro s e s' h;cases h
 |refuse m=>intro s e s' h;cases h
theorem gI: ∀(args:List Value) (i:Nat) (t:Tr Value) (k:Nat),cP (eI i args t) k=if i<=k/\k<i+args.length then args.getD (k-i) undef else cP t k
 | [],i,t,k=>by rw[if_neg (by simp only[a02];omega)];rfl
 |v::l,i,t,k=>by
  simp only[eI];rw[gI l (i+1) _ k];by_cases h:i+1<=k/\k<i+1+l.length
  ·rw[if_pos h,if_pos (by simp only[a01];omega),show k-i=(k-(i+1))+1 by omega];rfl
  rw[if_neg h,fC];by_cases E:i=k
  ·subst E;rw[if_pos rfl,if_pos (by simp only[a01];omega)];simp
  rw[if_neg E,if_neg (by simp only[a01];omega)]
theorem args_rel{μ:Emb}{args:List Value}{E:Array Value}(h:LRel μ args E.toList)(n:Nat):
  TRel μ (eI 0 args .nil) (Nat.max args.length n) (E++Array.replicate (n-E.size) undef):=by
 have U:args.length=E.size:=by rw[h.1];simp
 refine⟨by simp only[Array.size_append,Array.size_replicate];rw[U];show _=max _ _;omega,fun i=>?_⟩
 rw[gI]
 simp only[a0o,true_and,a0A,Nat.sub_zero,lget_nil,a0C,Array.getElem?_append]
 by_cases hi:i<args.length
 ·rw[if_pos hi,if_pos (by omega)];have O:args[i]?=some args[i]:=a0c hi;obtain⟨v',T,Y⟩:=h.get O;have:E[i]?=some v':=by simpa using T
  rw[this,a0b,O];exact Y
 rw[if_neg hi,if_neg (by omega)]
 rw[Array.getElem?_replicate]
 split
 ·exact VRel.undef
 exact VRel.undef
theorem gr{μ:Emb}{s:St}{a:Array Value}{w:World}(O:TRel μ s.tmps s.size a)(Z:WRel μ s.heap w): ∀(rs:List ResultVar) (l:List Value),cO P s rs=some l->
  ∃l',(rs.mapM (m:=Sem) fun| .tmp t=>Pure.pure (a.getD t undef)| .cell x t=>do loadVar t (←asAddr (a.getD x undef))).run P w= .ok l' w/\LRel μ l l'
 | [],l,h=>by simp only[cO,a03]at h;subst h;exact⟨[],by simp,.nil⟩
 | .tmp t::rs,l,h=>by
  unfold cO at h;split at h
  ·rename_i l1 U;injection h with h;subst h;obtain⟨l',E,Y⟩:=gr O Z rs l1 U;exact⟨a.getD t undef::l',by simp only[List.mapM_cons,Sem.run_bind,Sem.run_pure,Result.andThen_ok,E],.cons (O.2 t) Y⟩
  cases h
 | .cell x t::rs,l,h=>by
  unfold cO at h;split at h
  ·rename_i p hp;split at h
   ·rename_i v l1 hv U;injection h with h;subst h;obtain⟨l',E,Y⟩:=gr O Z rs l1 U;have hx:=O.2 x;rw[hp]at hx;obtain⟨b,o,sp⟩:=p;have ar:sp=none:=hx.ptr_some.1;subst ar;obtain⟨T,hμ,a0⟩:=hx.ptr_inv;obtain⟨v',an,ax⟩:=gA (P:=P) Z hμ hv;exact⟨v'::l',by simp only[List.mapM_cons,Sem.run_bind,a0,show(asAddr (Value.pointer (some ⟨T.c,T.sh+o,none⟩))).run P w= .ok ⟨T.c,T.sh+o,none⟩ w from rfl,Sem.run_pure,Result.andThen_ok,an,E],.cons ax Y⟩
   cases h
  cases h
theorem result_rel{μ:Emb}{l l':List Value}(h:LRel μ l l'):VRel μ (d9 l) (if h:l'.toArray.size=1 then l'.toArray[0] else .tuple l'.toArray):=by
 match l,l',h with
 | [],l',h=>
  have:=h.nil_left
  subst this
  exact .tuple _ _ rfl (fun i v v' h=>by simp at h)
 | [v],l',h=>
  obtain⟨v',t,rfl,O,E⟩:=h.cons_left
  have:=E.nil_left
  subst this
  exact O
 |v::u::r,l',h=>
  obtain⟨v',t,rfl,O,E⟩:=h.cons_left
  obtain⟨Z,Y,rfl,U,T⟩:=E.cons_left
  simp only[List.size_toArray,a01,show ¬(Y.length+1+1=1) by omega,dite_false]
  have:=LRel.cons O (LRel.cons U T)
  exact .tuple _ _ (by simpa[d9] using this.1) (by simpa[d9] using this.2)
theorem kO{μ:Emb}{s:St}{fn:Func}{a:Array Value}{w:World}(T:TRel μ s.tmps s.size a)(U:WRel μ s.heap w){l:List Value}(h:cO P s fn.results.toList=some l):
  ∃v',(results fn a).run P w= .ok v' w/\VRel μ (d9 l) v':=by
 obtain⟨l',O,E⟩:=gr (P:=P) T U _ l h
 refine⟨_,?_,result_rel E⟩
 unfold results
 rw[Array.mapM_eq_mapM_toList]
 simp only[Sem.run_bind,Sem.run_map]
 have e: ∀(r:Result (List Value)),r= .ok l' w->((r.andThen fun a w'=>(.ok a.toArray w':Result (Array Value))).andThen fun vs w'=>((Pure.pure (if h:vs.size=1 then vs[0] else Value.tuple vs):Sem Value).run P w'))=
   .ok (if h:l'.toArray.size=1 then l'.toArray[0] else .tuple l'.toArray) w:=by
  intro r E;subst E;rfl
 exact e _ O
theorem callC_ok{ex:Code->St->Option (Ex×St)}(Z:ExOK P G ex):dT P G (lm P ex):=by
 intro f args H v H' h ar;unfold lm at h;split at h
 case h_2=>cases h
 rename_i fn al;split at h
 case h_2=>cases h
 rename_i c hc;have Y: ∀e s,(e=Ex.normal\/e=Ex.ret)->ex c {tmps:=eI 0 args .nil,size:=Nat.max args.length fn.ntmps,heap:=H}=some (e,s)->
   (match cO P s fn.results.toList with|some l=>some (d9 l,s.heap)|none=>none)=some (v,H')->Ext H H'/\
   ∀μ w (E:Array Value),LRel μ args E.toList->GRel μ G->WRel μ H w->(∀b,H.next<=b->b<H'.next->μ b=none)->
    Calls P f E w fun e w'=> ∃μ' v',e= .returned v'/\VRel μ' v v'/\Post μ H w μ' H' w':=by
  intro e s he U O
  split at O
  ·rename_i l hl;simp only[a03,a04]at O;obtain⟨rfl,rfl⟩:=O;obtain⟨ext,ax⟩:=Z c _ e s U ar;refine⟨ext,fun μ w E ha hG hw hf=>?_⟩;refine calls_of_wp al hc ?_;refine wp_mono (ax μ {tmps:=E++Array.replicate (fn.ntmps-E.size) undef,defers:=[]} w rfl (args_rel ha fn.ntmps) hG hw hf).wp ?_;rintro e2 a2 w2 ⟨rfl,hd,μ',hp,ht⟩;obtain⟨v',T,hr⟩:=kO (P:=P) (fn:=fn) ht hp.wrel hl;rcases he with rfl|rfl
   ·exact⟨hd,v',T,μ',v',rfl,hr,hp⟩
   exact⟨hd,v',T,μ',v',rfl,hr,hp⟩
  cases O
 split at h
 ·rename_i s U;exact Y .normal s (.inl rfl) U h
 ·rename_i s U;exact Y .ret s (.inr rfl) U h
 cases h
def fO(P:Program)(G:Nat)(K:bR):Prop:= ∀f args H v,K f args H=some v->args.all noA2=true/\noA2 v=true/\∀(μ:Emb) (h:Array Value) (w:World),h.toList=args->GRel μ G->WRel μ H w->
 Calls P f h w fun e w'=>e= .returned v/\Below w.heap.size w w'
theorem LRel.eq2{μ:Emb}{l l':List Value}(h:LRel μ l l')(E:l.all noA2=true):l'=l:=by
 induction l generalizing l' with
 |nil=>exact h.nil_left
 |cons v l ih=>
  obtain⟨v',U,rfl,T,O⟩:=h.cons_left
  simp only[a0M,a05]at E
  rw[T.eq2 E.1,ih O E.2]
theorem LRel.refl2{μ:Emb}{l:List Value}(h:l.all noA2=true):LRel μ l l:=by refine⟨rfl,fun i v v' O E=>?_⟩;rw[O]at E;injection E with E;subst E;exact VRel.refl2 (a0t.1 h v (a0p O))
theorem callK_ok{K:bR}{cf:cF}(hK:fO P G K)(Y:dT P G cf):dT P G (jN K cf):=by
 intro f args H v H' h an;unfold jN at h;split at h
 ·rename_i u hu;simp only[a03,a04]at h;obtain⟨rfl,rfl⟩:=h;obtain⟨h1,h2,h3⟩:=hK f args H u hu;refine⟨Ext.refl _,fun μ w E ha hG U hf=>?_⟩;refine(h3 μ E w (ha.eq2 h1) hG U).mono ?_;rintro e w' ⟨rfl,hb⟩;refine⟨μ,u,rfl,VRel.refl2 h2,⟨fun _ _ h=>h,fun _ _ h=> .inl h,hb.size,hb.os,hb.tape,hb.output,fun c hc _=>hb.block c hc,fun b l o O T h6=> .inr ⟨b,l,o,O,T,h6,id,rfl⟩,⟨fun b l o O T=>?_,U.inj⟩⟩⟩;have hr:=U.obj b l o O T;exact hr.keep (fun _ _ h=>h) hb.size (fun Z=>hb.block l.c (hr.lt Z))
 exact Y f args H v H' h an
theorem exec_ok{K:bR}(E:fO P G K): ∀n,ExOK P G (kp P G K n)
 |0=>fun c s e O h=>by cases h
 |n+1=>execC_ok (exec_ok E n) (callK_ok E (callC_ok (exec_ok E n)))
theorem call_ok{K:bR}(h:fO P G K)(n:Nat):dT P G (call P G K n):=callK_ok h (callC_ok (exec_ok h n))
theorem none_ok:fO P G noneKnown:=fun f args H v h=>by cases h
theorem ll{K:bR}(Y:fO P 0 K){n:Nat}{f:FuncId}{args:List Value}{v:Value}{H':Heap}(ha:args.all noA2=true)(hv:noA2 v=true)
  (h:call P 0 K n f args Heap.empty=some (v,H')) (E:Array Value) (w:World) (hc:E.toList=args):
  Calls P f E w fun e w'=>e= .returned v/\Below w.heap.size w w':=by
 have U:WF Heap.empty:=fun b _=>rfl
 obtain⟨_,O⟩:=call_ok (G:=0) Y n f args Heap.empty v H' h U
 have T:WRel (fun _=>none) Heap.empty w:=⟨fun b l o hb=>(by cases hb),fun b1 b2 l1 l2 o1 o2 _ hb=>(by cases hb)⟩
 refine(O (fun _=>none) w E (by rw[hc];exact LRel.refl2 ha) (fun g hg=>by omega) T (fun _ _ _=>rfl)).mono ?_
 rintro e w' ⟨μ',v',rfl,hr,hp⟩
 rw[hr.eq2 hv]
 refine⟨rfl,hp.os,hp.tape,hp.out,hp.grow,fun k Z=>hp.keep k Z fun b l o hb=>by cases hb⟩
end
end Go.R
namespace Go.R
open Go.RowKit
theorem walk_of_eval{P:Program}{K:bR}(O:fO P 0 K){n:Nat}{f:FuncId}(h:saysTrue (call P 0 K n f [] Heap.empty)=true)(w:World):
  Calls P f #[] w fun e w'=>e= .returned (.bool true)/\Below w.heap.size w w':=by
 revert h
 cases hc:call P 0 K n f [] Heap.empty with
 |none=>intro h;cases h
 |some r=>
  obtain⟨v,H'⟩:=r
  intro h
  have T:v= .bool true:=by
   unfold saysTrue at h;split at h
   ·rename_i E;simp only[a03,a04]at E;exact E.1
   cases h
  subst T
  exact ll O rfl rfl hc #[] w rfl
open Go.WideShapes Go.ChangeShapes in
theorem kQ{H:Type}{enc:TypeId×Value->H}{P:Program}{f:Func}{s:ChangeSpec}{T a3 an a2:Bool}{W W':World}{args:Array Value}{v:Value}{ds gs:List (DataW H)}{h pa pv:List MemPlace}
  (hW:DataW.Whole enc P f.params.toList s.vars T W args.toList ds gs h)
  (a1: ∀(b:Nat) (O:Nat->Bool) (hd:Bool),DataW.TrodAll enc P W' b O hd f.resultTypes.toList (v.resultList f.resultTypes.size) (s.fn H (ds++gs)).results [])
  (U: ∀O:Nat->Bool,(∀p∈h,O p.block=true)->DataW.TrodAll enc P W' 0 O true f.params.toList args.toList (s.fn H (ds++gs)).args pa)
  (Z: ∀O:Nat->Bool,(∀p∈h,O p.block=true)->DataW.TrodVars enc P W' O s.vars (s.fn H (ds++gs)).vars pv)
  (Y:h=pa++pv) (hb:Below W.heap.size W W')
  (a9: ∀(j:Nat) (t:TypeId) (r:Value),f.resultTypes[j]?=some t->(v.resultList f.resultTypes.size)[j]?=some r->Value.okWide P W' .any 0 t r):
  s.post enc P f T a3 an a2 W args v W':=by
 have a0: ∀p∈h,(fun b=>decide (b<W.heap.size)) p.block=true:=fun p E=>by simpa using hW.lt p E
 have a8: ∀p∈h,p.block<W.heap.size:=fun p E=>by simpa using hW.lt p E
 refine⟨ds,gs,h,[],pa,pv,hW,a1 _ _ _,U _ a0,Z _ a0,World.keptBut_mono (fun p E=>⟨E,?_⟩) (hb.frame (· ∈h)),fun _=>?_⟩
 ·rw[Y,a0h]at E;exact Or.inr E
 obtain⟨_,_,_,_,_,hz,hn⟩:=hW
 refine⟨a9,_,_,([]++pa)++pv,⟨[]++pa,pv,trodAll_append (U _ (fun _ _=>rfl)) (a1 _ _ _),Z _ (fun _ _=>rfl),rfl,?_,?_⟩,?_⟩
 ·intro b off E;have a5:MemPlace.cell b off∈h:=by rw[Y];simpa using E
  have h1:=hb.frozen (p:=⟨b,off,none⟩) (a8 _ a5);have h2:=hz b off a5;first|(rw[h1];exact h2)|(exact h1.trans h2)|(simp_all)
 ·intro ha;have:=hn ha;rw[Y]at this;simpa using this
 intro p E _
 rw[Y]
 simpa using E
end Go.R
noncomputable section
namespace Go.R
open Go.RowKit
section
variable {P:Program} {w:World} {base:Nat} {held:Bool} {enc:TypeId×Value->Unit}
def lit1(P:Program)(t:TypeId)(d:DataW Unit):Option Value:=
 match P.underlying t,d with
 |some .bool,.lit (.bool b)=>some (.bool b)
 |some (.int k),.lit (.int _ n)=>some (.int k n)
 |some .string,.lit (.string l)=>some (.string ⟨⟨l⟩⟩)
 |_,_=>none
def flatFs(P:Program):Nat->List Field->Bool
 |_,[]=>true
 |i,f::fs=>Nat.beq f.offset i&&Nat.beq (P.cellsOf f.type) 1&&flatFs P (i+1) fs
def litFs(P:Program):List Field->List (DataW Unit)->Option (List Value)
 | [],[]=>some []
 |f::fs,d::ds=>
  match lit1 P f.type d,litFs P fs ds with
  |some v,some l=>some (v::l)
  |_,_=>none
 |_,_=>none
def litRows(P:Program)(fs:List Field):List (DataW Unit)->Option (List (List Value))
 | []=>some []
 | .agg ds::r=>
  match litFs P fs ds,litRows P fs r with
  |some l,some m=>some (l::m)
  |_,_=>none
 |_::_=>none
end
end Go.R
end
namespace Go.R
def CfLe(cf cf':cF):Prop:= ∀f a H r,cf f a H=some r->cf' f a H=some r
def ExLe(ex h:Code->St->Option (Ex×St)):Prop:= ∀c s r,ex c s=some r->h c s=some r
section
variable {P:Program} {G:Nat} {cf cf':cF} {ops:Array Oper}
theorem step_mono(h:CfLe cf cf'){o:Oper}{s T:St}(hs:step P G cf ops o s=some T):step P G cf' ops o s=some T:=by
 unfold step at hs⊢;cases O:bm ops o s.tmps with
 |false=>rw[O]at hs;exact hs
 |true=>
  rw[O]at hs
  cases E:o.op.operands.toList.all (bH G) with
  |false=>rw[E]at hs;cases hs
  |true=>
   rw[E]at hs
   simp only[cond_true]at hs⊢
   split at hs
   ·exact hs
   ·exact hs
   ·split at hs
    ·rename_i v U hc;rw[h _ _ _ _ hc];exact hs
    cases hs
   cases hs
theorem gk(h:CfLe cf cf'): ∀(l:List Oper) (s E:St),e9 P G cf ops l s=some E->e9 P G cf' ops l s=some E
 | [],_,_,hs=>hs
 |o::l,s,E,hs=>by
  rw[bZ]at hs⊢;split at hs
  ·rename_i t O;rw[step_mono h O];exact gk h l _ _ hs
  cases hs
theorem stepD_mono(h:CfLe cf cf'){o:Oper}{s:St}{r:St×Inf}(hs:gh P G cf ops o s=some r):gh P G cf' ops o s=some r:=by
 unfold gh at hs⊢;split at hs
 ·rename_i t E;rw[step_mono h E];exact hs
 cases hs
theorem eA(h:CfLe cf cf'): ∀(l:List Oper) (i:Nat) (fs:List (Nat×Inf)) (s s':St),bB P G cf ops i fs l s=some s'->bB P G cf' ops i fs l s=some s'
 | [],_,_,_,_,hs=>by unfold bB at hs⊢;exact hs
 |o::l,i,fs,s,s',hs=>by
  unfold bB at hs⊢;split at hs
  ·rename_i t f O;rw[stepD_mono h O];simp only;cases E:cr (cz ops) i f fs with
   |false=>rw[E]at hs;cases hs
   |true=>rw[E]at hs;simp only[cond_true]at hs⊢;exact eA h l _ _ _ _ hs
  cases hs
theorem jW(h:CfLe cf cf'){E:Bool}{s T:St}(hs:bV P G cf ops E s=some T):bV P G cf' ops E s=some T:=by
 unfold bV at hs⊢;cases E with
 |false=>exact gk h _ _ _ hs
 |true=>
  simp only[cond_true]at hs⊢
  cases O:jv ops&&P.follows .mixedOrders with
  |false=>rw[O]at hs;cases hs
  |true=>rw[O]at hs;simp only[cond_true]at hs⊢;exact eA h _ _ _ _ _ hs
theorem fY{r T:Option (Ex×St)}{k O:St->Option (Ex×St)}(Y: ∀x,r=some x->T=some x)(U: ∀s x,k s=some x->O s=some x){x:Ex×St}(h:fH r k=some x):fH T O=some x:=by
 cases E:r with
 |none=>rw[E]at h;cases h
 |some y=>
  rw[Y y E]
  rw[E]at h
  obtain⟨e,s⟩:=y
  cases e with
  |normal=>exact U _ _ h
  |exit i=>exact h
  |ret=>exact h
theorem iH{id:Nat}{r O:Option (Ex×St)}(T: ∀x,r=some x->O=some x){x:Ex×St}(h:cZ id r=some x):cZ id O=some x:=by
 cases E:r with
 |none=>rw[E]at h;cases h
 |some y=>rw[T y E];rw[E]at h;exact h
theorem execC_mono(h:CfLe cf cf'){ex T:Code->St->Option (Ex×St)}(U:ExLe ex T)(c:Code): ∀(s:St) (x:Ex×St),en P G ex cf c s=some x->en P G T cf' c s=some x:=by
 induction c with
 |skip=>intro s x E;exact E
 |region id ops draw=>
  intro s x E
  rw[fG]at E⊢
  cases O:bV P G cf ops draw s with
  |none=>rw[O]at E;cases E
  |some t=>rw[jW h O];rw[O]at E;exact E
 |seq a b iha ihb=>
  intro s x E
  rw[jJ]at E⊢
  exact fY (iha s) ihb E
 |cond c t e iht ihe=>
  intro s x E
  rw[il]at E⊢
  cases O:bH G c with
  |false=>rw[O]at E;cases E
  |true=>
   rw[O]at E
   simp only[cond_true]at E⊢
   unfold kr at E⊢
   split at E
   ·rename_i b hb;cases b with
    |true=>exact iht s x E
    |false=>exact ihe s x E
   cases E
 |block id b ih=>
  intro s x E
  rw[gF]at E⊢
  exact iH (ih s) E
 |loop b ih=>
  intro s x E
  rw[ij]at E⊢
  exact fY (ih s) (U _) E
 |exit id=>intro s x E;exact E
 |ret=>intro s x E;exact E
 |_=>intro s x E;cases E
theorem kB{ex E:Code->St->Option (Ex×St)}(O:ExLe ex E):CfLe (lm P ex) (lm P E):=by
 intro f a H r h;unfold lm at h⊢;split at h
 ·split at h
  ·split at h
   ·rename_i s T;rw[O _ _ _ T];exact h
   ·rename_i s T;rw[O _ _ _ T];exact h
   cases h
  cases h
 cases h
theorem kA{K:bR}(h:CfLe cf cf'):CfLe (jN K cf) (jN K cf'):=by
 intro f a H r E;unfold jN at E⊢;split at E
 ·exact E
 exact h _ _ _ _ E
theorem gZ{K:bR}: ∀n,ExLe (kp P G K n) (kp P G K (n+1))
 |0=>fun c s r h=>by cases h
 |n+1=>fun c s r h=>execC_mono (kA (kB (gZ n))) (gZ n) c s r h
theorem g0{K:bR}{n m:Nat}(h:n<=m):ExLe (kp P G K n) (kp P G K m):=by
 induction h with
 |refl=>exact fun _ _ _ h=>h
 |step _ ih=>exact fun c s r h=>gZ _ c s r (ih c s r h)
theorem eP{K:bR}{n m:Nat}(h:n<=m):CfLe (call P G K n) (call P G K m):=kA (kB (g0 h))
end
end Go.R
