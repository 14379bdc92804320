/-
 The evaluator is sound, second part: regions, code, calls, laws. No condition beyond those that each statement names.
-/
import Derived.Test.YtknafdcgpaejlaaDoorZERA
import Derived.Below
import Derived.ChangeSame
import Derived.ChangeArms
namespace Go.R
structure Ext(H H':Heap):Prop where
 next:H.next<=H'.next
 log: ∃d,H'.log=d++H.log/\∀b,b<H.next->b∉d->H'.get b=H.get b
 far: ∀b,H'.next<=b->H'.get b=H.get b
theorem Ext.refl(H:Heap):Ext H H:=⟨a09 _,⟨[],rfl,fun _ _ _=>rfl⟩,fun _ _=>rfl⟩
theorem Ext.trans{H H1 H2:Heap}(h:Ext H H1)(k:Ext H1 H2):Ext H H2:=by
 obtain⟨d1,e1,g1⟩:=h.log;obtain⟨d2,e2,g2⟩:=k.log;refine⟨a0c h.next k.next,⟨d2++d1,by rw[e2,e1,a0l],fun b hb hn=>?_⟩,fun b hb=>?_⟩
 ·rw[a08,not_or]at hn;rw[g2 b (a0V hb h.next) hn.1,g1 b hb hn.2]
 rw[k.far b hb,h.far b (a0c k.next hb)]
theorem Ext.push(H:Heap)(o:AObj):Ext H (H.push o):=by refine⟨by simp,⟨[],rfl,fun b hb _=>Heap.get_push_ne H o (by omega)⟩,fun b hb=>Heap.get_push_ne H o ?_⟩;simp at hb;omega
theorem Ext.put{H:Heap}{b:Nat}(o:AObj)(hb:b<H.next):Ext H (H.put b o):=by refine⟨a09 _,⟨[b],rfl,fun k _ hk=>Heap.get_put_ne H o (fun e=>hk (by simp[e]))⟩,fun k hk=>Heap.get_put_ne H o ?_⟩;simp at hk;omega
def WF(H:Heap):Prop:= ∀b,H.next<=b->H.get b=none
theorem WF.ext{H H':Heap}(h:WF H)(e:Ext H H'):WF H':=fun b hb=>by rw[e.far b hb];exact h b (a0c e.next hb)
theorem WF.lt{H:Heap}(h:WF H){b:Nat}{o:AObj}(hg:H.get b=some o):b<H.next:=by
 rcases a0j b H.next with hl|hl
 ·exact hl
 rw[h b hl]at hg;cases hg
section ext
variable {P:Program} {H H':Heap}
def ER(H:Heap){α:Type}(r:Option (α×Heap)):Prop:= ∀a H',r=some (a,H')->Ext H H'
theorem ER.none_{α:Type}:ER H (none:Option (α×Heap)):=fun _ _ h=>by cases h
theorem ER.some_{α:Type}{a:α}{H1:Heap}(h:Ext H H1):ER H (some (a,H1)):=fun _ _ e=>by injection e with e;injection e with _ e;subst e;exact h
theorem ER.same{α:Type}{a:α}:ER H (some (a,H)):=ER.some_ (Ext.refl H)
theorem ER.bif_{α:Type}{c:Bool}{x y:Option (α×Heap)}(h:ER H x)(k:ER H y):ER H (bif c then x else y):=by cases c<;>assumption
def EO(H:Heap)(r:Option Heap):Prop:= ∀H',r=some H'->Ext H H'
theorem EO.none_:EO H none:=fun _ h=>by cases h
theorem EO.some_{H1:Heap}(h:Ext H H1):EO H (some H1):=fun _ e=>by injection e with e;subst e;exact h
theorem EO.bif_{c:Bool}{x y:Option Heap}(h:EO H x)(k:EO H y):EO H (bif c then x else y):=by cases c<;>assumption
theorem ER.ovl_(r:Option Value):ER H (ovl r H):=by unfold ovl;split;exact ER.same;exact ER.none_
theorem ER.ovh_{r:Option (Value×Heap)}(h:ER H r):ER H (ovh r):=by
 unfold ovh;split
 ·rename_i v h1;exact ER.some_ (h v h1 rfl)
 exact ER.none_
theorem ER.osk_{r:Option Heap}(h:EO H r):ER H (osk r):=by
 unfold osk;split
 ·rename_i h1;exact ER.some_ (h h1 rfl)
 exact ER.none_
theorem ER.lift_(s:Sem Value):ER H (lift P s H):=by unfold lift;split;exact ER.same;exact ER.none_
theorem ER.plain_(ρ:Operand->Value)(o:Oper):ER H (bw P ρ o H):=by
 unfold bw;refine ER.bif_ ?_ ER.none_;split
 ·exact ER.bif_ ER.same ER.none_
 exact ER.none_
theorem ic(hw:WF H)(a:Addr)(vs:List Value):EO H (H.storeL a vs):=by
 unfold Heap.storeL;split
 ·split
  ·rename_i hg;exact EO.bif_ (EO.some_ (Ext.put _ (hw.lt hg))) EO.none_
  exact EO.none_
 exact EO.none_
theorem append_ext(hw:WF H)(types:Array TypeId)(s x:Value):ER H (fh P types s x H):=by
 unfold fh;split
 case h_2=>exact ER.none_
 split
 case h_2=>exact ER.none_
 split
 ·exact ER.none_
 split
 case h_2=>exact ER.none_
 split
 ·exact ER.none_
 split
 ·exact ER.bif_ ER.same (ER.bif_ (ER.some_ (Ext.push _ _)) ER.none_)
 ·split
  ·rename_i hg;refine ER.bif_ (ER.bif_ ER.same ?_) (ER.bif_ ?_ ER.none_)
   ·split
    ·rename_i h1 hst;exact ER.some_ (ic hw _ _ h1 hst)
    exact ER.none_
   split
   ·exact ER.none_
   split
   ·exact ER.some_ (Ext.push _ _)
   exact ER.bif_ (ER.some_ ((Ext.put .dead (hw.lt hg)).trans (Ext.push _ _))) ER.none_
  exact ER.none_
 exact ER.none_
theorem copy_ext(hw:WF H)(types:Array TypeId)(d s:Value):ER H (lW P types d s H):=by
 unfold lW;split
 case h_2=>exact ER.none_
 split
 case h_2=>exact ER.none_
 split
 case h_2=>exact ER.none_
 refine ER.bif_ ER.same ?_;split
 ·split
  ·rename_i h1 hst;exact ER.some_ (ic hw _ _ h1 hst)
  exact ER.none_
 exact ER.none_
theorem km(hw:WF H)(t:TypeId)(m k v:Value):EO H (eE P t m k v H):=by
 unfold eE;split
 ·split
  ·split
   ·rename_i hg;exact EO.bif_ (EO.some_ (Ext.put _ (hw.lt hg))) EO.none_
   exact EO.none_
  exact EO.none_
 exact EO.none_
theorem aop_er(hw:WF H)(ρ:Operand->Value)(o:Oper):ER H (aop P ρ o H):=by
 unfold aop;split
 ·exact ER.same
 ·exact ER.same
 ·unfold fw;split;exact ER.same;exact ER.none_
 ·unfold ee;split;exact ER.some_ (Ext.push _ _);exact ER.none_
 ·exact ER.some_ (Ext.push _ _)
 ·unfold gr;split;exact ER.lift_ _;exact ER.none_
 ·unfold bK;split
  ·refine ER.bif_ ?_ ER.none_;split
   ·exact ER.some_ (Ext.push _ _)
   exact ER.none_
  exact ER.none_
 ·unfold dX;split;exact ER.ovl_ _;exact ER.none_
 ·unfold gq;split
  ·split
   ·exact ER.bif_ (ER.osk_ (ic hw _ _)) ER.none_
   exact ER.none_
  exact ER.none_
 ·unfold opNil;split;exact ER.same;exact ER.same;exact ER.none_
 ·unfold aBin;split
  ·unfold binInt;split;exact ER.ovl_ _;exact ER.none_
  ·unfold binStr;split;exact ER.ovl_ _;exact ER.none_
  unfold lN;split
  ·exact ER.plain_ _ _
  ·exact ER.plain_ _ _
  intro a H' h;rw[(ij h).1];exact Ext.refl _
 ·unfold ff;split;exact ER.ovl_ _;exact ER.ovl_ _;exact ER.plain_ _ _
 ·exact ER.same
 ·exact ER.some_ (Ext.push _ _)
 ·refine ER.ovh_ ?_;unfold aMake;split
  ·split
   ·exact ER.bif_ (ER.some_ (Ext.push _ _)) ER.none_
   exact ER.none_
  exact ER.none_
 ·exact ER.ovl_ _
 ·exact ER.ovl_ _
 ·exact ER.ovl_ _
 ·exact ER.ovl_ _
 ·unfold j5;split;exact ER.ovl_ _;exact ER.lift_ _
 ·exact ER.ovl_ _
 ·exact ER.osk_ (km hw _ _ _ _)
 ·exact ER.osk_ (km hw _ _ _ _)
 ·refine ER.ovh_ ?_;unfold aRange;split;exact ER.some_ (Ext.push _ _);exact ER.none_
 ·refine ER.ovh_ ?_;unfold aNext;split
  ·split
   ·rename_i hg;exact ER.bif_ (ER.some_ (Ext.put _ (hw.lt hg))) ER.same
   exact ER.none_
  exact ER.none_
 ·exact ER.ovl_ _
 ·unfold opCall;split
  ·unfold lX;split
   ·unfold bLen;split;exact ER.ovl_ _;exact ER.none_
   ·unfold bAppend;split;exact ER.ovh_ (append_ext hw _ _ _);exact ER.none_
   ·unfold bCopy;split;exact ER.ovh_ (copy_ext hw _ _ _);exact ER.none_
   ·exact ER.plain_ _ _
   ·exact ER.plain_ _ _
   exact ER.none_
  ·unfold eZ;split;exact ER.same;exact ER.none_
  exact ER.none_
 ·unfold aUn;split
  ·split;exact ER.same;exact ER.none_
  exact ER.plain_ _ _
 exact ER.none_
theorem lR(hw:WF H){ρ:Operand->Value}{o:Oper}{r:AN}(h:aop P ρ o H=some (r,H')):Ext H H':=aop_er hw ρ o r H' h
end ext
section
variable {P:Program} {μ:Emb} {H H':Heap} {w:World}
theorem two_of{l:List Value}{a b:Value}{args':Array Value}(h:LRel μ l args'.toList)(he:l=[a,b]): ∃a' b',args'= #[a',b']/\VRel μ a a'/\VRel μ b b':=by subst he;obtain⟨a',t,h1,ha,ht⟩:=h.cons_left;obtain⟨b',t2,h2,hb,ht2⟩:=ht.cons_left;have:=ht2.nil_left;subst this h2;exact⟨a',b',a1c.1 (by rw[h1]),ha,hb⟩
theorem one_of{l:List Value}{a:Value}{args':Array Value}(h:LRel μ l args'.toList)(he:l=[a]): ∃a',args'= #[a']/\VRel μ a a':=by subst he;obtain⟨a',t,h1,ha,ht⟩:=h.cons_left;have:=ht.nil_left;subst this;exact⟨a',a1c.1 (by rw[h1]),ha⟩
theorem OpOK.of_value{s:Sem Next}{v v':Value}(h: ∀w,s.run P w= .ok (.value v') w)(hw:WRel μ H w)(hr:VRel μ v v'):OpOK P μ H w s (.val v) H:=
 ⟨.value v',w,μ,h w,Post.refl hw,hr⟩
theorem eY{ρ ρ':Operand->Value}{x:Option Operand}(h: ∀y,x=some y->VRel μ (ρ y) (ρ' y)):
  (∀v,x.map ρ=some v->∃v',x.map ρ'=some v'/\VRel μ v v')/\(x.map ρ=none->x.map ρ'=none):=by
 cases x with
 |none=>exact⟨fun v hv=>by simp at hv,fun _=>rfl⟩
 |some y=>exact⟨fun v hv=>by simp at hv;subst hv;exact⟨_,rfl,h y rfl⟩,fun hn=>by simp at hn⟩
set_option maxHeartbeats 4000000 in
theorem hL{ρ ρ':Operand->Value}{o:Oper}{r:AN}(hρ: ∀x∈o.op.operands,VRel μ (ρ x) (ρ' x))(hw:WRel μ H w)
  (hf: ∀b,H.next<=b->b<H'.next->μ b=none) (h:aop P ρ o H=some (r,H')):OpOK P μ H w (execOp ρ' o) r H':=by
 cases hk:aY o.op with
 |true=>
  obtain⟨rfl,v,v',rfl,hrun,hr⟩:=ju hk hρ h
  exact OpOK.of_value hrun hw hr
 |false=>
  obtain⟨dst,op,type,pos,after,guard⟩:=o
  cases op<;>simp only[aY,reduceCtorEq]at hk
  case alloc e=>
   have h':ee P e H=some (r,H'):=h
   have:=alloc_sound hw hf h'
   exact this
  case box e x=>
   have h':some (AN.val (ptrTo H.next),aS H (ρ x).cells.toList none)=some (r,H'):=h
   simp only[a00,a03]at h'
   obtain⟨rfl,rfl⟩:=h'
   have:=box_sound (P:=P) (e:=e) hw (hf H.next (a09 _) (by simp[aS])) (hρ x (by simp[Op.operands]))
   exact this
  case buildSlice t n parts=>
   have h':bK P t n (eQ (fun p=>(p.1,ρ p.2)) parts.toList) H=some (r,H'):=h
   rw[jL]at h'
   have:=iZ (ps':=parts.map fun(i,x)=>(i,ρ' x)) hw hf (by simp) (fun i x x' h1 h2=>?_) h'
   ·exact this
   simp only[Array.toList_map,a1g,a1Z]at h1 h2
   obtain⟨y,hy,rfl⟩:=h1
   obtain⟨z,hz,rfl⟩:=h2
   rw[hy]at hz;injection hz with hz;subst hz
   refine⟨rfl,hρ _ ?_⟩
   have:=a0k hy
   simp only[Op.operands,List.mem_toArray,a0r]
   exact⟨y,this,rfl⟩
  case load t a=>
   have h':dX P t (ρ a) H=some (r,H'):=h
   have:=load_sound hw (hρ a (by simp[Op.operands])) h'
   exact this
  case store t a x=>
   have h':gq P t (ρ a) (ρ x) H=some (r,H'):=h
   have:=store_sound hw (hρ a (by simp[Op.operands])) (hρ x (by simp[Op.operands])) h'
   exact this
  case convert s d x=>
   have h':ff P ρ ⟨dst,.convert s d x,type,pos,after,guard⟩ s d (ρ x) H=some (r,H'):=h
   exact lE (o:=⟨dst,.convert s d x,type,pos,after,guard⟩) hw rfl hρ h'
  case makeMap t rsv=>
   cases rsv with
   |some _=>simp[aop]at h
   |none=>
    have h':some (AN.val (.map (some H.next)),H.push (.tab []))=some (r,H'):=h
    simp only[a00,a03]at h'
    obtain⟨rfl,rfl⟩:=h'
    have:=lA (P:=P) t hw (hf H.next (a09 _) (by simp))
    exact this
  case makeSlice t l c=>
   have h':ovh (aMake P t (ρ l) (ρ c) H)=some (r,H'):=h
   have:=make_sound hw hf (hρ l (by simp[Op.operands])) (hρ c (by simp[Op.operands])) h'
   exact this
  case slice t x lo hi mx=>
   obtain⟨a1,a2⟩:=eY (μ:=μ) (ρ:=ρ) (ρ':=ρ') (x:=lo) fun y hy=>hρ y (by subst hy;simp[Op.operands])
   obtain⟨b1,b2⟩:=eY (μ:=μ) (ρ:=ρ) (ρ':=ρ') (x:=hi) fun y hy=>hρ y (by subst hy;simp[Op.operands])
   obtain⟨_,c2⟩:=eY (μ:=μ) (ρ:=ρ) (ρ':=ρ') (x:=mx) fun y hy=>hρ y (by subst hy;simp[Op.operands])
   have h':ovl (bx P t (ρ x) (lo.map ρ) (hi.map ρ) (mx.map ρ) H) H=some (r,H'):=h
   have:=slice_sound hw (hρ x (by simp[Op.operands])) a1 a2 b1 b2 c2 h'
   exact this
  case lookup t m k ok=>
   have h':ovl (gD P t (ρ m) (ρ k) ok H) H=some (r,H'):=h
   obtain⟨rfl,v,hv,rfl⟩:=cj h'
   obtain⟨v',hrun,hr⟩:=lookup_sound (P:=P) hw (hρ m (by simp[Op.operands])) (hρ k (by simp[Op.operands])) hv
   have:=OpOK.value hrun (Post.refl hw) hr
   exact this
  case mapUpdate t m k x=>
   have h':osk (eE P t (ρ m) (ρ k) (ρ x) H)=some (r,H'):=h
   obtain⟨hu,rfl⟩:=osk_inv h'
   obtain⟨w',hrun,hp⟩:=iD (P:=P) hw (hρ m (by simp[Op.operands])) (hρ k (by simp[Op.operands])) (hρ x (by simp[Op.operands])) hu
   have:=OpOK.skip hrun hp
   exact this
  case insert t m k x=>
   have h':osk (eE P t (ρ m) (ρ k) (ρ x) H)=some (r,H'):=h
   obtain⟨hu,rfl⟩:=osk_inv h'
   obtain⟨w',hrun,hp⟩:=iD (P:=P) hw (hρ m (by simp[Op.operands])) (hρ k (by simp[Op.operands])) (hρ x (by simp[Op.operands])) hu
   have:=OpOK.skip hrun hp
   exact this
  case range t x=>
   have h':ovh (aRange P t (ρ x) H)=some (r,H'):=h
   have:=range_sound hw hf (hρ x (by simp[Op.operands])) h'
   exact this
  case next it isS=>
   cases isS with
   |false=>simp[aop]at h
   |true=>
    have h':ovh (aNext H (ρ it))=some (r,H'):=h
    have:=next_sound (P:=P) (type:=type) hw (hρ it (by simp[Op.operands])) h'
    exact this
  case call c=>
   obtain⟨callee,args,argTypes⟩:=c
   have hargs:LRel μ (eQ ρ args.toList) (args.map ρ').toList:=by
    rw[jL];have:=jm (μ:=μ) (ops:=args) (ρ:=ρ) (ρ':=ρ') fun x hx=>hρ x (by simp[Op.operands,Call.operands];exact .inr hx)
    simpa using this
   have h:opCall P ρ ⟨dst,.call ⟨callee,args,argTypes⟩,type,pos,after,guard⟩ ⟨callee,args,argTypes⟩ H=some (r,H'):=h
   unfold opCall at h
   cases callee with
   |invoke rv nm=>simp at h
   |value f=>
    simp only at h
    unfold eZ at h
    split at h
    ·rename_i n hn;simp only[a00,a03]at h;obtain⟨rfl,rfl⟩:=h;obtain⟨i,fargs,rfl,cargs,hrun,hr⟩:=callee_sound (P:=P) (hρ f (by simp[Op.operands,Call.operands])) hargs hn;refine⟨.enter i cargs,w,μ,?_,Post.refl hw,rfl,hr⟩;have:=hrun w;simpa only[execOp,resolve] using this
    cases h
   |builtin b=>
    simp only at h
    unfold lX at h
    have hplain:bw P ρ ⟨dst,.call ⟨.builtin b,args,argTypes⟩,type,pos,after,guard⟩ H=some (r,H')->OpOK P μ H w (execOp ρ' ⟨dst,.call ⟨.builtin b,args,argTypes⟩,type,pos,after,guard⟩) r H':=by intro hp;obtain⟨rfl,v,v',rfl,hrun,hr⟩:=di hp (fun _ _=>by simp) hρ;exact OpOK.of_value hrun hw hr
    split at h
    ·--len
     unfold bLen at h;split at h
     ·rename_i t x ht hx;obtain⟨x',hx',hxr⟩:=one_of hargs hx;obtain⟨rfl,v,hv,rfl⟩:=cj h;obtain⟨hrun,hn⟩:=len_sound (P:=P) (ty:=type) hw hxr hv;have hat:argTypes= #[t]:=a1c.1 (by rw[ht]);refine⟨.value v,w,μ,?_,Post.refl hw,.atom v hn⟩;simp only[execOp,resolve,Sem.run_bind,Sem.run_pure,Result.andThen_ok,invoke,builtin,hx',hat,hrun]
     cases h
    ·unfold bAppend at h;split at h
     ·rename_i t1 t2 s x ht hx;obtain⟨s',x',hx',hsr,hxr⟩:=two_of hargs hx;obtain⟨v,hv,rfl⟩:=jF h;have hat:argTypes= #[t1,t2]:=a1c.1 (by rw[ht]);obtain⟨v',w',μ',hrun,hp,hr⟩:=append_sound (P:=P) (ty:=type) hw hf hsr hxr (by rw[hat];rfl) hv;refine⟨.value v',w',μ',?_,hp,hr⟩;simp only[execOp,resolve,Sem.run_bind,Sem.run_pure,Result.andThen_ok,invoke,builtin,hx',hrun]
     cases h
    ·unfold bCopy at h;split at h
     ·rename_i d s hx;obtain⟨d',s',hx',hdr,hsr⟩:=two_of hargs hx;obtain⟨v,hv,rfl⟩:=jF h;obtain⟨v',w',hrun,hp,hr⟩:=copy_sound (P:=P) (ty:=type) hw hdr hsr hv;refine⟨.value v',w',μ,?_,hp,hr⟩;simp only[execOp,resolve,Sem.run_bind,Sem.run_pure,Result.andThen_ok,invoke,builtin,hx',hrun]
     cases h
    ·exact hplain h
    ·exact hplain h
    cases h
  all_goals simp[aop]at h
end
end Go.R
namespace Go.R
@[simp] theorem lget_nil(i:Nat):cG .nil i=undef:=rfl
@[simp] theorem lget_lset_same(t:Tr Value)(d:Nat)(v:Value):cG (lset t d v) d=v:=by simp[cG,lset]
theorem lget_lset_ne(t:Tr Value){d k:Nat}(v:Value)(h:d≠k):cG (lset t d v) k=cG t k:=by simp[cG,lset,Tr.get_set_ne _ _ h]
theorem fA(t:Tr Value)(d k:Nat)(v:Value):cG (lset t d v) k=if d=k then v else cG t k:=by
 by_cases h:d=k
 ·subst h;simp
 rw[if_neg h,lget_lset_ne t v h]
def TRel(μ:Emb)(t:Tr Value)(n:Nat)(a:Array Value):Prop:=a.size=n/\∀i,VRel μ (cG t i) (a.getD i undef)
def GRel(μ:Emb)(G:Nat):Prop:= ∀g,g<G->∃l,μ g=some l/\l.c=g/\l.sh=0
section
variable {P:Program} {G:Nat} {μ μ':Emb}
theorem TRel.mono(h: ∀b l,μ b=some l->μ' b=some l){t:Tr Value}{n:Nat}{a:Array Value}(ht:TRel μ t n a):TRel μ' t n a:=⟨ht.1,fun i=>(ht.2 i).mono h⟩
theorem GRel.mono(h: ∀b l,μ b=some l->μ' b=some l)(hg:GRel μ G):GRel μ' G:=fun g hlt=>by obtain⟨l,h1,h2,h3⟩:=hg g hlt;exact⟨l,h _ _ h1,h2,h3⟩
theorem getD_set(a:Array Value)(d i:Nat)(v:Value):(a.setIfInBounds d v).getD i undef=if d=i/\d<a.size then v else a.getD i undef:=by
 simp only[a0U,a1b];by_cases h:d=i
 ·subst h;by_cases h2:d<a.size
  ·simp[h2]
  simp[h2]
 simp[h]
theorem TRel.put{t:Tr Value}{n:Nat}{a:Array Value}(h:TRel μ t n a){d:Nat}(hd:d<n){v v':Value}(hv:VRel μ v v'):TRel μ (lset t d v) n (a.setIfInBounds d v'):=by
 refine⟨by simp[h.1],fun i=>?_⟩;rw[fA,getD_set];by_cases hi:d=i
 ·rw[if_pos hi,if_pos ⟨hi,by rw[h.1];exact hd⟩];exact hv
 rw[if_neg hi,if_neg (fun e=>hi e.1)];exact h.2 i
theorem eval_of(hG:GRel μ G){tm:Tr Value}{a:Act}{x:Operand}(hx:bB G x=true)(h: ∀t,x= .tmp t->VRel μ (cG tm t) (a.tmps.getD t undef)):
  VRel μ (cS tm x) (a.eval x):=by
 cases x with
 |tmp t=>exact h t rfl
 |const v=>exact VRel.refl2 hx
 |global g=>
  obtain⟨l,h1,h2,h3⟩:=hG g (a06 hx)
  have:=VRel.ptr (μ:=μ) g 0 l h1
  rw[h2,h3]at this;exact this
 |func f=>exact .atom _ rfl
theorem yield_eq{ops:Array Oper}{tm:Tr Value}{a:Array Value}{j:Nat}(h: ∀d,(ops[j]?).bind (·.dst)=some d->VRel μ (cG tm d) (a.getD d undef)):
  ke ops tm j=yielded ops a j:=by
 unfold ke yielded
 cases hd:(ops[j]?).bind (·.dst) with
 |none=>rfl
 |some d=>
  have hv:=h d hd
  simp only[a0o]
  simp only[a0U]at hv
  cases ha:a[d]? with
  |none=>
   rw[ha]at hv
   simp only[Option.getD_none]at hv
   have: ∀b,cG tm d≠ .bool b:=by intro b e;rw[e]at hv;have:=hv.bool_inv;cases this
   cases hl:cG tm d<;>first|rfl|exact absurd hl (this _)
  |some x=>
   rw[ha]at hv
   simp only[a0B]at hv
   cases x with
   |bool b=>
    have:cG tm d= .bool b:=by generalize cG tm d=y at hv;cases hv;rfl
    rw[this]
   |_=>
    have: ∀b,cG tm d≠ .bool b:=by intro b e;rw[e]at hv;have:=hv.bool_inv;cases this
    cases hl:cG tm d<;>first|rfl|exact absurd hl (this _)
theorem wanted_eq{ops:Array Oper}{o:Oper}{tm:Tr Value}{a:Array Value}(h: ∀j w,o.guard=some (j,w)->∀d,(ops[j]?).bind (·.dst)=some d->VRel μ (cG tm d) (a.getD d undef)):
  bf ops o tm=Region.wanted o (yielded ops a):=by
 unfold bf Region.wanted
 cases hg:o.guard with
 |none=>rfl
 |some p=>
  obtain⟨j,w⟩:=p
  simp only
  rw[yield_eq (h j w hg)]
def dS(P:Program)(G:Nat)(cf:cn):Prop:= ∀f args H v H',cf f args H=some (v,H')->WF H->Ext H H'/\
 ∀μ w (cargs:Array Value),LRel μ args cargs.toList->GRel μ G->WRel μ H w->(∀b,H.next<=b->b<H'.next->μ b=none)->
  Calls P f cargs w fun e w'=> ∃μ' v',e= .returned v'/\VRel μ' v v'/\Post μ H w μ' H' w'
noncomputable def dY (P : Program) (cf : cn) (ρ : Operand -> Value) (o : Oper) (H : Heap) : Option (Value × Heap) :=
 match aop P ρ o H with
 |some (.val v,h)=>some (v,h)
 |some (.skip,h)=>some (undef,h)
 |some (.enter f args,h)=>cf f args h
 |none=>none
theorem step_eq(cf:cn)(ops:Array Oper)(o:Oper)(s:St):step P G cf ops o s=
  bif bf ops o s.tmps then
   bif o.op.operands.toList.all (bB G) then
    match dY P cf (cS s.tmps) o s.heap with
    |some (v,h)=>{s with heap:=h}.put o.dst v
    |none=>none
   else none
  else s.put o.dst undef:=by
 unfold step dY
 cases bf ops o s.tmps with
 |false=>rfl
 |true=>
  cases o.op.operands.toList.all (bB G) with
  |false=>rfl
  |true=>
   simp only[cond_true]
   cases aop P (cS s.tmps) o s.heap with
   |none=>rfl
   |some p=>
    obtain⟨r,h⟩:=p
    cases r with
    |val v=>rfl
    |skip=>rfl
    |enter f args=>
     simp only
     cases cf f args h with
     |none=>rfl
     |some q=>rfl
theorem gn{s s':St}{dst:Option Tmp}{v:Value}(h:s.put dst v=some s'):
  s'.size=s.size/\s'.heap=s.heap/\((dst=none/\s'.tmps=s.tmps)\/∃d,dst=some d/\d<s.size/\s'.tmps=lset s.tmps d v):=by
 unfold St.put at h
 split at h
 ·rename_i d;cases hq:Nat.ble (d+1) s.size with
  |false=>rw[hq]at h;cases h
  |true=>
   rw[hq]at h;simp only[cond_true,a00]at h;subst h
   exact⟨rfl,rfl,.inr ⟨d,rfl,a06 hq,rfl⟩⟩
 injection h with h;subst h;exact⟨rfl,rfl,.inl ⟨rfl,rfl⟩⟩
theorem kN{cf:cn}(hcf:dS P G cf){ρ:Operand->Value}{o:Oper}{H H':Heap}{v:Value}(hw:WF H)(h:dY P cf ρ o H=some (v,H')):Ext H H':=by
 unfold dY at h;split at h
 ·rename_i u h1 ha;simp only[a00,a03]at h;rw[←h.2];exact lR hw ha
 ·rename_i h1 ha;simp only[a00,a03]at h;rw[←h.2];exact lR hw ha
 ·rename_i f args h1 ha;have e1:=lR hw ha;exact e1.trans (hcf f args h1 v H' h (hw.ext e1)).1
 cases h
theorem iM{cf:cn}(hcf:dS P G cf){ρ:Operand->Value}{o:Oper}{a:Act}{H H':Heap}{v:Value}{w:World}(hwf:WF H)(hρ: ∀x∈o.op.operands,VRel μ (ρ x) (a.eval x))
  (hG:GRel μ G) (hw:WRel μ H w) (hf: ∀b,H.next<=b->b<H'.next->μ b=none) (h:dY P cf ρ o H=some (v,H')) {K:Act->World->Prop} {Q:Exit->Act->World->Prop}
  (hK: ∀μ' w' v',Post μ H w μ' H' w'->VRel μ' v v'->K (a.put o.dst v') w'):o.wp P a w K Q:=by
 unfold dY at h
 unfold Oper.wp
 split at h
 ·rename_i u h1 ha;simp only[a00,a03]at h;obtain⟨rfl,rfl⟩:=h;obtain⟨n,w1,μ1,hrun,hp,hr⟩:=hL hρ hw hf ha;rw[hrun];cases n<;>first|exact hK μ1 w1 _ hp hr|exact hr.elim
 ·rename_i h1 ha;simp only[a00,a03]at h;obtain⟨rfl,rfl⟩:=h;obtain⟨n,w1,μ1,hrun,hp,hr⟩:=hL hρ hw hf ha;rw[hrun];cases n<;>first|exact hK μ1 w1 _ hp VRel.undef|exact hr.elim
 ·rename_i f args h1 ha;have e1:=lR hwf ha;obtain⟨e2,hcall⟩:=hcf f args h1 v H' h (hwf.ext e1);obtain⟨n,w1,μ1,hrun,hp,hr⟩:=hL hρ hw (fun b hb1 hb2=>hf b hb1 (a0V hb2 e2.next)) ha;rw[hrun];cases n with
  |enter f' cargs=>
   obtain⟨rfl,hargs⟩:=hr
   rw[Oper.upon_enter]
   refine(hcall μ1 w1 cargs hargs (hG.mono hp.ext) hp.wrel (fun b hb1 hb2=>?_)).mono ?_
   ·cases hb:μ1 b with
    |none=>rfl
    |some l=>
     rcases hp.dom b l hb with hb0|⟨_,hb3⟩
     ·rw[hf b (a0c e1.next hb1) hb2]at hb0;cases hb0
     omega
   rintro e w2 ⟨μ2,v',rfl,hv,hp2⟩
   exact hK μ2 w2 v' (hp.trans hp2 e1.next e2.next) hv
  |_=>exact hr.elim
 cases h
theorem i8{cf:cn}(hcf:dS P G cf){ops:Array Oper}{o:Oper}{s s':St}(hw:WF s.heap)(h:step P G cf ops o s=some s'):Ext s.heap s'.heap:=by
 rw[step_eq]at h;cases hq:bf ops o s.tmps with
 |false=>rw[hq]at h;rw[(gn h).2.1];exact Ext.refl _
 |true=>
  rw[hq]at h
  cases hq2:o.op.operands.toList.all (bB G) with
  |false=>rw[hq2]at h;cases h
  |true=>
   rw[hq2]at h
   simp only[cond_true]at h
   split at h
   ·rename_i v h1 he;rw[(gn h).2.1];exact kN hcf hw he
   cases h
theorem eD(a:Act)(dst:Option Tmp)(v:Value):(a.put dst v).defers=a.defers:=by cases dst<;>rfl
theorem put_rel{s s':St}{dst:Option Tmp}{v v':Value}{a:Act}(h:s.put dst v=some s')(ht:TRel μ s.tmps s.size a.tmps)(hv:VRel μ v v'):
  TRel μ s'.tmps s'.size (a.put dst v').tmps:=by
 obtain⟨h1,_,⟨rfl,h3⟩|⟨d,rfl,hd,h3⟩⟩:=gn h
 ·rw[h1,h3];exact ht
 rw[h1,h3];exact ht.put hd hv
theorem step_sound{cf:cn}(hcf:dS P G cf){ops:Array Oper}{i:Nat}{o:Oper}(ho:ops[i]?=some o){s s':St}{a:Act}{w:World}(hwf:WF s.heap)(ht:TRel μ s.tmps s.size a.tmps)
  (hG:GRel μ G) (hw:WRel μ s.heap w) (hf: ∀b,s.heap.next<=b->b<s'.heap.next->μ b=none) (h:step P G cf ops o s=some s') {K:Act->World->Prop} {Q:Exit->Act->World->Prop}
  (hK: ∀μ' w' a',Post μ s.heap w μ' s'.heap w'->TRel μ' s'.tmps s'.size a'.tmps->a'.defers=a.defers->K a' w'):wpOp P ops Q i K a w:=by
 unfold wpOp
 rw[ho]
 simp only
 have hwant:bf ops o s.tmps=Region.wanted o (yielded ops a.tmps):=wanted_eq (μ:=μ) fun _ _ _ d _=>ht.2 d
 rw[step_eq,hwant]at h
 cases hq:Region.wanted o (yielded ops a.tmps) with
 |false=>
  rw[hq]at h
  simp only[cond_false]at h
  simp only[a0K,if_false]
  have hh:=(gn h).2.1
  exact hK μ w _ (by rw[hh];exact Post.refl hw) (put_rel h ht VRel.undef) (eD _ _ _)
 |true=>
  rw[hq]at h
  simp only[if_true]
  left
  cases hq2:o.op.operands.toList.all (bB G) with
  |false=>rw[hq2]at h;cases h
  |true=>
   rw[hq2]at h
   simp only[cond_true]at h
   split at h
   ·rename_i v h1 he;have hh:=(gn h).2.1;simp only at hh;refine iM hcf hwf (fun x hx=>eval_of hG (a0w.1 hq2 x (by simpa using hx)) fun t _=>ht.2 t) hG hw (by rw[←hh];exact hf) he ?_;intro μ' w' v' hp hv;have ht':TRel μ' s.tmps s.size a.tmps:=ht.mono hp.ext;exact hK μ' w' _ (by rw[hh];exact hp) (put_rel (s:={s with heap:=h1}) h ht' hv) (eD _ _ _)
   cases h
theorem ii{cf:cn}(hcf:dS P G cf){ops:Array Oper}: ∀(l:List Oper) (s s':St),WF s.heap->fl P G cf ops l s=some s'->Ext s.heap s'.heap
 | [],s,s',_,h=>by rw[ig]at h;injection h with h;subst h;exact Ext.refl _
 |o::os,s,s',hw,h=>by
  rw[bZ]at h;split at h
  ·rename_i s1 h1;have e1:=i8 hcf hw h1;exact e1.trans (ii hcf os s1 s' (hw.ext e1) h)
  cases h
theorem iF{cf:cn}(hcf:dS P G cf){ops:Array Oper}{Q:Exit->Act->World->Prop}: ∀(l:List Oper) (k:Nat) (s s':St),ops.toList.drop k=l->fl P G cf ops l s=some s'->
  ∀(μ:Emb) (a:Act) (w:World),WF s.heap->TRel μ s.tmps s.size a.tmps->GRel μ G->WRel μ s.heap w->(∀b,s.heap.next<=b->b<s'.heap.next->μ b=none)->
  (∀μ' w' a',Post μ s.heap w μ' s'.heap w'->TRel μ' s'.tmps s'.size a'.tmps->a'.defers=a.defers->Q .normal a' w')->wpOps P ops Q (List.range' k l.length) a w
 | [],k,s,s',_,h,μ,a,w,hwf,ht,hG,hw,hf,hQ=>by rw[ig]at h;injection h with h;subst h;simp only[a0i,List.range'_zero,wpOps];exact hQ μ w a (Post.refl hw) ht rfl
 |o::os,k,s,s',hd,h,μ,a,w,hwf,ht,hG,hw,hf,hQ=>by
  rw[bZ]at h;split at h
  ·rename_i s1 h1;have e1:=i8 hcf hwf h1;have e2:=ii hcf os s1 s' (hwf.ext e1) h;have hk:k<ops.toList.length:=by
    rcases a0j k ops.toList.length with hl|hl
    ·exact hl
    rw[a1Y hl]at hd;cases hd
   have hdd:=a0T hk;rw[hd]at hdd;injection hdd with h2 h3;have ho:ops[k]?=some o:=by
    have:ops.toList[k]?=some o:=by rw[a04 hk,←h2]
    simpa using this
   simp only[a0a,List.range'_succ];rw[wpOps_cons];refine step_sound hcf ho hwf ht hG hw (fun b hb1 hb2=>hf b hb1 (a0V hb2 e2.next)) h1 ?_;intro μ1 w1 a1 hp ht1 hd1;refine iF hcf os (k+1) s1 s' h3.symm h μ1 a1 w1 (hwf.ext e1) ht1 (hG.mono hp.ext) hp.wrel (fun b hb1 hb2=>?_) ?_
   ·cases hb:μ1 b with
    |none=>rfl
    |some l=>
     rcases hp.dom b l hb with hb0|⟨_,hb3⟩
     ·rw[hf b (a0c e1.next hb1) hb2]at hb0;cases hb0
     omega
   intro μ2 w2 a2 hp2 ht2 hd2;exact hQ μ2 w2 a2 (hp.trans hp2 e1.next e2.next) ht2 (hd2.trans hd1)
  cases h
end
end Go.R
set_option linter.unusedVariables false
set_option linter.unusedSimpArgs false
namespace Go.R
def j9(l:List Nat)(o:Oper):Nat:=o.after.toList.foldl (fun s e=>bif Region.binds .any e then s|||2^e.on|||l.getD e.on 0 else s) 0
theorem gC: ∀(os:List Oper) (acc:List Nat),∃t,ancs os acc=acc++t/\t.length=os.length
 | [],acc=>⟨[],by simp[ancs],rfl⟩
 |o::os,acc=>by obtain⟨t,h,hl⟩:=gC os (acc++[j9 acc o]);refine⟨j9 acc o::t,?_,by simp[hl]⟩;show ancs os (acc++[j9 acc o])=_;rw[h];simp
theorem ancs_at: ∀(os:List Oper) (acc:List Nat) (k:Nat) (o:Oper),os[k]?=some o->
  (ancs os acc).getD (acc.length+k) 0=j9 ((ancs os acc).take (acc.length+k)) o
 | [],acc,k,o,h=>by simp at h
 |x::os,acc,0,o,h=>by
  simp at h;subst h;obtain⟨t,h,_⟩:=gC os (acc++[j9 acc x]);have e:ancs (x::os) acc=acc++([j9 acc x]++t):=by show ancs os (acc++[j9 acc x])=_;rw[h];simp
  rw[e];simp
 |x::os,acc,k+1,o,h=>by have ih:=ancs_at os (acc++[j9 acc x]) k o (by simpa using h);have e:ancs (x::os) acc=ancs os (acc++[j9 acc x]):=rfl;rw[e];simp only[a05,a1k]at ih;rw[show acc.length+(k+1)=acc.length+1+k by omega];exact ih
theorem fold_bit(l:List Nat)(j:Nat): ∀(es:List Edge) (s:Nat),(es.foldl (fun s e=>bif Region.binds .any e then s|||2^e.on|||l.getD e.on 0 else s) s).testBit j=true->
  s.testBit j=true\/∃e∈es,Region.binds .any e=true/\(e.on=j\/(l.getD e.on 0).testBit j=true)
 | [],s,h=> .inl h
 |e::es,s,h=>by
  simp only[List.foldl_cons]at h;rcases fold_bit l j es _ h with h1|⟨e',he,h2⟩
  ·cases hb:Region.binds .any e with
   |false=>rw[hb]at h1;exact .inl h1
   |true=>
    rw[hb]at h1
    simp only[cond_true,Nat.testBit_or,a0F]at h1
    rcases h1 with(h1|h1)|h1
    ·exact .inl h1
    ·rw[Nat.testBit_two_pow]at h1;exact .inr ⟨e,by simp,hb,.inl (by simpa using h1)⟩
    exact .inr ⟨e,by simp,hb,.inr h1⟩
  exact .inr ⟨e',by simp[he],h2⟩
theorem ordered_edge{ops:Array Oper}{j k:Nat}(h:bo (cm ops) j k=true):
  ∃o,ops[k]?=some o/\∃e∈o.after.toList,Region.binds .any e=true/\(e.on=j\/(e.on<k/\bo (cm ops) j e.on=true)):=by
 unfold bo at h
 have hk:k<ops.toList.length:=by
  obtain⟨t,ht,hl⟩:=gC ops.toList [];rcases a0j k ops.toList.length with hlt|hge
  ·exact hlt
  have:(cm ops).getD k 0=0:=by unfold cm;rw[ht,a11,a01,a0Q (by omega)];rfl
  rw[this]at h;simp at h
 have ho:ops.toList[k]?=some ops.toList[k]:=a04 hk
 have ha:=ancs_at ops.toList [] k _ ho
 simp only[a0i,a1t]at ha
 change (cm ops).getD k 0=j9 ((cm ops).take k) _ at ha
 rw[ha]at h
 rcases fold_bit _ j _ 0 h with h1|⟨e,he,hb,h2⟩
 ·simp at h1
 refine⟨ops.toList[k],by rw[←Array.getElem?_toList];exact ho,e,he,hb,?_⟩
 rcases h2 with h2|h2
 ·exact .inl h2
 right
 rcases a0j e.on k with hlt|hge
 ·refine⟨hlt,?_⟩;unfold bo;rw[a01,a0y,if_pos hlt,←a01]at h2;exact h2
 rw[a01,a0y,if_neg (by omega)]at h2
 simp at h2
def DC(ops:Array Oper)(S:Nat->Bool):Prop:= ∀(k:Nat) o,ops[k]?=some o->S k=true->∀e∈o.after.toList,Region.binds .any e=true->S e.on=true
theorem DC.anc{ops:Array Oper}{S:Nat->Bool}(h:DC ops S){j:Nat}: ∀(k:Nat),S k=true->bo (cm ops) j k=true->S j=true:=by
 intro k;induction k using Nat.strongRecOn with
 |_ k ih=>
  intro hk ho
  obtain⟨o,ho1,e,he,hb,h1⟩:=ordered_edge ho
  have hs:=h k o ho1 hk e he hb
  rcases h1 with rfl|⟨hlt,h2⟩
  ·exact hs
  exact ih e.on hlt hs h2
structure RegFacts(ops:Array Oper):Prop where
 back: ∀(j:Nat) o,ops[j]?=some o->∀e∈o.after.toList,Region.binds .any e=true->e.on<j
 pair: ∀(i j:Nat) x o,i<j->ops[i]?=some x->ops[j]?=some o->bo (cm ops) i j=true\/x.apart ops o=true
theorem regOK_facts{ops:Array Oper}(h:aQ ops=true):RegFacts ops:=by
 unfold aQ at h;simp only[a0w,a20]at h;refine⟨fun j o ho e he hb=>?_,fun i j x o hij hx ho=>?_⟩
 ·have hj:j<ops.size:=(a0D.1 ho).1;have:=h j hj;rw[ho]at this;simp only[a0d,a0w]at this;have h1:=this.1.1 e he;rw[hb]at h1;simp only[a1y,Bool.false_or]at h1;exact a06 h1
 have hj:j<ops.size:=(a0D.1 ho).1;have:=h j hj;rw[ho]at this;simp only[a0d,a0w,a20]at this;have h1:=this.2 i hij;rw[hx]at h1;simpa using h1
section
variable (st:Nat->St) (vl:Nat->Value) (ops:Array Oper)
def chg(k b:Nat):Prop:=(st (k+1)).heap.get b≠(st k).heap.get b
open Classical in
noncomputable def jj (S : Nat -> Bool) : Nat -> Nat -> Option AObj
 |0,b=>(st 0).heap.get b
 |k+1,b=>if S k=true/\chg st k b then(st (k+1)).heap.get b else jj S k b
def iY(k:Nat):Option Tmp:=(ops[k]?).bind (·.dst)
open Classical in
noncomputable def tv (S : Nat -> Bool) : Nat -> Nat -> Value
 |0,t=>cG (st 0).tmps t
 |k+1,t=>if S k=true/\iY ops k=some t then vl k else tv S k t
theorem jW{S:Nat->Bool}{b i:Nat}: ∀m,(∀k,k<m->chg st k b->(S k=true↔k<i))->jj st S m b=(st (min m i)).heap.get b
 |0,_=>by simp[jj]
 |m+1,h=>by
  have ih:=jW m fun k hk=>h k (by omega)
  unfold jj;by_cases hm:m<i
  ·rw[show min (m+1) i=m+1 by omega];rw[show min m i=m by omega]at ih;by_cases hc:chg st m b
   ·rw[if_pos ⟨(h m (by omega) hc).2 hm,hc⟩]
   rw[if_neg (fun e=>hc e.2),ih];unfold chg at hc;exact(Classical.not_not.1 hc).symm
  rw[show min (m+1) i=i by omega];rw[show min m i=i by omega]at ih;rw[if_neg (fun e=>hm ((h m (by omega) e.2).1 e.1)),ih]
theorem kQ{S S':Nat->Bool}{b:Nat}: ∀m,(∀k,k<m->chg st k b->S k=S' k)->jj st S m b=jj st S' m b
 |0,_=>rfl
 |m+1,h=>by
  have ih:=kQ m fun k hk=>h k (by omega)
  unfold jj;by_cases hc:chg st m b
  ·rw[h m (by omega) hc,ih]
  rw[if_neg (fun e=>hc e.2),if_neg (fun e=>hc e.2),ih]
theorem tv_eq{S:Nat->Bool}{t i:Nat}(ht: ∀k,cG (st (k+1)).tmps t=if iY ops k=some t then vl k else cG (st k).tmps t):
  ∀m,(∀k,k<m->iY ops k=some t->(S k=true↔k<i))->tv st vl ops S m t=cG (st (min m i)).tmps t
 |0,_=>by simp[tv]
 |m+1,h=>by
  have ih:=tv_eq ht m fun k hk=>h k (by omega)
  unfold tv;by_cases hm:m<i
  ·rw[show min (m+1) i=m+1 by omega];rw[show min m i=m by omega]at ih;by_cases hc:iY ops m=some t
   ·rw[if_pos ⟨(h m (by omega) hc).2 hm,hc⟩,ht,if_pos hc]
   rw[if_neg (fun e=>hc e.2),ih,ht,if_neg hc]
  rw[show min (m+1) i=i by omega];rw[show min m i=i by omega]at ih;rw[if_neg (fun e=>hm ((h m (by omega) e.2).1 e.1)),ih]
theorem tv_congr{S S':Nat->Bool}{t:Nat}: ∀m,(∀k,k<m->iY ops k=some t->S k=S' k)->tv st vl ops S m t=tv st vl ops S' m t
 |0,_=>rfl
 |m+1,h=>by
  have ih:=tv_congr m fun k hk=>h k (by omega)
  unfold tv;by_cases hc:iY ops m=some t
  ·rw[h m (by omega) hc,ih]
  rw[if_neg (fun e=>hc e.2),if_neg (fun e=>hc e.2),ih]
end
structure Inv(ops:Array Oper)(st:Nat->St)(vl:Nat->Value)(μ0:Emb)(w0:World)(d0:List Deferred)(S:Nat->Bool)(μ:Emb)(a:Act)(w:World):Prop where
 dc:DC ops S
 dom: ∀b l,μ b=some l->b<(st 0).heap.next\/(∃k,k<ops.size/\S k=true/\(st k).heap.next<=b/\b<(st (k+1)).heap.next)\/(st ops.size).heap.next<=b
 obj: ∀b l o,μ b=some l->jj st S ops.size b=some o->ObjRel μ w l o
 inj: ∀b1 b2 l1 l2 o1 o2,b1≠b2->μ b1=some l1->μ b2=some l2->jj st S ops.size b1=some o1->jj st S ops.size b2=some o2->o1.rw=true->o2.live=true->l1.c≠l2.c
 size:a.tmps.size=(st 0).size
 tm: ∀t,VRel μ (tv st vl ops S ops.size t) (a.tmps.getD t undef)
 defers:a.defers=d0
 ext0: ∀b l,μ0 b=some l->μ b=some l
 dom0: ∀b l,μ b=some l->μ0 b=some l\/((st 0).heap.next<=b/\b<(st ops.size).heap.next)
 grow0:w0.heap.size<=w.heap.size
 os0:w.os=w0.os
 tape0:w.tape=w0.tape
 out0:w.output=w0.output
 keep0: ∀c,c<w0.heap.size->(∀b l o,μ0 b=some l->(st 0).heap.get b=some o->o.rw=true->l.c≠c)->w.heap[c]?=w0.heap[c]?
 img0: ∀b l o,μ b=some l->jj st S ops.size b=some o->o.live=true->
  w0.heap.size<=l.c\/∃b0 l0 o0,μ0 b0=some l0/\(st 0).heap.get b0=some o0/\o0.live=true/\(o.rw=true->o0.rw=true)/\l0.c=l.c
def iT(S:Nat->Bool)(i:Nat):Nat->Bool:=fun k=>Nat.beq k i||S k
theorem fG(S:Nat->Bool)(i:Nat):iT S i i=true:=by simp[iT]
theorem fH(S:Nat->Bool){i k:Nat}(h:k≠i):iT S i k=S k:=by
 have:Nat.beq k i=false:=by
  cases hb:Nat.beq k i with
  |false=>rfl
  |true=>exact absurd (a07 hb) h
 simp[iT,this]
theorem Inv.next{ops:Array Oper}{st:Nat->St}{vl:Nat->Value}{μ0 μ μ':Emb}{w0 w w':World}{d0:List Deferred}{S:Nat->Bool}{a:Act}{i:Nat}{H Hn:Heap}{o:Oper}{v':Value}
  (I:Inv ops st vl μ0 w0 d0 S μ a w) (hi:i<ops.size) (ho:ops[i]?=some o) (hp:Post μ H w μ' Hn w') (hv:VRel μ' (vl i) v') (hmono: ∀k,(st k).heap.next<=(st (k+1)).heap.next)
  (hn1:(st i).heap.next<=H.next) (hn2:Hn.next<=(st (i+1)).heap.next)
  (c1: ∀b l x,μ b=some l->H.get b=some x->jj st S ops.size b=some x)
  (c2: ∀b l x,μ' b=some l->Hn.get b=some x->jj st (iT S i) ops.size b=some x)
  (c3: ∀b l x,μ' b=some l->Hn.get b=none->jj st (iT S i) ops.size b=some x->μ b=some l/\H.get b=none/\jj st S ops.size b=some x)
  (hdc:DC ops (iT S i)) (hdl: ∀d,o.dst=some d->d<(st 0).size)
  (ht1: ∀t,o.dst=some t->tv st vl ops (iT S i) ops.size t=vl i) (ht2: ∀t,o.dst≠some t->tv st vl ops (iT S i) ops.size t=tv st vl ops S ops.size t):
  Inv ops st vl μ0 w0 d0 (iT S i) μ' (a.put o.dst v') w':=by
 have mono0: ∀k,(st 0).heap.next<=(st k).heap.next:=by
  intro k;induction k with
  |zero=>exact a09 _
  |succ k ih=>exact a0c ih (hmono k)
 have monoL: ∀j k,j<=k->(st j).heap.next<=(st k).heap.next:=by
  intro j k h;induction h with
  |refl=>exact a09 _
  |step _ ih=>exact a0c ih (hmono _)
 have hlast:=monoL (i+1) ops.size hi
 have far: ∀b l x,μ b=some l->H.get b=none->jj st S ops.size b=some x->x.live=true->w'.heap[l.c]?=w.heap[l.c]?:=by
  intro b l x hb hh hc hlv;refine hp.keep l.c ((I.obj b l x hb hc).lt hlv) fun b2 l2 o2 hb2 ho2 hr2=>?_
  exact I.inj b2 b l2 l o2 x (fun e=>by subst e;rw[hh]at ho2;cases ho2) hb2 hb (c1 b2 l2 o2 hb2 ho2) hc hr2 hlv
 refine⟨hdc,fun b l hb=>?_,fun b l x hb hc=>?_,fun b1 b2 l1 l2 o1 o2 hne hb1 hb2 hc1 hc2 hr1 hr2=>?_,?_,fun t=>?_,?_,fun b l hb=>hp.ext b l (I.ext0 b l hb),fun b l hb=>?_,a0c I.grow0 hp.grow,
  hp.os.trans I.os0,hp.tape.trans I.tape0,hp.out.trans I.out0,fun c hc hnot=>?_,fun b l x hb hc hlv=>?_⟩
 ·rcases hp.dom b l hb with h1|⟨h1,h2⟩
  ·rcases I.dom b l h1 with h2|⟨k,hk,hs,h3,h4⟩|h2
   ·exact .inl h2
   ·refine .inr (.inl ⟨k,hk,?_,h3,h4⟩);unfold iT;rw[hs];simp
   exact .inr (.inr h2)
  exact .inr (.inl ⟨i,hi,fG S i,by omega,by omega⟩)
 ·cases hg:Hn.get b with
  |some y=>
   have:=c2 b l y hb hg
   rw[this]at hc;injection hc with hc;subst hc
   exact hp.wrel.obj b l y hb hg
  |none=>
   obtain⟨h1,h2,h3⟩:=c3 b l x hb hg hc
   exact(I.obj b l x h1 h3).keep hp.ext hp.grow (fun hlv=>far b l x h1 h2 h3 hlv)
 ·--no two blocks at one place
  cases hg1:Hn.get b1 with
  |some y1=>
   have e1:=c2 b1 l1 y1 hb1 hg1
   rw[e1]at hc1;injection hc1 with hc1;subst hc1
   cases hg2:Hn.get b2 with
   |some y2=>
    have e2:=c2 b2 l2 y2 hb2 hg2
    rw[e2]at hc2;injection hc2 with hc2;subst hc2
    exact hp.wrel.inj b1 b2 l1 l2 y1 y2 hne hb1 hb2 hg1 hg2 hr1 hr2
   |none=>
    obtain⟨h1,h2,h3⟩:=c3 b2 l2 o2 hb2 hg2 hc2
    have hlt:=(I.obj b2 l2 o2 h1 h3).lt hr2
    rcases hp.img b1 l1 y1 hb1 hg1 (gh hr1) with hh|⟨b0,l0,o0,g1,g2,g3,g4,g5⟩
    ·omega
    rw[←g5]
    exact I.inj b0 b2 l0 l2 o0 o2 (fun e=>by subst e;rw[h2]at g2;cases g2) g1 h1 (c1 b0 l0 o0 g1 g2) h3 (g4 hr1) hr2
  |none=>
   obtain⟨h1,h2,h3⟩:=c3 b1 l1 o1 hb1 hg1 hc1
   cases hg2:Hn.get b2 with
   |some y2=>
    have e2:=c2 b2 l2 y2 hb2 hg2
    rw[e2]at hc2;injection hc2 with hc2;subst hc2
    have hlt:=(I.obj b1 l1 o1 h1 h3).lt (gh hr1)
    rcases hp.img b2 l2 y2 hb2 hg2 hr2 with hh|⟨b0,l0,o0,g1,g2,g3,g4,g5⟩
    ·omega
    rw[←g5]
    exact I.inj b1 b0 l1 l0 o1 o0 (fun e=>by subst e;rw[h2]at g2;cases g2) h1 g1 h3 (c1 b0 l0 o0 g1 g2) hr1 g3
   |none=>
    obtain⟨k1,k2,k3⟩:=c3 b2 l2 o2 hb2 hg2 hc2
    exact I.inj b1 b2 l1 l2 o1 o2 hne h1 k1 h3 k3 hr1 hr2
 ·cases hd:o.dst with
  |none=>exact I.size
  |some d=>simp only[Act.put,Array.size_setIfInBounds];exact I.size
 ·have hold:=(I.tm t).mono hp.ext;cases hd:o.dst with
  |none=>rw[ht2 t (by rw[hd];simp)];exact hold
  |some d=>
   simp only[Act.put,getD_set]
   by_cases hdt:d=t
   ·subst hdt;rw[ht1 d hd,if_pos ⟨rfl,by rw[I.size];exact hdl d hd⟩];exact hv
   rw[ht2 t (by rw[hd];simpa using hdt),if_neg (fun e=>hdt e.1)];exact hold
 ·rw[eD];exact I.defers
 ·rcases hp.dom b l hb with h1|⟨h1,h2⟩
  ·exact I.dom0 b l h1
  exact .inr ⟨by have:=mono0 i;omega,by omega⟩
 ·rw[hp.keep c (a0V hc I.grow0) ?_,I.keep0 c hc hnot];intro b l x hb hx hr he;rcases I.img0 b l x hb (c1 b l x hb hx) (gh hr) with hh|⟨b0,l0,o0,g1,g2,g3,g4,g5⟩
  ·omega
  exact hnot b0 l0 o0 g1 g2 (g4 hr) (g5.trans he)
 cases hg:Hn.get b with
 |some y=>
  have:=c2 b l y hb hg
  rw[this]at hc;injection hc with hc;subst hc
  rcases hp.img b l y hb hg hlv with hh|⟨b0,l0,o0,g1,g2,g3,g4,g5⟩
  ·exact .inl (a0c I.grow0 hh)
  rcases I.img0 b0 l0 o0 g1 (c1 b0 l0 o0 g1 g2) g3 with hh|⟨b3,l3,o3,e1,e2,e3,e4,e5⟩
  ·exact .inl (g5▸hh)
  exact .inr ⟨b3,l3,o3,e1,e2,e3,fun hx=>e4 (g4 hx),e5.trans g5⟩
 |none=>
  obtain⟨h1,h2,h3⟩:=c3 b l x hb hg hc
  exact I.img0 b l x h1 h3 hlv
end Go.R
namespace Go.R
section
variable {P:Program} {G:Nat}
def lY(ρ:Operand->Value)(o:Oper)(b:Nat):Prop:=
 (∃t a off,o.op= .load t a/\ρ a= .pointer (some ⟨b,off,none⟩))\/
 (∃t x lo hi mx off n k,o.op= .slice t x lo hi mx/\ρ x= .slice (some ⟨b,off,none⟩) n k)
def NilCut(ρ:Operand->Value)(o:Oper):Prop:=(∃t x lo hi mx n k,o.op= .slice t x lo hi mx/\ρ x= .slice none n k)\/
 (∃xs ts x,o.op= .call ⟨.builtin .len,xs,ts⟩/\eQ ρ xs.toList=[x]/\((∃a n k,x= .slice a n k)\/∃s,x= .string s))
structure OpFact(P:Program)(G:Nat)(cf:cn)(ops:Array Oper)(o:Oper)(s s':St)(v:Value)(f:Inf):Prop where
 size:s'.size=s.size
 tm: ∀t,cG s'.tmps t=if o.dst=some t then v else cG s.tmps t
 dlt: ∀d,o.dst=some d->d<s.size
 next:s.heap.next<=s'.heap.next
 far: ∀b,s'.heap.next<=b->s'.heap.get b=s.heap.get b
 how:(bf ops o s.tmps=false/\v=undef/\f= .v/\s'.heap.next=s.heap.next/\∀b,s'.heap.get b=s.heap.get b)\/
  (bf ops o s.tmps=true/\o.op.operands.toList.all (bB G)=true/\∃H1 H2,(∀b,H1.get b=s.heap.get b)/\H1.next=s.heap.next/\
   dY P cf (cS s.tmps) o H1=some (v,H2)/\(∀b,s'.heap.get b=H2.get b)/\s'.heap.next=H2.next/\
   ((f= .v/\(aY o.op=true\/NilCut (cS s.tmps) o))\/(f= .a s.heap.next/\dU o.op=true)\/
    (∃b,f= .l b/\lY (cS s.tmps) o b)\/
    (∃w,f= .x w/\(∀b,b∈w->b<s.heap.next)/\∀b,b<s.heap.next->b∉w->s'.heap.get b=s.heap.get b)))
theorem fy{n b:Nat}: ∀{l:List Nat},b∈cY n l↔b∈l/\b<n
 | []=>by simp[cY]
 |c::l=>by
  unfold cY;cases hq:Nat.ble n c with
  |true=>
   have:=a06 hq
   simp only[cond_true,a0n]
   rw[fy (l:=l)]
   constructor
   ·rintro⟨h1,h2⟩;exact⟨.inr h1,h2⟩
   rintro⟨rfl|h1,h2⟩
   ·omega
   exact⟨h1,h2⟩
  |false=>
   have hlt: ¬n<=c:=fun hh=>by rw[a0v hh]at hq;cases hq
   simp only[cond_false,a0n]
   rw[fy (l:=l)]
   constructor
   ·rintro(rfl|⟨h1,h2⟩)
    ·exact⟨.inl rfl,by omega⟩
    exact⟨.inr h1,h2⟩
   rintro⟨rfl|h1,h2⟩
   ·exact .inl rfl
   exact .inr ⟨h1,h2⟩
theorem loadV_spot{P:Program}{H:Heap}{t:TypeId}{p:Addr}{v:Value}(h:H.loadV P t p=some v):p.spot=none:=by
 obtain⟨b,o,sp⟩:=p;cases sp with
 |none=>rfl
 |some _=>
  unfold Heap.loadV at h
  split at h
  ·split at h
   ·simp[Heap.loadN]at h
   cases h
  ·simp[Heap.cellAt]at h
  cases h
theorem loadV_congr{H H':Heap}{t:TypeId}{b off:Nat}(h:H.get b=H'.get b):H.loadV P t ⟨b,off,none⟩=H'.loadV P t ⟨b,off,none⟩:=by unfold Heap.loadV Heap.loadN Heap.cellAt;simp only[h]
theorem loadV_some{H:Heap}{t:TypeId}{b off:Nat}{v:Value}(h:H.loadV P t ⟨b,off,none⟩=some v): ∃x,H.get b=some x:=by
 cases hg:H.get b with
 |some x=>exact⟨x,rfl⟩
 |none=>
  unfold Heap.loadV Heap.loadN Heap.cellAt at h
  simp only[hg]at h
  split at h
  ·split at h<;>cases h
  ·cases h
  cases h
theorem aSlice_spot{P:Program}{H:Heap}{t:TypeId}{p:Addr}{n k:Nat}{lo hi mx:Option Value}{v:Value}(h:bx P t (.slice (some p) n k) lo hi mx H=some v):p.spot=none:=by
 obtain⟨b,o,sp⟩:=p;cases sp with
 |none=>rfl
 |some _=>
  unfold bx at h
  split at h
  ·cases h
  split at h<;>simp_all
theorem aSlice_get{P:Program}{H:Heap}{t:TypeId}{b off n k:Nat}{lo hi mx:Option Value}{v:Value}(h:bx P t (.slice (some ⟨b,off,none⟩) n k) lo hi mx H=some v):
  ∃obj,H.get b=some obj/\∀H2:Heap,H2.get b=some obj->bx P t (.slice (some ⟨b,off,none⟩) n k) lo hi mx H2=some v:=by
 cases hg:H.get b with
 |some obj=>
  refine⟨obj,rfl,fun H2 h2=>?_⟩
  rw[←h]
  unfold bx
  cases mx with
  |some _=>rfl
  |none=>
   cases P.underlying t with
   |none=>rfl
   |some d=>cases d<;>first|rfl|simp only[h2,hg]
 |none=>
  exfalso
  unfold bx at h
  split at h
  ·cases h
  split at h<;>simp_all
theorem d9{P:Program}{ρ:Operand->Value}{o:Oper}{b:Nat}{H H':Heap}{r:AN}(hr:lY ρ o b)(h:aop P ρ o H=some (r,H')):
  ∃v obj,r= .val v/\H'=H/\H.get b=some obj/\∀H2:Heap,H2.get b=some obj->aop P ρ o H2=some (.val v,H2):=by
 rcases hr with⟨t,a,off,hop,ha⟩|⟨t,x,lo,hi,mx,off,n,k,hop,hx⟩
 ·have haop: ∀H,aop P ρ o H=dX P t (ρ a) H:=fun H=>by unfold aop;rw[hop]
  rw[haop,ha]at h;unfold dX at h;simp only at h;obtain⟨rfl,v,hv,rfl⟩:=cj h;obtain⟨obj,hobj⟩:=loadV_some hv;refine⟨v,obj,rfl,rfl,hobj,fun H2 h2=>?_⟩;rw[haop,ha];unfold dX;simp only;rw[loadV_congr (H':=H') (by rw[h2,hobj]),hv];rfl
 have haop: ∀H,aop P ρ o H=ovl (bx P t (ρ x) (lo.map ρ) (hi.map ρ) (mx.map ρ) H) H:=fun H=>by unfold aop;rw[hop]
 rw[haop,hx]at h
 obtain⟨rfl,v,hv,rfl⟩:=cj h
 obtain⟨obj,hobj,hall⟩:=aSlice_get hv
 refine⟨v,obj,rfl,rfl,hobj,fun H2 h2=>?_⟩
 rw[haop,hx,hall H2 h2]
 rfl
theorem reads_sound{P:Program}{μ:Emb}{ρ ρ':Operand->Value}{o:Oper}{b:Nat}{H:Heap}{w:World}{v:Value}(hr:lY ρ o b)(hρ: ∀x∈o.op.operands,VRel μ (ρ x) (ρ' x))(hw:WRel μ H w)
  (h:aop P ρ o H=some (.val v,H)): ∃v',(execOp ρ' o).run P w= .ok (.value v') w/\VRel μ v v':=by
 rcases hr with⟨t,a,off,hop,ha⟩|⟨t,x,lo,hi,mx,off,n,k,hop,hx⟩
 ·have haop: ∀H,aop P ρ o H=dX P t (ρ a) H:=fun H=>by unfold aop;rw[hop]
  rw[haop,ha]at h;unfold dX at h;simp only at h;obtain⟨_,v1,hv,h1⟩:=cj h;injection h1 with h1;subst h1;have hxa:VRel μ (ρ a) (ρ' a):=hρ a (by rw[hop];simp[Op.operands]);rw[ha]at hxa;obtain⟨l,hμ,hax⟩:=hxa.ptr_inv;obtain⟨v',hrun,hrr⟩:=gu (P:=P) hw hμ hv;refine⟨v',?_,hrr⟩;obtain⟨dst,op,type,pos,after,guard⟩:=o;simp only at hop;subst hop;simp only[execOp,hax,Instr.loadAt,Instr.sureAddr,Sem.run_bind,Sem.run_pure,Result.andThen_ok,hrun]
 have haop: ∀H,aop P ρ o H=ovl (bx P t (ρ x) (lo.map ρ) (hi.map ρ) (mx.map ρ) H) H:=fun H=>by unfold aop;rw[hop]
 rw[haop]at h
 obtain⟨dst,op,type,pos,after,guard⟩:=o
 simp only at hop
 subst hop
 obtain⟨a1,a2⟩:=eY (μ:=μ) (ρ:=ρ) (ρ':=ρ') (x:=lo) fun y hy=>hρ y (by subst hy;simp[Op.operands])
 obtain⟨b1,b2⟩:=eY (μ:=μ) (ρ:=ρ) (ρ':=ρ') (x:=hi) fun y hy=>hρ y (by subst hy;simp[Op.operands])
 obtain⟨_,c2⟩:=eY (μ:=μ) (ρ:=ρ) (ρ':=ρ') (x:=mx) fun y hy=>hρ y (by subst hy;simp[Op.operands])
 obtain⟨v1,v',h1,_,hrun,hrr⟩:=jA (P:=P) hw (hρ x (by simp[Op.operands])) a1 a2 b1 b2 c2 h
 injection h1 with h1;subst h1
 refine⟨v',?_,hrr⟩
 simp only[execOp,Sem.run_bind,hrun,Result.andThen_ok,Sem.run_pure]
theorem reads_loc{μ:Emb}{ρ ρ':Operand->Value}{o:Oper}{b:Nat}(hr:lY ρ o b)(hρ: ∀x∈o.op.operands,VRel μ (ρ x) (ρ' x)): ∃l,μ b=some l:=by
 rcases hr with⟨t,a,off,hop,ha⟩|⟨t,x,lo,hi,mx,off,n,k,hop,hx⟩
 ·have hxa:VRel μ (ρ a) (ρ' a):=hρ a (by rw[hop];simp[Op.operands]);rw[ha]at hxa;obtain⟨l,hμ,_⟩:=hxa.ptr_inv;exact⟨l,hμ⟩
 have hxa:VRel μ (ρ x) (ρ' x):=hρ x (by rw[hop];simp[Op.operands]);rw[hx]at hxa;obtain⟨l,hμ,_⟩:=hxa.slice_inv;exact⟨l,hμ⟩
theorem stepD_fact{cf:cn}(hcf:dS P G cf){ops:Array Oper}{o:Oper}{s s':St}{f:Inf}(hw:WF s.heap)(h:fX P G cf ops o s=some (s',f)):
  ∃v,OpFact P G cf ops o s s' v f:=by
 unfold fX at h
 split at h
 case h_2=>cases h
 rename_i t hst
 simp only[a00,a03]at h
 obtain⟨rfl,rfl⟩:=h
 have hw0:WF {s.heap with log:=[]}:=hw
 have ext:=i8 hcf (s:={s with heap:={s.heap with log:=[]}}) hw0 hst
 rw[step_eq]at hst
 cases hq:bf ops o s.tmps with
 |false=>
  rw[hq]at hst
  simp only[cond_false]at hst
  obtain⟨h1,h2,h3⟩:=gn hst
  refine⟨undef,h1,?_,?_,by rw[h2];exact a09 _,fun b _=>by rw[h2];rfl,.inl ⟨hq,rfl,by unfold dA;rw[hq];rfl,by rw[h2],fun b=>by rw[h2];rfl⟩⟩
  ·intro k;rcases h3 with⟨h4,h5⟩|⟨d,h4,hd,h5⟩
   ·simp[h4,h5]
   rw[h4];simp only[h5,fA,a00]
  intro d hd
  rcases h3 with⟨h4,_⟩|⟨d',h4,hd',_⟩
  ·rw[h4]at hd;cases hd
  rw[h4]at hd;injection hd with hd;subst hd;exact hd'
 |true=>
  rw[hq]at hst
  cases hq2:o.op.operands.toList.all (bB G) with
  |false=>rw[hq2]at hst;cases hst
  |true=>
   rw[hq2]at hst
   simp only[cond_true]at hst
   split at hst
   case h_2=>cases hst
   rename_i v H2 he
   obtain⟨h1,h2,h3⟩:=gn hst
   simp only at h2
   have hext:Ext {s.heap with log:=[]} H2:=kN hcf hw0 he
   refine⟨v,h1,?_,?_,by simp only[h2];exact hext.next,fun b hb=>by simp only[h2]at hb⊢;exact hext.far b hb,.inr ⟨hq,hq2,{s.heap with log:=[]},H2,fun _=>rfl,rfl,he,fun b=>by simp only[h2];rfl,by simp only[h2],?_⟩⟩
   ·intro k;rcases h3 with⟨h4,h5⟩|⟨d,h4,hd,h5⟩
    ·simp[h4,h5]
    rw[h4];simp only[h5,fA,a00]
   ·intro d hd;rcases h3 with⟨h4,_⟩|⟨d',h4,hd',_⟩
    ·rw[h4]at hd;cases hd
    rw[h4]at hd;injection hd with hd;subst hd;exact hd'
   ·--which kind
    have hx:(∃w,Inf.x (cY s.heap.next t.heap.log)= .x w/\(∀b,b∈w->b<s.heap.next)/\∀b,b<s.heap.next->b∉w->t.heap.get b=s.heap.get b):=by
     refine⟨_,rfl,fun b hb=>(fy.1 hb).2,fun b hb hn=>?_⟩;obtain⟨d,hd,hsame⟩:=hext.log;rw[h2];refine hsame b hb fun hm=>hn (fy.2 ⟨?_,hb⟩)
     rw[h2,hd,a0E];exact hm
    unfold dA;rw[hq];cases hv:aY o.op with
    |true=>exact .inl ⟨rfl,.inl rfl⟩
    |false=>
     simp only[a1y,a1J,cond_false]
     cases hnk:dU o.op with
     |true=>exact .inr (.inl ⟨rfl,rfl⟩)
     |false=>
      simp only[cond_false]
      split
      ·rename_i ty a hop;split
       ·rename_i p hp;have hsp:p.spot=none:=by
         unfold dY at he;have haop:aop P (cS s.tmps) o {s.heap with log:=[]}=dX P ty (cS s.tmps a) {s.heap with log:=[]}:=by unfold aop;rw[hop]
         rw[haop,hp]at he;unfold dX at he;simp only at he;cases hl:Heap.loadV P {s.heap with log:=[]} ty p with
         |none=>rw[hl]at he;simp[ovl]at he
         |some u=>exact loadV_spot hl
        obtain⟨b,off,sp⟩:=p;simp only at hsp;subst hsp;exact .inr (.inr (.inl ⟨b,rfl,.inl ⟨ty,a,off,hop,hp⟩⟩))
       exact .inr (.inr (.inr hx))
      ·rename_i ty x lo hi mx hop;split
       ·rename_i p n k hp;have hsp:p.spot=none:=by
         unfold dY at he;have haop:aop P (cS s.tmps) o {s.heap with log:=[]}=ovl (bx P ty (cS s.tmps x) (lo.map (cS s.tmps)) (hi.map (cS s.tmps)) (mx.map (cS s.tmps)) {s.heap with log:=[]}) {s.heap with log:=[]}:=by unfold aop;rw[hop]
         rw[haop,hp]at he;cases hl:bx P ty (.slice (some p) n k) (lo.map (cS s.tmps)) (hi.map (cS s.tmps)) (mx.map (cS s.tmps)) {s.heap with log:=[]} with
         |none=>rw[hl]at he;simp[ovl]at he
         |some u=>exact aSlice_spot hl
        obtain⟨b,off,sp⟩:=p;simp only at hsp;subst hsp;exact .inr (.inr (.inl ⟨b,rfl,.inr ⟨ty,x,lo,hi,mx,off,n,k,hop,hp⟩⟩))
       ·rename_i n k hp;exact .inl ⟨rfl,.inr (.inl ⟨ty,x,lo,hi,mx,n,k,hop,hp⟩)⟩
       exact .inr (.inr (.inr hx))
      ·rename_i xs ts hop;split
       ·rename_i a n k hp;exact .inl ⟨rfl,.inr (.inr ⟨xs,ts,_,hop,hp,.inl ⟨a,n,k,rfl⟩⟩)⟩
       ·rename_i str hp;exact .inl ⟨rfl,.inr (.inr ⟨xs,ts,_,hop,hp,.inr ⟨str,rfl⟩⟩)⟩
       exact .inr (.inr (.inr hx))
      exact .inr (.inr (.inr hx))
theorem jE{ρ:Operand->Value}{o:Oper}{H H':Heap}{r:AN}(h:bw P ρ o H=some (r,H')):H'=H/\∃v,r= .val v:=by
 unfold bw at h;cases hq:o.op.operands.toList.all fun x=>gF (ρ x) with
 |false=>rw[hq]at h;cases h
 |true=>
  rw[hq]at h
  simp only[cond_true]at h
  split at h
  ·rename_i v hv;cases hn:noA2 v with
   |false=>rw[hn]at h;cases h
   |true=>
    rw[hn]at h;simp only[cond_true,a00,a03]at h
    exact⟨h.2.symm,v,h.1.symm⟩
  cases h
theorem lift_val{s:Sem Value}{H H':Heap}{r:AN}(h:lift P s H=some (r,H')):H'=H/\∃v,r= .val v:=by obtain⟨h1,v,h2,_⟩:=jN h;exact⟨h1,v,h2⟩
theorem eX{x:Option Value}{H H':Heap}{r:AN}(h:ovl x H=some (r,H')):H'=H/\∃v,r= .val v:=by obtain⟨h1,v,_,h2⟩:=cj h;exact⟨h1,v,h2⟩
theorem eV{v:Value}{H H':Heap}{r:AN}(h:some (AN.val v,H)=some (r,H')):H'=H/\∃v,r= .val v:=by simp only[a00,a03]at h;exact⟨h.2.symm,v,h.1.symm⟩
theorem aop_value{ρ:Operand->Value}{o:Oper}{H H':Heap}{r:AN}(hk:aY o.op=true)(h:aop P ρ o H=some (r,H')):H'=H/\∃v,r= .val v:=by
 obtain⟨dst,op,type,pos,after,guard⟩:=o;cases op<;>simp only[aY,a0K]at hk
 case move x=>exact eV (v:=ρ x) h
 case assign x=>exact eV (v:=ρ x) h
 case pick c a b=>
  have h':fw ρ c a b H=some (r,H'):=h
  unfold fw at h'
  split at h'
  ·exact eV h'
  cases h'
 case build t parts=>
  have h':gr P t (parts.map fun p=>(p.1,ρ p.2)) H=some (r,H'):=h
  unfold gr at h'
  split at h'
  ·exact lift_val h'
  cases h'
 case nilCheck x=>
  have h':opNil (ρ x) H=some (r,H'):=h
  unfold opNil at h'
  split at h'
  ·exact eV h'
  ·exact eV h'
  cases h'
 case binOp op t x y yt=>
  have h':aBin P ρ ⟨dst,.binOp op t x y yt,type,pos,after,guard⟩ op t (ρ x) y H=some (r,H'):=h
  unfold aBin at h'
  split at h'
  ·unfold binInt at h';split at h'
   ·exact eX h'
   cases h'
  ·unfold binStr at h';split at h'
   ·exact eX h'
   cases h'
  unfold lN at h';split at h'
  ·exact jE h'
  ·exact jE h'
  obtain⟨h1,b,_,hc⟩:=ij h'
  rcases hc with⟨_,h2⟩|⟨_,h2⟩
  ·exact⟨h1,_,h2⟩
  exact⟨h1,_,h2⟩
 case unOp op t x=>
  have h':aUn P ρ ⟨dst,.unOp op t x,type,pos,after,guard⟩ op (ρ x) H=some (r,H'):=h
  unfold aUn at h'
  split at h'
  ·split at h'
   ·exact eV h'
   cases h'
  exact jE h'
 case makeFunc fn first captured=>exact eV (v:= .func fn (first.map ρ) (captured.map ρ)) h
 case fieldAddr s x f=>
  have h':ovl (hN P s (ρ x) f) H=some (r,H'):=h
  exact eX h'
 case field t x f=>
  have h':ovl (gE P t (ρ x) f) H=some (r,H'):=h
  exact eX h'
 case indexAddr t x i=>
  have h':ovl (cW P t (ρ x) (ρ i)) H=some (r,H'):=h
  exact eX h'
 case index t x i=>
  have h':j5 P t (ρ x) (ρ i) H=some (r,H'):=h
  unfold j5 at h'
  split at h'
  ·exact eX h'
  exact lift_val h'
 case extract x i=>
  have h':ovl (fW (ρ x) i) H=some (r,H'):=h
  exact eX h'
theorem kj{ρ:Operand->Value}{o:Oper}{H H':Heap}{r:AN}(hk:aY o.op=true)(h:aop P ρ o H=some (r,H')):H'=H:=by have:=aop_value hk h;exact this.1
theorem jt{ρ:Operand->Value}{o:Oper}{H H':Heap}{r:AN}(hk:aY o.op=true)(h:aop P ρ o H=some (r,H')): ∃v,r= .val v:=(aop_value hk h).2
theorem eJ{ρ:Operand->Value}{o:Oper}{H H':Heap}{r:AN}(hk:dU o.op=true)(h:aop P ρ o H=some (r,H')):
  ∃v obj,r= .val v/\H'=H.push obj/\∀H2:Heap,H2.next=H.next->aop P ρ o H2=some (.val v,H2.push obj):=by
 obtain⟨dst,op,type,pos,after,guard⟩:=o
 cases op<;>simp only[dU,a0K]at hk
 case alloc e=>
  have h':ee P e H=some (r,H'):=h
  unfold ee at h'
  split at h'
  ·rename_i z hz;simp only[a00,a03]at h';obtain⟨rfl,rfl⟩:=h';refine⟨_,_,rfl,rfl,fun H2 hn=>?_⟩;show ee P e H2=_;unfold ee;rw[hz,hn];rfl
  cases h'
 case box e x=>
  have h':some (AN.val (ptrTo H.next),aS H (ρ x).cells.toList none)=some (r,H'):=h
  simp only[a00,a03]at h'
  obtain⟨rfl,rfl⟩:=h'
  refine⟨_,_,rfl,rfl,fun H2 hn=>?_⟩
  show some (AN.val (ptrTo H2.next),aS H2 (ρ x).cells.toList none)=_
  rw[hn];rfl
 case buildSlice t n parts=>
  have h':bK P t n (eQ (fun p=>(p.1,ρ p.2)) parts.toList) H=some (r,H'):=h
  unfold bK at h'
  split at h'
  ·rename_i sz z hz;cases hq:Nat.ble (n*sz) 16777216 with
   |false=>rw[hq]at h';cases h'
   |true=>
    rw[hq]at h'
    simp only[cond_true]at h'
    split at h'
    ·rename_i cells hc;simp only[a00,a03]at h';obtain⟨rfl,rfl⟩:=h';refine⟨_,_,rfl,rfl,fun H2 hn=>?_⟩;show bK P t n (eQ (fun p=>(p.1,ρ p.2)) parts.toList) H2=_;unfold bK;rw[hz];simp only[hq,cond_true,hc,hn];rfl
    cases h'
  cases h'
 case makeMap t rsv=>
  cases rsv with
  |some _=>simp at hk
  |none=>
   have h':some (AN.val (.map (some H.next)),H.push (.tab []))=some (r,H'):=h
   simp only[a00,a03]at h'
   obtain⟨rfl,rfl⟩:=h'
   refine⟨_,_,rfl,rfl,fun H2 hn=>?_⟩
   show some (AN.val (.map (some H2.next)),H2.push (.tab []))=_
   rw[hn]
def bare(n:Nat):Heap:={tr:= .nil,next:=n,log:=[]}
theorem d7(n b:Nat):(bare n).get b=none:=rfl
theorem jl(μ:Emb)(n:Nat)(w:World):WRel μ (bare n) w:=
 ⟨(fun b l o _ h=>by rw[d7]at h;cases h),(fun b1 b2 l1 l2 o1 o2 _ _ _ h=>by rw[d7]at h;cases h)⟩
theorem aSlice_nil{t:TypeId}{n k:Nat}{lo hi mx:Option Value}(H H2:Heap):bx P t (.slice none n k) lo hi mx H=bx P t (.slice none n k) lo hi mx H2:=by
 unfold bx;cases mx with
 |some _=>rfl
 |none=>
  cases P.underlying t with
  |none=>rfl
  |some d=>cases d<;>first|rfl|(cases n<;>cases k<;>rfl)
theorem eg{ρ:Operand->Value}{o:Oper}{H H':Heap}{r:AN}(hr:NilCut ρ o)(h:aop P ρ o H=some (r,H')):H'=H/\∃v,r= .val v:=by
 rcases hr with⟨t,x,lo,hi,mx,n,k,hop,hx⟩|⟨xs,ts,x,hop,hx,_⟩
 ·have haop: ∀H,aop P ρ o H=ovl (bx P t (ρ x) (lo.map ρ) (hi.map ρ) (mx.map ρ) H) H:=fun H=>by unfold aop;rw[hop]
  rw[haop]at h;exact eX h
 have haop:aop P ρ o H=bLen P ts (eQ ρ xs.toList) H:=by unfold aop;rw[hop];rfl
 rw[haop]at h;unfold bLen at h;split at h
 ·exact eX h
 cases h
theorem aLen_any{t:TypeId}{x:Value}(hx:(∃a n k,x= .slice a n k)\/∃s,x= .string s)(H H2:Heap):aLen P t x H=aLen P t x H2:=by
 rcases hx with⟨a,n,k,rfl⟩|⟨s,rfl⟩<;>(unfold aLen;cases P.underlying t with
  |none=>rfl
  |some d=>cases d<;>rfl)
theorem nilcut_sound{μ:Emb}{ρ ρ':Operand->Value}{o:Oper}{H:Heap}{v:Value}(hr:NilCut ρ o)(hρ: ∀x∈o.op.operands,VRel μ (ρ x) (ρ' x))(h:aop P ρ o H=some (.val v,H))(w:World):
  ∃v',(execOp ρ' o).run P w= .ok (.value v') w/\VRel μ v v':=by
 rcases hr with hr|⟨xs,ts,x,hop,hxs,hx⟩
 rotate_left
 ·have haop:aop P ρ o H=bLen P ts (eQ ρ xs.toList) H:=by unfold aop;rw[hop];rfl
  rw[haop,hxs]at h;obtain⟨dst,op,type,pos,after,guard⟩:=o;simp only at hop;subst hop;unfold bLen at h;split at h
  ·rename_i t x1 ht hx1;simp only[List.cons.injEq,and_true]at hx1;subst hx1;obtain⟨_,v1,hv,h1⟩:=cj h;injection h1 with h1;subst h1;rw[aLen_any hx H (bare 0)]at hv;have hargs:LRel μ (eQ ρ xs.toList) (xs.map ρ').toList:=by
    rw[jL];have:=jm (μ:=μ) (ops:=xs) (ρ:=ρ) (ρ':=ρ') fun x hx=>hρ x (by simp[Op.operands,Call.operands];exact hx)
    simpa using this
   obtain⟨x',hx',hxr⟩:=one_of hargs hxs;obtain⟨hrun,hn⟩:=len_sound (P:=P) (ty:=type) (jl μ 0 w) hxr hv;have hat:ts= #[t]:=a1c.1 (by rw[ht]);refine⟨v,?_,.atom v hn⟩;simp only[execOp,resolve,Sem.run_bind,Sem.run_pure,Result.andThen_ok,invoke,builtin,hx',hat,hrun]
  cases h
 obtain⟨t,x,lo,hi,mx,n,k,hop,hx⟩:=hr
 have haop: ∀H,aop P ρ o H=ovl (bx P t (ρ x) (lo.map ρ) (hi.map ρ) (mx.map ρ) H) H:=fun H=>by unfold aop;rw[hop]
 rw[haop,hx]at h
 obtain⟨_,v1,hv,h1⟩:=cj h
 rw[aSlice_nil H (bare 0)]at hv
 have h2:ovl (bx P t (ρ x) (lo.map ρ) (hi.map ρ) (mx.map ρ) (bare 0)) (bare 0)=some (.val v,bare 0):=by rw[hx,hv,h1];rfl
 obtain⟨dst,op,type,pos,after,guard⟩:=o
 simp only at hop
 subst hop
 obtain⟨a1,a2⟩:=eY (μ:=μ) (ρ:=ρ) (ρ':=ρ') (x:=lo) fun y hy=>hρ y (by subst hy;simp[Op.operands])
 obtain⟨b1,b2⟩:=eY (μ:=μ) (ρ:=ρ) (ρ':=ρ') (x:=hi) fun y hy=>hρ y (by subst hy;simp[Op.operands])
 obtain⟨_,c2⟩:=eY (μ:=μ) (ρ:=ρ) (ρ':=ρ') (x:=mx) fun y hy=>hρ y (by subst hy;simp[Op.operands])
 obtain⟨v1,v',h1,_,hrun,hrr⟩:=jA (P:=P) (jl μ 0 w) (hρ x (by simp[Op.operands])) a1 a2 b1 b2 c2 h2
 injection h1 with h1;subst h1
 refine⟨v',?_,hrr⟩
 simp only[execOp,Sem.run_bind,hrun,Result.andThen_ok,Sem.run_pure]
theorem either_heap{ρ:Operand->Value}{o:Oper}{H H':Heap}{r:AN}(hk:aY o.op=true\/NilCut ρ o)(h:aop P ρ o H=some (r,H')):H'=H:=by
 rcases hk with hk|hk
 ·exact kj hk h
 exact(eg hk h).1
theorem kO{ρ:Operand->Value}{o:Oper}{H H':Heap}{r:AN}(hk:aY o.op=true\/NilCut ρ o)(h:aop P ρ o H=some (r,H')): ∃v,r= .val v:=by
 rcases hk with hk|hk
 ·exact jt hk h
 exact(eg hk h).2
structure Trace(P:Program)(G:Nat)(cf:cn)(ops:Array Oper)(st:Nat->St)(vl:Nat->Value)(nf:Nat->Inf):Prop where
 fact: ∀k o,ops[k]?=some o->OpFact P G cf ops o (st k) (st (k+1)) (vl k) (nf k)
 past: ∀k,ops.size<=k->st (k+1)=st k
 comp: ∀j k,j<k->k<ops.size->bo (cm ops) j k=true\/dZ (nf j) (nf k)=true
 reg:RegFacts ops
 wf: ∀k,WF (st k).heap
section
variable {cf:cn} {ops:Array Oper} {st:Nat->St} {vl:Nat->Value} {nf:Nat->Inf}
theorem Trace.mono(T:Trace P G cf ops st vl nf)(k:Nat):(st k).heap.next<=(st (k+1)).heap.next:=by
 rcases a0j k ops.size with h|h
 ·exact(T.fact k ops[k] (a0I h)).next
 rw[T.past k h];exact a09 _
theorem Trace.monoL(T:Trace P G cf ops st vl nf){j k:Nat}(h:j<=k):(st j).heap.next<=(st k).heap.next:=by
 induction h with
 |refl=>exact a09 _
 |step _ ih=>exact a0c ih (T.mono _)
theorem Trace.sizeL(T:Trace P G cf ops st vl nf)(k:Nat):(st k).size=(st 0).size:=by
 induction k with
 |zero=>rfl
 |succ k ih=>
  rcases a0j k ops.size with h|h
  ·rw[(T.fact k ops[k] (a0I h)).size,ih]
  rw[T.past k h,ih]
theorem Trace.tm(T:Trace P G cf ops st vl nf)(k t:Nat):cG (st (k+1)).tmps t=if iY ops k=some t then vl k else cG (st k).tmps t:=by
 unfold iY;rcases a0j k ops.size with h|h
 ·have ho:=a0I h;rw[(T.fact k ops[k] ho).tm t,ho];rfl
 rw[T.past k h,Array.getElem?_eq_none h];simp
theorem Trace.chg(T:Trace P G cf ops st vl nf){k b:Nat}(h:chg st k b):
  k<ops.size/\((st k).heap.next<=b/\b<(st (k+1)).heap.next\/∃w,nf k= .x w/\b∈w/\b<(st k).heap.next):=by
 have hk:k<ops.size:=by
  rcases a0j k ops.size with hk|hk
  ·exact hk
  exfalso;unfold R.chg at h;rw[T.past k hk]at h;exact h rfl
 refine⟨hk,?_⟩
 have F:=T.fact k ops[k] (a0I hk)
 have hlt:b<(st (k+1)).heap.next:=by
  rcases a0j b (st (k+1)).heap.next with h1|h1
  ·exact h1
  exact absurd (F.far b h1) h
 rcases a0j b (st k).heap.next with hb|hb
 ·right;rcases F.how with⟨_,_,_,_,hs⟩|⟨_,_,H1,H2,hg1,hn1,he,hg2,hn2,hkind⟩
  ·exact absurd (hs b) h
  rcases hkind with⟨hf,hv⟩|⟨hf,hv⟩|⟨b',hf,hrd⟩|⟨w,hf,hwl,hsame⟩
  ·--a value operation changes nothing
   exfalso;unfold dY at he;split at he
   ·rename_i u h1 haop;simp only[a00,a03]at he;have:=(either_heap hv haop)
    rw[←he.2,this]at hg2;exact h (by rw[hg2 b,hg1 b])
   ·rename_i h1 haop;have:=(kO hv haop)
    obtain⟨_,hx⟩:=this;cases hx
   ·rename_i f args h1 haop;obtain⟨_,hx⟩:=kO hv haop;cases hx
   cases he
  ·exfalso;unfold dY at he;split at he
   ·rename_i u h1 haop;simp only[a00,a03]at he;obtain⟨_,obj,_,hpush,_⟩:=eJ hv haop;rw[←he.2,hpush]at hg2;exact h (by rw[hg2 b,Heap.get_push_ne _ _ (by omega),hg1 b])
   ·rename_i h1 haop;obtain⟨_,_,hx,_⟩:=eJ hv haop;cases hx
   ·rename_i f args h1 haop;obtain⟨_,_,hx,_⟩:=eJ hv haop;cases hx
   cases he
  ·exfalso;unfold dY at he;split at he
   ·rename_i u h1 haop;simp only[a00,a03]at he;obtain⟨_,_,_,hH,_,_⟩:=d9 hrd haop;rw[←he.2,hH]at hg2;exact h (by rw[hg2 b,hg1 b])
   ·rename_i h1 haop;obtain⟨_,_,hx,_⟩:=d9 hrd haop;cases hx
   ·rename_i f args h1 haop;obtain⟨_,_,hx,_⟩:=d9 hrd haop;cases hx
   cases he
  rcases Classical.em (b∈w) with hm|hm
  ·exact⟨w,hf,hm,hb⟩
  exact absurd (hsame b hb hm) h
 exact .inl ⟨hb,hlt⟩
end
end
end Go.R
set_option linter.unusedVariables false
namespace Go.R
section
variable {P:Program} {G:Nat} {cf:cn} {ops:Array Oper} {st:Nat->St} {vl:Nat->Value} {nf:Nat->Inf}
variable {μ0 μ:Emb} {w0 w:World} {d0:List Deferred} {S:Nat->Bool} {a:Act} {i:Nat} {o:Oper}
structure Ready(ops:Array Oper)(S:Nat->Bool)(i:Nat)(o:Oper):Prop where
 at_:ops[i]?=some o
 new:S i=false
 edges: ∀e∈o.after.toList,Region.binds .any e=true->S e.on=true
theorem Ready.lt(R:Ready ops S i o):i<ops.size:=(a0D.1 R.at_).1
theorem Ready.dc(R:Ready ops S i o)(h:DC ops S):DC ops (iT S i):=by
 intro k x hk hs e he hb;by_cases hki:k=i
 ·subst hki;rw[R.at_]at hk;injection hk with hk;subst hk;have:=R.edges e he hb;unfold iT;rw[this];simp
 rw[fH S hki]at hs;have:=h k x hk hs e he hb;unfold iT;rw[this];simp
theorem Ready.ahead(R:Ready ops S i o)(h:DC ops S){k:Nat}(hk:k≠i)(ho:bo (cm ops) k i=true):S k=true:=by have:=(R.dc h).anc i (fG S i) ho;rwa [fH S hk]at this
theorem Ready.behind(R:Ready ops S i o)(h:DC ops S){k:Nat}(ho:bo (cm ops) i k=true):S k=false:=by
 cases hs:S k with
 |false=>rfl
 |true=>have:=h.anc k hs ho;rw[R.new]at this;cases this
theorem Ready.iff_(R:Ready ops S i o)(h:DC ops S){k:Nat}(h1:k<i->bo (cm ops) k i=true)(h2:i<k->bo (cm ops) i k=true):S k=true↔k<i:=by
 rcases a1u k i with hlt|rfl|hgt
 ·exact⟨fun _=>hlt,fun _=>R.ahead h (by omega) (h1 hlt)⟩
 ·rw[R.new];simp
 rw[R.behind h (h2 hgt)];simp;omega
theorem Ready.iffAdd(R:Ready ops S i o)(h:DC ops S){k:Nat}(h1:k<i->bo (cm ops) k i=true)(h2:i<k->bo (cm ops) i k=true):iT S i k=true↔k<i+1:=by
 by_cases hk:k=i
 ·subst hk;rw[fG];simp
 rw[fH S hk,R.iff_ h h1 h2];omega
theorem share(T:Trace P G cf ops st vl nf)(ho:ops[i]?=some o){t:Tmp}(ht:t∈o.looksAt ops\/o.dst=some t){k:Nat}(hd:iY ops k=some t):
  (k<i->bo (cm ops) k i=true)/\(i<k->bo (cm ops) i k=true):=by
 unfold iY at hd
 cases hx:ops[k]? with
 |none=>rw[hx]at hd;simp at hd
 |some x=>
  rw[hx]at hd
  simp only[a0o]at hd
  constructor
  ·intro hlt;rcases T.reg.pair k i x o hlt hx ho with h|h
   ·exact h
   exfalso;obtain⟨p1,p2,p3⟩:=Oper.apart_spec h;rcases ht with ht|ht
   ·exact p1 t hd ht
   exact p2 t hd ht
  intro hlt
  rcases T.reg.pair i k o x hlt ho hx with h|h
  ·exact h
  exfalso
  obtain⟨p1,p2,p3⟩:=Oper.apart_spec h
  rcases ht with ht|ht
  ·exact p3 t hd ht
  exact p2 t ht hd
theorem slot_here(T:Trace P G cf ops st vl nf)(I:Inv ops st vl μ0 w0 d0 S μ a w)(R:Ready ops S i o){t:Tmp}(ht:t∈o.looksAt ops):
  VRel μ (cG (st i).tmps t) (a.tmps.getD t undef):=by
 have:=I.tm t
 rw[tv_eq st vl ops (i:=i) (fun k=>T.tm k t) ops.size (fun k _ hd=>R.iff_ I.dc (share T R.at_ (.inl ht) hd).1 (share T R.at_ (.inl ht) hd).2)]at this
 rwa [a24 (a1R R.lt)]at this
theorem operand_here(T:Trace P G cf ops st vl nf)(I:Inv ops st vl μ0 w0 d0 S μ a w)(R:Ready ops S i o)(hG:GRel μ G)(hall:o.op.operands.toList.all (bB G)=true):
  ∀x∈o.op.operands,VRel μ (cS (st i).tmps x) (a.eval x):=by
 intro x hx
 refine eval_of hG (a0w.1 hall x (by simpa using hx)) fun t ht=>?_
 subst ht
 refine slot_here T I R ?_
 unfold Oper.looksAt
 rw[a08]
 left
 rw[List.mem_filterMap]
 exact⟨.tmp t,by simpa using hx,rfl⟩
theorem wanted_here(T:Trace P G cf ops st vl nf)(I:Inv ops st vl μ0 w0 d0 S μ a w)(R:Ready ops S i o):bf ops o (st i).tmps=Region.wanted o (yielded ops a.tmps):=by
 refine wanted_eq (μ:=μ) fun j w hg d hd=>slot_here T I R ?_
 unfold Oper.looksAt;rw[a08];right;rw[hg];simp only;rw[hd];simp
theorem between(T:Trace P G cf ops st vl nf){j k b:Nat}(h1:(st j).heap.next<=b)(h2:b<(st (j+1)).heap.next)(h3:(st k).heap.next<=b)(h4:b<(st (k+1)).heap.next):j=k:=by
 rcases a1u j k with h|h|h
 ·have:=T.monoL (show j+1<=k from h);omega
 ·exact h
 have:=T.monoL (show k+1<=j from h);omega
theorem kH(T:Trace P G cf ops st vl nf)(I:Inv ops st vl μ0 w0 d0 S μ a w)(R:Ready ops S i o)(b:Nat)(h1:(st i).heap.next<=b)(h2:b<(st (i+1)).heap.next):μ b=none:=by
 cases hb:μ b with
 |none=>rfl
 |some l=>
  exfalso
  rcases I.dom b l hb with h|⟨k,_,hs,h3,h4⟩|h
  ·have:=T.monoL (a0C i);omega
  ·have:=between T h1 h2 h3 h4;subst this;rw[R.new]at hs;cases hs
  have:=T.monoL (show i+1<=ops.size from R.lt);omega
theorem cont_here(T:Trace P G cf ops st vl nf)(I:Inv ops st vl μ0 w0 d0 S μ a w)(R:Ready ops S i o){b:Nat}{l:Loc}(hb:μ b=some l)(hlt:b<(st i).heap.next)
  (hw: ∀k w',nf k= .x w'->b∈w'->k<ops.size->(k<i->bo (cm ops) k i=true)/\(i<k->bo (cm ops) i k=true)):jj st S ops.size b=(st i).heap.get b:=by
 rw[jW st (i:=i) ops.size,a24 (a1R R.lt)]
 intro k hk hc
 obtain⟨_,⟨h1,h2⟩|⟨w',h1,h2,h3⟩⟩:=T.chg hc
 ·--made there
  have hki:k<i:=by
   rcases a0j k i with h|h
   ·exact h
   have:=T.monoL h;omega
  refine⟨fun _=>hki,fun _=>?_⟩;rcases I.dom b l hb with h|⟨k',_,hs,h4,h5⟩|h
  ·have:=T.monoL (a0C k);omega
  ·have:=between T h1 h2 h4 h5;subst this;exact hs
  have:=T.monoL (a1R R.lt);omega
 exact R.iff_ I.dc (hw k w' h1 h2 hk).1 (hw k w' h1 h2 hk).2
theorem iu(T:Trace P G cf ops st vl nf)(I:Inv ops st vl μ0 w0 d0 S μ a w)(R:Ready ops S i o){b:Nat}(hb:b<(st i).heap.next->∃l,μ b=some l)(hlt:b<(st (i+1)).heap.next)
  (hw: ∀k w',nf k= .x w'->b∈w'->k<ops.size->(k<i->bo (cm ops) k i=true)/\(i<k->bo (cm ops) i k=true)):jj st (iT S i) ops.size b=(st (i+1)).heap.get b:=by
 rw[jW st (i:=i+1) ops.size,a24 R.lt]
 intro k hk hc
 by_cases hki:k=i
 ·subst hki;rw[fG];simp
 obtain⟨_,⟨h1,h2⟩|⟨w',h1,h2,h3⟩⟩:=T.chg hc
 ·have hk2:k<i:=by
   rcases a0j k i with h|h
   ·exact h
   have:=T.monoL (show i+1<=k by omega);omega
  rw[fH S hki];refine⟨fun _=>by omega,fun _=>?_⟩;have hbi:b<(st i).heap.next:=by have:=T.monoL (show k+1<=i from hk2);omega
  obtain⟨l,hl⟩:=hb hbi;rcases I.dom b l hl with h|⟨k',_,hs,h4,h5⟩|h
  ·have:=T.monoL (a0C k);omega
  ·have:=between T h1 h2 h4 h5;subst this;exact hs
  have:=T.monoL (a1R R.lt);omega
 exact R.iffAdd I.dc (hw k w' h1 h2 hk).1 (hw k w' h1 h2 hk).2
theorem jV(T:Trace P G cf ops st vl nf){b:Nat}(h: ¬chg st i b):jj st (iT S i) ops.size b=jj st S ops.size b:=by refine(kQ st ops.size fun k _ hc=>?_);exact fH S (fun e=>by subst e;exact h hc)
theorem jg{b:Nat}: ∀{l:List Nat},memB b l=true↔b∈l
 | []=>by simp[memB]
 |c::l=>by
  unfold memB;rw[a0F,jg (l:=l),a0n];constructor
  ·rintro(h|h)
   ·exact .inl (a07 h)
   exact .inr h
  rintro(rfl|h)
  ·exact .inl (a0Z b)
  exact .inr h
theorem ie(T:Trace P G cf ops st vl nf)(I:Inv ops st vl μ0 w0 d0 S μ a w)(R:Ready ops S i o):
  (∀t,o.dst=some t->tv st vl ops (iT S i) ops.size t=vl i)/\(∀t,o.dst≠some t->tv st vl ops (iT S i) ops.size t=tv st vl ops S ops.size t):=by
 constructor
 ·intro t ht;rw[tv_eq st vl ops (i:=i+1) (fun k=>T.tm k t) ops.size (fun k _ hd=>R.iffAdd I.dc (share T R.at_ (.inr ht) hd).1 (share T R.at_ (.inr ht) hd).2),a24 R.lt,T.tm];rw[if_pos (by unfold iY;rw[R.at_];exact ht)]
 intro t ht
 refine tv_congr st vl ops ops.size fun k _ hd=>fH S ?_
 intro e
 subst e
 unfold iY at hd
 rw[R.at_]at hd
 exact ht hd
theorem fO(T:Trace P G cf ops st vl nf)(I:Inv ops st vl μ0 w0 d0 S μ a w)(R:Ready ops S i o)(hsame: ∀b,(st (i+1)).heap.get b=(st i).heap.get b){v':Value}(hv:VRel μ (vl i) v'):
  Inv ops st vl μ0 w0 d0 (iT S i) μ (a.put o.dst v') w:=by
 obtain⟨t1,t2⟩:=ie T I R
 refine Inv.next (H:=bare (st i).heap.next) (Hn:=bare (st i).heap.next) I R.lt R.at_ (Post.refl (jl μ _ w)) hv (fun k=>T.mono k) (a09 _) (T.mono i)
  (fun b l x _ h=>by rw[d7]at h;cases h) (fun b l x _ h=>by rw[d7]at h;cases h) (fun b l x hb _ hc=>⟨hb,rfl,?_⟩) (R.dc I.dc) (fun d hd=>?_) t1 t2
 ·rw[jV T (fun e=>e (hsame b))]at hc;exact hc
 have:=(T.fact i o R.at_).dlt d hd
 rwa [T.sizeL i]at this
theorem inv_step(hcf:dS P G cf)(T:Trace P G cf ops st vl nf)(I:Inv ops st vl μ0 w0 d0 S μ a w)(hG:GRel μ0 G)(R:Ready ops S i o){K:Act->World->Prop}{Q:Exit->Act->World->Prop}
  (hK: ∀μ' a' w',Inv ops st vl μ0 w0 d0 (iT S i) μ' a' w'->K a' w'):wpOp P ops Q i K a w:=by
 have hGμ:GRel μ G:=hG.mono I.ext0
 have F:=T.fact i o R.at_
 have hwant:=wanted_here T I R
 unfold wpOp
 rw[R.at_]
 simp only
 rcases F.how with⟨hq,hv,hf,hn,hs⟩|⟨hq,hall,H1,H2,hg1,hn1,he,hg2,hn2,hkind⟩
 ·rw[hwant]at hq;rw[hq];simp only[a0K,if_false];exact hK μ _ w (fO T I R hs (by rw[hv];exact VRel.undef))
 rw[hwant]at hq
 rw[hq]
 simp only[if_true]
 left
 have hρ:=operand_here T I R hGμ hall
 have hwfi:WF (st i).heap:=T.wf i
 rcases hkind with⟨hf,hk|hk⟩|⟨hf,hk⟩|⟨b,hf,hrd⟩|⟨wr,hf,hwl,hsame⟩
 rotate_left
 ·--a part of the nil slice
  unfold dY at he;split at he
  case h_2=>rename_i h1 haop;obtain⟨_,_,hx⟩:=eg hk haop;cases hx
  case h_3=>rename_i f args h1 haop;obtain⟨_,_,hx⟩:=eg hk haop;cases hx
  case h_4=>cases he
  rename_i u h1 haop;simp only[a00,a03]at he;obtain⟨e1,_⟩:=eg hk haop;subst e1;obtain⟨rfl,rfl⟩:=he;obtain⟨v',hrun,hr⟩:=nilcut_sound hk hρ haop w;unfold Oper.wp;rw[hrun,Oper.upon_value];exact hK μ _ w (fO T I R (fun b=>by rw[hg2 b,hg1 b]) hr)
 rotate_right
 ·--a value
  have haop: ∃u,aop P (cS (st i).tmps) o H1=some (.val u,H1)/\u=vl i/\H2=H1:=by
   unfold dY at he;split at he
   ·rename_i u h1 haop;simp only[a00,a03]at he;have:=kj hk haop;subst this;exact⟨u,haop,he.1,he.2.symm⟩
   ·rename_i h1 haop;obtain⟨_,hx⟩:=jt hk haop;cases hx
   ·rename_i f args h1 haop;obtain⟨_,hx⟩:=jt hk haop;cases hx
   cases he
  obtain⟨u,haop,rfl,rfl⟩:=haop;obtain⟨_,v,v',hvv,hrun,hr⟩:=ju hk hρ haop;injection hvv with hvv;subst hvv;unfold Oper.wp;rw[hrun w,Oper.upon_value];exact hK μ _ w (fO T I R (fun b=>by rw[hg2 b,hg1 b]) hr)
 ·--a new block
  unfold dY at he;split at he
  case h_2=>rename_i h1 haop;obtain⟨_,_,hx,_⟩:=eJ hk haop;cases hx
  case h_3=>rename_i f args h1 haop;obtain⟨_,_,hx,_⟩:=eJ hk haop;cases hx
  case h_4=>cases he
  rename_i u h1 haop;simp only[a00,a03]at he;obtain⟨rfl,rfl⟩:=he;obtain⟨u,obj,hu,hpush,hind⟩:=eJ hk haop;injection hu with hu;subst hu hpush;have hni:(st (i+1)).heap.next=(st i).heap.next+1:=by rw[hn2,Heap.next_push,hn1]
  have hb0:=hind (bare (st i).heap.next) (by rw[hn1];rfl);obtain⟨n,w',μ',hrun,hp,hr⟩:=hL hρ (jl μ _ w) (fun b hb1 hb2=>kH T I R b hb1 (by rw[hni];exact hb2)) hb0;unfold Oper.wp;rw[hrun];cases n with
  |value v'=>
   rw[Oper.upon_value]
   obtain⟨t1,t2⟩:=ie T I R
   have hw: ∀k w',nf k= .x w'->(st i).heap.next∈w'->k<ops.size->(k<i->bo (cm ops) k i=true)/\(i<k->bo (cm ops) i k=true):=by
    intro k w' hx hm hks;have hlt:(st i).heap.next<(st k).heap.next:=by
     have Fk:=T.fact k ops[k] (a0I hks);rcases Fk.how with⟨_,_,hff,_⟩|⟨_,_,_,_,_,_,_,_,_,hkk⟩
     ·rw[hx]at hff;cases hff
     rcases hkk with⟨hff,_⟩|⟨hff,_⟩|⟨_,hff,_⟩|⟨w2,hff,hl2,_⟩
     ·rw[hx]at hff;cases hff
     ·rw[hx]at hff;cases hff
     ·rw[hx]at hff;cases hff
     rw[hx]at hff;injection hff with hff;subst hff;exact hl2 _ hm
    constructor
    ·intro hki;have:=T.monoL (a1R hki);omega
    intro hik;rcases T.comp i k hik hks with h|h
    ·exact h
    rw[hf,hx]at h;simp only[dZ]at h;rw[jg.2 hm]at h;cases h
   have hnew:jj st (iT S i) ops.size (st i).heap.next=some obj:=by rw[iu T I R (fun h=>absurd h (Nat.lt_irrefl _)) (by rw[hni];omega) hw,hg2,←hn1,Heap.get_push_same]
   have hbare: ∀b x,((bare (st i).heap.next).push obj).get b=some x->b=(st i).heap.next/\x=obj:=by
    intro b x hx;by_cases hbn:(bare (st i).heap.next).next=b
    ·subst hbn;rw[Heap.get_push_same]at hx;injection hx with hx;exact⟨rfl,hx.symm⟩
    rw[Heap.get_push_ne _ _ hbn,d7]at hx;cases hx
   refine hK μ' _ w' (Inv.next (H:=bare (st i).heap.next) (Hn:=(bare (st i).heap.next).push obj) I R.lt R.at_ hp hr (fun k=>T.mono k) (a09 _) (by rw[hni];exact a09 _)
    (fun b l x _ h=>by rw[d7]at h;cases h) (fun b l x _ h=>?_) (fun b l x hb hg hc=>?_) (R.dc I.dc) (fun d hd=>?_) t1 t2)
   ·obtain⟨rfl,rfl⟩:=hbare b x h;exact hnew
   ·have hbn:b≠(st i).heap.next:=by rintro rfl;have:((bare (st i).heap.next).push obj).get (st i).heap.next=some obj:=Heap.get_push_same (bare (st i).heap.next) obj;rw[this]at hg;cases hg
    have hnc: ¬chg st i b:=by intro hc';apply hc';rw[hg2,Heap.get_push_ne _ _ (by rw[hn1];exact Ne.symm hbn),hg1]
    rw[jV T hnc]at hc;rcases hp.dom b l hb with h1|⟨h1,h2⟩
    ·exact⟨h1,rfl,hc⟩
    exfalso;have h1':(st i).heap.next<=b:=h1;have h2':b<(st i).heap.next+1:=h2;omega
   have:=F.dlt d hd
   rwa [T.sizeL i]at this
  |_=>exact hr.elim
 ·--a load,or a part of a slice
  unfold dY at he;split at he
  case h_2=>rename_i h1 haop;obtain⟨_,_,hx,_⟩:=d9 hrd haop;cases hx
  case h_3=>rename_i f args h1 haop;obtain⟨_,_,hx,_⟩:=d9 hrd haop;cases hx
  case h_4=>cases he
  rename_i u h1 haop;simp only[a00,a03]at he;obtain⟨rfl,rfl⟩:=he;obtain⟨u,obj,hu,rfl,hobj,hall2⟩:=d9 hrd haop;injection hu with hu;subst hu;obtain⟨l,hμ⟩:=reads_loc hrd hρ;have hblt:b<(st i).heap.next:=hwfi.lt (by rw[←hg1];exact hobj);have hcont:=cont_here T I R hμ hblt (fun k w' hxk hm hks=>by
   constructor
   ·intro hki;rcases T.comp k i hki R.lt with h|h
    ·exact h
    rw[hf,hxk]at h;simp only[dZ]at h;rw[jg.2 hm]at h;cases h
   intro hik;rcases T.comp i k hik hks with h|h
   ·exact h
   rw[hf,hxk]at h;simp only[dZ]at h;rw[jg.2 hm]at h;cases h)
  have hone:WRel μ ((bare (st i).heap.next).put b obj) w:=by
   refine⟨fun b' l' o' hb' ho'=>?_,fun b1 b2 l1 l2 o1 o2 hne _ _ ho1 ho2=>?_⟩
   ·by_cases hbb:b=b'
    ·subst hbb;rw[Heap.get_put_same]at ho';injection ho' with ho';subst ho';exact I.obj b l' obj hb' (by rw[hcont,←hg1];exact hobj)
    rw[Heap.get_put_ne _ _ hbb,d7]at ho';cases ho'
   exfalso;by_cases h1:b=b1
   ·by_cases h2:b=b2
    ·exact hne (h1.symm.trans h2)
    rw[Heap.get_put_ne _ _ h2,d7]at ho2;cases ho2
   rw[Heap.get_put_ne _ _ h1,d7]at ho1;cases ho1
  obtain⟨v',hrun2,hr⟩:=reads_sound hrd hρ hone (hall2 _ (Heap.get_put_same _ _ _));unfold Oper.wp;rw[hrun2,Oper.upon_value];exact hK μ _ w (fO T I R (fun b=>by rw[hg2 b,hg1 b]) hr)
 ·--any other
  have hwr: ∀b k w',nf k= .x w'->b∈w'->k<ops.size->(k<i->bo (cm ops) k i=true)/\(i<k->bo (cm ops) i k=true):=by
   intro b k w' hxk hm hks;have hne:isNilL w'=false:=by cases w' with
    |nil=>simp at hm
    |cons _ _=>rfl
   constructor
   ·intro hki;rcases T.comp k i hki R.lt with h|h
    ·exact h
    rw[hf,hxk]at h;simp only[dZ,hne,a21]at h;cases h
   intro hik;rcases T.comp i k hik hks with h|h
   ·exact h
   rw[hf,hxk]at h;simp only[dZ,hne,a22]at h;cases h
  have hc1: ∀b l x,μ b=some l->H1.get b=some x->jj st S ops.size b=some x:=by intro b l x hb hx;rw[hg1]at hx;rw[cont_here T I R hb (hwfi.lt hx) (hwr b)];exact hx
  have hwf1:WF H1:=fun b hb=>by rw[hg1];exact hwfi b (by rw[←hn1];exact hb)
  have hrel1:WRel μ H1 w:=⟨fun b l x hb hx=>I.obj b l x hb (hc1 b l x hb hx),fun b1 b2 l1 l2 o1 o2 hne hb1 hb2 ho1 ho2=>I.inj b1 b2 l1 l2 o1 o2 hne hb1 hb2 (hc1 b1 l1 o1 hb1 ho1) (hc1 b2 l2 o2 hb2 ho2)⟩
  refine iM hcf hwf1 hρ hGμ hrel1 (fun b hb1 hb2=>kH T I R b (by rw[←hn1];exact hb1) (by rw[hn2];exact hb2)) he ?_;intro μ' w' v' hp hv;obtain⟨t1,t2⟩:=ie T I R;have hdomμ: ∀b l,μ' b=some l->b<(st i).heap.next->∃l,μ b=some l:=by
   intro b l hb hlt;rcases hp.dom b l hb with h|⟨h,_⟩
   ·exact⟨l,h⟩
   rw[hn1]at h;omega
  refine hK μ' _ w' (Inv.next (H:=H1) (Hn:=H2) I R.lt R.at_ hp hv (fun k=>T.mono k) (by rw[hn1];exact a09 _) (by rw[hn2];exact a09 _) hc1 (fun b l x hb hx=>?_) (fun b l x hb hx hc=>?_) (R.dc I.dc) (fun d hd=>?_) t1 t2)
  ·rw[←hg2]at hx;rw[iu T I R (hdomμ b l hb) ((T.wf (i+1)).lt hx) (hwr b)];exact hx
  ·rw[←hg2]at hx;have hge:(st (i+1)).heap.next<=b:=by
    rcases a0j b (st (i+1)).heap.next with h|h
    ·rw[iu T I R (hdomμ b l hb) h (hwr b),hx]at hc;cases hc
    exact h
   have hnc: ¬chg st i b:=fun hc'=>hc' (F.far b hge)
   rw[jV T hnc]at hc;refine⟨?_,?_,hc⟩
   ·rcases hp.dom b l hb with h|⟨_,h⟩
    ·exact h
    rw[←hn2]at h;omega
   exact hwf1 b (by rw[hn1];exact a0c F.next hge)
  have:=F.dlt d hd;rwa [T.sizeL i]at this
end
end Go.R
namespace Go.R
section
variable {P:Program} {G:Nat} {cf:cn} {ops:Array Oper} {st:Nat->St} {vl:Nat->Value} {nf:Nat->Inf}
variable {μ0 μ:Emb} {w0 w:World} {d0:List Deferred} {a:Act}
def cnt(S:Nat->Bool):Nat->Nat
 |0=>0
 |n+1=>cnt S n+if S n=true then 0 else 1
theorem cnt_far{S:Nat->Bool}{i:Nat}: ∀n,n<=i->cnt (iT S i) n=cnt S n
 |0,_=>rfl
 |n+1,h=>by have:=cnt_far (S:=S) (i:=i) n (by omega);simp only[cnt,this,fH S (show n≠i by omega)]
theorem cnt_add{S:Nat->Bool}{i:Nat}(hs:S i=false): ∀n,i<n->cnt (iT S i) n+1=cnt S n
 |0,h=>by omega
 |n+1,h=>by
  by_cases hi:i=n
  ·subst hi;simp only[cnt,cnt_far i (a09 i),fG,hs,if_true,a0K,if_false]
  have:=cnt_add hs n (by omega);simp only[cnt,fH S (show n≠i by omega)];omega
theorem jk{S:Nat->Bool}: ∀n,cnt S n=0->∀k,k<n->S k=true
 |0,_,k,h=>by omega
 |n+1,h,k,hk=>by
  simp only[cnt]at h;by_cases hs:S n=true
  ·by_cases hkn:k=n
   ·subst hkn;exact hs
   exact jk n (by omega) k (by omega)
  rw[if_neg hs]at h;omega
theorem cnt_le{S:Nat->Bool}: ∀n,cnt S n<=n
 |0=>a09 _
 |n+1=>by have:=cnt_le (S:=S) n;simp only[cnt];split<;>omega
def gg(listed:Array Bool):Nat->Bool:=fun k=>listed.getD k false
theorem setOf_set{listed:Array Bool}{i:Nat}(hi:i<listed.size):gg (listed.setIfInBounds i true)=iT (gg listed) i:=by
 funext k;unfold gg iT;simp only[a0U,a1b];by_cases hk:i=k
 ·subst hk;simp[hi]
 have:Nat.beq k i=false:=by
  cases hb:Nat.beq k i with
  |false=>rfl
  |true=>exact absurd (a07 hb).symm hk
 simp[hk,this]
theorem jD{listed:Array Bool}(hl:listed.size=ops.size){i:Nat}:i∈Region.ready .any ops listed↔
  ∃o,Ready ops (gg listed) i o:=by
 unfold Region.ready
 rw[a1G,a20]
 constructor
 ·rintro⟨hi,h⟩;have ho:ops[i]?=some ops[i]:=a0I hi;rw[ho]at h;simp only[a0d,a0G,a1T,a0B]at h;refine⟨ops[i],ho,?_,fun e he hb=>?_⟩
  ·unfold gg;have h1:=h.1;simp only[a0U,a0I (show i<listed.size by omega),a0B]at h1⊢;exact h1
  have h2:=h.2;rw[Array.all_eq_true']at h2;have:=h2 e (by simpa using he);rw[hb]at this;simpa[gg] using this
 rintro⟨o,ho,hn,he⟩
 have hi:i<ops.size:=(a0D.1 ho).1
 refine⟨hi,?_⟩
 rw[ho]
 simp only[a0d,a0G,a1T,a0B]
 constructor
 ·unfold gg at hn;simp only[a0U,a0I (show i<listed.size by omega),a0B]at hn⊢;exact hn
 rw[Array.all_eq_true']
 intro e hem
 cases hb:Region.binds .any e with
 |false=>rfl
 |true=>
  have:=he e (by simpa using hem) hb
  simpa[gg] using this
theorem all_of_none(T:Trace P G cf ops st vl nf){listed:Array Bool}(hl:listed.size=ops.size)(h:Region.ready .any ops listed=[]): ∀k,k<ops.size->gg listed k=true:=by
 intro k;induction k using Nat.strongRecOn with
 |_ k ih=>
  intro hk
  cases hs:gg listed k with
  |true=>rfl
  |false=>
   exfalso
   have ho:=a0I hk
   have:k∈Region.ready .any ops listed:=(jD hl).2 ⟨ops[k],ho,hs,fun e he hb=>by
    have hlt:=T.reg.back k ops[k] ho e he hb;exact ih e.on hlt (by omega)⟩
   rw[h]at this;simp at this
theorem any_sound(hcf:dS P G cf)(T:Trace P G cf ops st vl nf)(hG:GRel μ0 G){Q:Exit->Act->World->Prop}
  (hQ: ∀S μ a w,(∀k,k<ops.size->S k=true)->Inv ops st vl μ0 w0 d0 S μ a w->Q .normal a w):
  ∀(fuel:Nat) (listed:Array Bool) (μ:Emb) (a:Act) (w:World),listed.size=ops.size->cnt (gg listed) ops.size<=fuel->Inv ops st vl μ0 w0 d0 (gg listed) μ a w->
   wpAny P .any ops Q fuel listed a w
 |0,listed,μ,a,w,hl,hc,I=>by
  have hall:=jk ops.size (by omega:cnt (gg listed) ops.size=0);refine⟨?_,hQ _ μ a w hall I⟩;cases hr:Region.ready .any ops listed with
  |nil=>rfl
  |cons i t=>
   exfalso
   have hm:i∈Region.ready .any ops listed:=by rw[hr];simp
   obtain⟨o,R⟩:=(jD hl).1 hm
   have:=hall i R.lt
   rw[R.new]at this;cases this
 |fuel+1,listed,μ,a,w,hl,hc,I=>by
  refine⟨fun h=>hQ _ μ a w (all_of_none T hl h) I,fun i hi=>?_⟩;obtain⟨o,R⟩:=(jD hl).1 hi;refine inv_step hcf T I hG R fun μ' a' w' I'=>?_
  have hset:=setOf_set (listed:=listed) (i:=i) (by rw[hl];exact R.lt);refine any_sound hcf T hG hQ fuel (listed.setIfInBounds i true) μ' a' w' (by simp[hl]) ?_ (by rw[hset];exact I');rw[hset];have:=cnt_add R.new ops.size R.lt;omega
theorem inv_start(T:Trace P G cf ops st vl nf)(ht:TRel μ0 (st 0).tmps (st 0).size a.tmps)(hw:WRel μ0 (st 0).heap w)(hdom: ∀b l,μ0 b=some l->b<(st 0).heap.next\/(st ops.size).heap.next<=b)(S:Nat->Bool)(hS: ∀k,S k=false):
  Inv ops st vl μ0 w a.defers S μ0 a w:=by
 have hc: ∀b,jj st S ops.size b=(st 0).heap.get b:=by intro b;have:=jW st (S:=S) (b:=b) (i:=0) ops.size (fun k _ _=>by rw[hS k];simp);rwa [Nat.min_zero]at this
 have htv: ∀t,tv st vl ops S ops.size t=cG (st 0).tmps t:=by intro t;have:=tv_eq st vl ops (S:=S) (t:=t) (i:=0) (fun k=>T.tm k t) ops.size (fun k _ _=>by rw[hS k];simp);rwa [Nat.min_zero]at this
 refine⟨(fun k o _ hk=>by rw[hS k]at hk;cases hk),fun b l hb=>?_,fun b l o hb ho=>hw.obj b l o hb (by rw[←hc];exact ho),fun b1 b2 l1 l2 o1 o2 hne hb1 hb2 ho1 ho2=>hw.inj b1 b2 l1 l2 o1 o2 hne hb1 hb2 (by rw[←hc];exact ho1) (by rw[←hc];exact ho2),
  ht.1,fun t=>by rw[htv];exact ht.2 t,rfl,fun _ _ h=>h,fun _ _ h=> .inl h,a09 _,rfl,rfl,rfl,fun _ _ _=>rfl,fun b l o hb ho hlv=> .inr ⟨b,l,o,hb,by rw[←hc];exact ho,hlv,id,rfl⟩⟩
 rcases hdom b l hb with h|h
 ·exact .inl h
 exact .inr (.inr h)
theorem inv_end(T:Trace P G cf ops st vl nf){S:Nat->Bool}(hall: ∀k,k<ops.size->S k=true)(I:Inv ops st vl μ0 w0 d0 S μ a w):
  Post μ0 (st 0).heap w0 μ (st ops.size).heap w/\TRel μ (st ops.size).tmps (st ops.size).size a.tmps/\a.defers=d0:=by
 have hc: ∀b,jj st S ops.size b=(st ops.size).heap.get b:=by intro b;have:=jW st (S:=S) (b:=b) (i:=ops.size) ops.size (fun k hk _=>by rw[hall k hk];simp[hk]);rwa [Nat.min_self]at this
 have htv: ∀t,tv st vl ops S ops.size t=cG (st ops.size).tmps t:=by intro t;have:=tv_eq st vl ops (S:=S) (t:=t) (i:=ops.size) (fun k=>T.tm k t) ops.size (fun k hk _=>by rw[hall k hk];simp[hk]);rwa [Nat.min_self]at this
 refine⟨⟨I.ext0,I.dom0,I.grow0,I.os0,I.tape0,I.out0,I.keep0,fun b l o hb ho hlv=>I.img0 b l o hb (by rw[hc];exact ho) hlv,
  ⟨fun b l o hb ho=>I.obj b l o hb (by rw[hc];exact ho),fun b1 b2 l1 l2 o1 o2 hne hb1 hb2 ho1 ho2=>I.inj b1 b2 l1 l2 o1 o2 hne hb1 hb2 (by rw[hc];exact ho1) (by rw[hc];exact ho2)⟩⟩,⟨?_,fun t=>?_⟩,I.defers⟩
 ·rw[I.size,T.sizeL ops.size]
 have:=I.tm t
 rwa [htv]at this
end
section
variable {P:Program} {G:Nat} {cf:cn} {ops:Array Oper}
theorem gK(hcf:dS P G cf): ∀(l:List Oper) (k:Nat) (fs:List (Nat×Inf)) (s s':St),ops.toList.drop k=l->k+l.length=ops.size->bn P G cf ops k fs l s=some s'->WF s.heap->
  ∃(st:Nat->St) (vl:Nat->Value) (nf:Nat->Inf),st k=s/\st ops.size=s'/\(∀j,ops.size<=j->st (j+1)=st j)/\(∀j,k<=j->WF (st j).heap)/\
   (∀j o,k<=j->ops[j]?=some o->OpFact P G cf ops o (st j) (st (j+1)) (vl j) (nf j))/\
   (∀j,k<=j->j<ops.size->∀q∈fs,bo (cm ops) q.1 j=true\/dZ q.2 (nf j)=true)/\
   (∀i j,k<=i->i<j->j<ops.size->bo (cm ops) i j=true\/dZ (nf i) (nf j)=true)
 | [],k,fs,s,s',hd,hlen,h,hw=>by simp only[bn,a00]at h;subst h;simp only[a0i,a2g]at hlen;refine⟨fun _=>s,fun _=>undef,fun _=> .v,rfl,rfl,fun _ _=>rfl,fun _ _=>hw,fun j o hj ho=>?_,fun j hj hj2=>by omega,fun i j hi hij hj=>by omega⟩;have:=(a0D.1 ho).1;omega
 |x::os,k,fs,s,s',hd,hlen,h,hw=>by
  simp only[a0a]at hlen;unfold bn at h;split at h
  case h_2=>cases h
  rename_i s1 f h1;cases hq:cb (cm ops) k f fs with
  |false=>rw[hq]at h;cases h
  |true=>
   rw[hq]at h
   simp only[cond_true]at h
   obtain⟨v,F⟩:=stepD_fact hcf hw h1
   have hw1:WF s1.heap:=fun b hb=>by rw[F.far b hb];exact hw b (a0c F.next hb)
   have hk:k<ops.toList.length:=by simp;omega
   have hdd:=a0T hk
   rw[hd]at hdd
   injection hdd with e1 e2
   have hox:ops[k]?=some x:=by rw[←Array.getElem?_toList,a04 hk,←e1]
   obtain⟨st,vl,nf,g1,g2,g3,g4,g5,g6,g7⟩:=gK hcf os (k+1) ((k,f)::fs) s1 s' e2.symm (by omega) h hw1
   have hcomp: ∀(l:List (Nat×Inf)),cb (cm ops) k f l=true->∀q∈l,bo (cm ops) q.1 k=true\/dZ q.2 f=true:=by
    intro l;induction l with
    |nil=>intro _ q hq;simp at hq
    |cons p l ih=>
     intro hl q hq
     obtain⟨pj,pg⟩:=p
     simp only[cb,a0d,a0F]at hl
     rcases a0n.1 hq with rfl|hq
     ·exact hl.1
     exact ih hl.2 q hq
   refine⟨fun j=>if j<=k then s else st j,fun j=>if j<=k then v else vl j,fun j=>if j<=k then f else nf j,by simp,?_,fun j hj=>?_,fun j hj=>?_,fun j o hj ho=>?_,fun j hj hjn q hq2=>?_,fun i j hi hij hjn=>?_⟩
   ·simp only[show ¬(ops.size<=k) by omega,if_false];exact g2
   ·simp only[show ¬(j<=k) by omega,show ¬(j+1<=k) by omega,if_false];exact g3 j hj
   ·by_cases hjk:j<=k
    ·simp only[hjk,if_true];exact hw
    simp only[hjk,if_false];exact g4 j (by omega)
   ·by_cases hjk:j=k
    ·subst hjk;rw[hox]at ho;injection ho with ho;subst ho;simp only[a09,if_true,show ¬(j+1<=j) by omega,if_false,g1];exact F
    simp only[show ¬(j<=k) by omega,show ¬(j+1<=k) by omega,if_false];exact g5 j o (by omega) ho
   ·by_cases hjk:j=k
    ·subst hjk;simp only[a09,if_true];exact hcomp fs hq q hq2
    simp only[show ¬(j<=k) by omega,if_false];exact g6 j (by omega) hjn q (a0g _ hq2)
   by_cases hik:i=k
   ·subst hik;simp only[a09,if_true,show ¬(j<=i) by omega,if_false];exact g6 j (by omega) hjn (i,f) (by simp)
   simp only[show ¬(i<=k) by omega,show ¬(j<=k) by omega,if_false]
   exact g7 i j (by omega) hij hjn
def Dom(μ:Emb)(H:Heap):Prop:= ∀b l,μ b=some l->b<H.next
theorem region_sound(hcf:dS P G cf){id:Nat}{draw:Bool}{s s':St}(h:bS P G cf ops draw s=some s'){μ:Emb}{a:Act}{w:World}{Q:Exit->Act->World->Prop}
  (hwf:WF s.heap) (ht:TRel μ s.tmps s.size a.tmps) (hG:GRel μ G) (hw:WRel μ s.heap w) (hdom: ∀b l,μ b=some l->b<s.heap.next\/s'.heap.next<=b)
  (hQ: ∀μ' w' a',Post μ s.heap w μ' s'.heap w'->TRel μ' s'.tmps s'.size a'.tmps->a'.defers=a.defers->Q .normal a' w'):(Code.region id ops draw).wp P Q a w:=by
 have hfresh: ∀b,s.heap.next<=b->b<s'.heap.next->μ b=none:=by
  intro b h1 h2;cases hb:μ b with
  |none=>rfl
  |some l=>rcases hdom b l hb with h3|h3<;>omega
 unfold bS at h
 cases draw with
 |false=>
  simp only[cond_false]at h
  refine wp_region ?_
  rw[List.range_eq_range']
  have:=iF hcf ops.toList 0 s s' rfl h μ a w hwf ht hG hw hfresh (Q:=Q) hQ
  simpa using this
 |true=>
  simp only[cond_true]at h
  cases hq:(aQ ops&&P.follows .mixedOrders) with
  |false=>rw[hq]at h;cases h
  |true=>
   rw[hq]at h
   simp only[cond_true]at h
   simp only[a0d]at hq
   obtain⟨st,vl,nf,g1,g2,g3,g4,g5,_,g7⟩:=gK hcf ops.toList 0 [] s s' rfl (by simp) h hwf
   have T:Trace P G cf ops st vl nf:=⟨fun k o ho=>g5 k o (a0C _) ho,g3,fun j k hjk hk=>g7 j k (a0C _) hjk hk,regOK_facts hq.1,fun k=>g4 k (a0C _)⟩
   refine wp_region_any hq.2 ?_
   rw[World.drew_eq]
   have I:=inv_start (a:=a) (w:=w.drew) (μ0:=μ) T (by rw[g1];exact ht) (by rw[g1];exact hw.drew) (by rw[g1,g2];exact hdom) (gg (Array.replicate ops.size false)) (fun k=>by
    unfold gg;simp[a0U,Array.getElem?_replicate];split<;>rfl)
   refine any_sound hcf T hG (fun S μ' a' w' hS I'=>?_) ops.size _ μ a w.drew (by simp) (cnt_le _) I
   obtain⟨hp,ht',hd'⟩:=inv_end T hS I'
   rw[g1,g2]at hp
   rw[g2]at ht'
   refine hQ μ' w' a' ((Post.drew hw).trans hp (a09 _) ?_) ht' hd'
   have:=T.monoL (a0C ops.size)
   rwa [g1,g2]at this
end
end Go.R
namespace Go.R
open Go.RowKit
def Ex.toExit:Ex->Exit
 | .normal=> .normal
 | .exit id=> .exit id
 | .ret=> .ret
def LoopWp(P:Program)(c:Code)(Q:Exit->Act->World->Prop)(a:Act)(w:World):Prop:=
 ∀(b:Frame) (k:List Item) (cs:List Frame),∃e a' w',Q e a' w'/\Arrives P (lone (b.at a (.code c:: .inLoop c::k)) cs w) b k cs e a' w'
theorem LoopWp.wp{P:Program}{c:Code}{Q:Exit->Act->World->Prop}{a:Act}{w:World}(h:LoopWp P c Q a w):(Code.loop c).wp P Q a w:=
 fun b k cs=>let⟨e,a',w',q,r⟩:=h b k cs;⟨e,a',w',q,.of_steps (.one step_loop) r⟩
theorem LoopWp.round{P:Program}{c:Code}{Q:Exit->Act->World->Prop}{a:Act}{w:World}(h:c.wp P (Exit.then (LoopWp P c Q) Q) a w):LoopWp P c Q a w:=by
 intro b k cs;obtain⟨e,a₁,w₁,hq,harr⟩:=h b (.inLoop c::k) cs;cases e with
 |normal=>
  obtain⟨e₂,a₂,w₂,hq₂,harr₂⟩:=hq b k cs
  exact⟨e₂,a₂,w₂,hq₂,.of_steps (Steps.trans harr (.one step_inLoop)) harr₂⟩
 |exit id=>exact⟨_,a₁,w₁,hq,.pass (x:= .inLoop c) rfl (fun _ _=> .inl (by simp)) harr⟩
 |goto l=>exact⟨_,a₁,w₁,hq,.pass (x:= .inLoop c) rfl (fun _ _=> .inl (by simp)) harr⟩
 |ret=>exact⟨_,a₁,w₁,hq,.pass (x:= .inLoop c) rfl (fun _ _=> .inl (by simp)) harr⟩
 |panic ch=>exact⟨_,a₁,w₁,hq,.pass (x:= .inLoop c) rfl (fun _ _=> .inl (by simp)) harr⟩
 |outgrown=>exact⟨_,a₁,w₁,hq,.pass (x:= .inLoop c) rfl (fun _ _=> .inl (by simp)) harr⟩
def Wp(P:Program)(c:Code)(Q:Exit->Act->World->Prop)(a:Act)(w:World):Prop:=
 match c with
 | .loop b=>LoopWp P b Q a w
 |c=>c.wp P Q a w
theorem Wp.wp{P:Program}{c:Code}{Q:Exit->Act->World->Prop}{a:Act}{w:World}(h:Wp P c Q a w):c.wp P Q a w:=by cases c<;>first|exact LoopWp.wp h|exact h
def After(μ:Emb)(s:St)(w:World)(e:Ex)(s':St):Exit->Act->World->Prop:=fun e2 a2 w2=>
 e2=e.toExit/\a2.defers=[]/\∃μ',Post μ s.heap w μ' s'.heap w2/\TRel μ' s'.tmps s'.size a2.tmps
def ExOK(P:Program)(G:Nat)(ex:Code->St->Option (Ex×St)):Prop:= ∀c s e s',ex c s=some (e,s')->WF s.heap->Ext s.heap s'.heap/\
 ∀μ a w,a.defers=[]->TRel μ s.tmps s.size a.tmps->GRel μ G->WRel μ s.heap w->(∀b,s.heap.next<=b->b<s'.heap.next->μ b=none)->Wp P c (After μ s w e s') a w
section
variable {P:Program} {G:Nat}
theorem kG{μ μ1:Emb}{H H1 H2:Heap}{w w1:World}(hp:Post μ H w μ1 H1 w1)(hle:H.next<=H1.next)(hf: ∀b,H.next<=b->b<H2.next->μ b=none): ∀b,H1.next<=b->b<H2.next->μ1 b=none:=by
 intro b h1 h2;cases hb:μ1 b with
 |none=>rfl
 |some l=>
  rcases hp.dom b l hb with h|⟨_,h⟩
  ·rw[hf b (a0c hle h1) h2]at h;cases h
  omega
theorem After.trans{μ μ1:Emb}{s s1 s2:St}{w w1:World}{e:Ex}(hp:Post μ s.heap w μ1 s1.heap w1)(h1:s.heap.next<=s1.heap.next)(h2:s1.heap.next<=s2.heap.next):
  ∀e2 a2 w2,After μ1 s1 w1 e s2 e2 a2 w2->After μ s w e s2 e2 a2 w2:=by
 rintro e2 a2 w2 ⟨he,hd,μ2,hp2,ht⟩
 exact⟨he,hd,μ2,hp.trans hp2 h1 h2,ht⟩
theorem region_ext{cf:cn}(hcf:dS P G cf){ops:Array Oper}{draw:Bool}{s s':St}(hw:WF s.heap)(h:bS P G cf ops draw s=some s'):Ext s.heap s'.heap:=by
 unfold bS at h;cases draw with
 |false=>exact ii hcf _ _ _ hw h
 |true=>
  simp only[cond_true]at h
  cases hq:(aQ ops&&P.follows .mixedOrders) with
  |false=>rw[hq]at h;cases h
  |true=>
   rw[hq]at h
   simp only[cond_true]at h
   have key: ∀(l:List Oper) (k:Nat) (fs:List (Nat×Inf)) (s s':St),WF s.heap->bn P G cf ops k fs l s=some s'->Ext s.heap s'.heap:=by
    intro l;induction l with
    |nil=>intro k fs s s' _ h;simp only[bn,a00]at h;subst h;exact Ext.refl _
    |cons o os ih=>
     intro k fs s s' hw h
     unfold bn at h
     split at h
     case h_2=>cases h
     rename_i s1 f h1
     cases hq:cb (cm ops) k f fs with
     |false=>rw[hq]at h;cases h
     |true=>
      rw[hq]at h
      simp only[cond_true]at h
      have e1:Ext s.heap s1.heap:=by
       unfold fX at h1;split at h1
       case h_2=>cases h1
       rename_i t hst;simp only[a00,a03]at h1;obtain⟨rfl,_⟩:=h1;have e0:=i8 hcf (s:={s with heap:={s.heap with log:=[]}}) hw hst;obtain⟨d,hd,hs⟩:=e0.log;refine⟨e0.next,⟨cY s.heap.next t.heap.log,rfl,fun b hb hn=>?_⟩,e0.far⟩;refine hs b hb fun hm=>hn (fy.2 ⟨?_,hb⟩)
       rw[hd,a0E];exact hm
      exact e1.trans (ih _ _ _ _ (hw.ext e1) h)
   exact key _ _ _ _ _ hw h
theorem execC_ok{rec_:Code->St->Option (Ex×St)}{cf:cn}(hrec:ExOK P G rec_)(hcf:dS P G cf):ExOK P G (ek P G rec_ cf):=by
 intro c;induction c with
 |skip=>
  intro s e s' h hw
  rw[kJ]at h
  simp only[a00,a03]at h
  obtain⟨rfl,rfl⟩:=h
  exact⟨Ext.refl _,fun μ a w hd ht hG hr _=>wp_skip ⟨rfl,hd,μ,Post.refl hr,ht⟩⟩
 |region id ops draw=>
  intro s e s' h hw
  rw[fC]at h
  unfold dJ at h
  split at h
  ·rename_i s1 h1;simp only[a00,a03]at h;obtain⟨rfl,rfl⟩:=h;refine⟨region_ext hcf hw h1,fun μ a w hd ht hG hr hf=>?_⟩;refine region_sound hcf h1 hw ht hG hr (fun b l hb=>?_) fun μ' w' a' hp ht' hd'=>⟨rfl,hd'.trans hd,μ',hp,ht'⟩
   rcases a0j b s.heap.next with h2|h2
   ·exact .inl h2
   right;rcases a0j b s1.heap.next with h3|h3
   ·rw[hf b h2 h3]at hb;cases hb
   exact h3
  cases h
 |seq x y ihx ihy=>
  intro s e s' h hw
  rw[jS]at h
  cases hx:ek P G rec_ cf x s with
  |none=>rw[hx]at h;cases h
  |some p=>
   obtain⟨e1,s1⟩:=p
   obtain⟨ext1,hwp1⟩:=ihx s e1 s1 hx hw
   rw[hx]at h
   cases e1 with
   |normal=>
    simp only[fD]at h
    obtain⟨ext2,hwp2⟩:=ihy s1 e s' h (hw.ext ext1)
    refine⟨ext1.trans ext2,fun μ a w hd ht hG hr hf=>wp_seq ?_⟩
    refine wp_mono (hwp1 μ a w hd ht hG hr (fun b h1 h2=>hf b h1 (a0V h2 ext2.next))).wp ?_
    rintro e2 a2 w2 ⟨rfl,hd2,μ2,hp2,ht2⟩
    exact wp_mono (hwp2 μ2 a2 w2 hd2 ht2 (hG.mono hp2.ext) hp2.wrel (kG hp2 ext1.next hf)).wp (After.trans hp2 ext1.next ext2.next)
   |exit i=>
    simp only[fD,a00,a03]at h
    obtain⟨rfl,rfl⟩:=h
    refine⟨ext1,fun μ a w hd ht hG hr hf=>wp_seq ?_⟩
    refine wp_mono (hwp1 μ a w hd ht hG hr hf).wp ?_
    rintro e2 a2 w2 ⟨rfl,hrest⟩
    exact⟨rfl,hrest⟩
   |ret=>
    simp only[fD,a00,a03]at h
    obtain⟨rfl,rfl⟩:=h
    refine⟨ext1,fun μ a w hd ht hG hr hf=>wp_seq ?_⟩
    refine wp_mono (hwp1 μ a w hd ht hG hr hf).wp ?_
    rintro e2 a2 w2 ⟨rfl,hrest⟩
    exact⟨rfl,hrest⟩
 |cond c x y ihx ihy=>
  intro s e s' h hw
  rw[iq]at h
  cases hq:bB G c with
  |false=>rw[hq]at h;cases h
  |true=>
   rw[hq]at h
   simp only[cond_true]at h
   unfold kM at h
   split at h
   ·rename_i t hv;have heval: ∀(μ:Emb) (a:Act),TRel μ s.tmps s.size a.tmps->GRel μ G->a.eval c= .bool t:=by
     intro μ a ht hG;have:=eval_of hG hq (tm:=s.tmps) (a:=a) fun k _=>ht.2 k
     rw[hv]at this;exact this.bool_inv
    cases t with
    |true=>
     obtain⟨ext1,hwp1⟩:=ihx s e s' h hw
     exact⟨ext1,fun μ a w hd ht hG hr hf=>wp_cond_true (heval μ a ht hG) (hwp1 μ a w hd ht hG hr hf).wp⟩
    |false=>
     obtain⟨ext1,hwp1⟩:=ihy s e s' h hw
     exact⟨ext1,fun μ a w hd ht hG hr hf=>wp_cond_false (heval μ a ht hG) (hwp1 μ a w hd ht hG hr hf).wp⟩
   cases h
 |block id x ih=>
  intro s e s' h hw
  rw[gx]at h
  cases hx:ek P G rec_ cf x s with
  |none=>rw[hx]at h;cases h
  |some p=>
   obtain⟨e1,s1⟩:=p
   obtain⟨ext1,hwp1⟩:=ih s e1 s1 hx hw
   rw[hx]at h
   cases e1 with
   |normal=>
    simp only[cQ,a00,a03]at h
    obtain⟨rfl,rfl⟩:=h
    refine⟨ext1,fun μ a w hd ht hG hr hf=>wp_block ?_⟩
    refine wp_mono (hwp1 μ a w hd ht hG hr hf).wp ?_
    rintro e2 a2 w2 ⟨rfl,hrest⟩
    exact⟨rfl,hrest⟩
   |exit i=>
    simp only[cQ]at h
    cases hb:Nat.beq i id with
    |true=>
     rw[hb]at h
     simp only[cond_true,a00,a03]at h
     obtain⟨rfl,rfl⟩:=h
     have hi:i=id:=a07 hb
     subst hi
     refine⟨ext1,fun μ a w hd ht hG hr hf=>wp_block ?_⟩
     refine wp_mono (hwp1 μ a w hd ht hG hr hf).wp ?_
     rintro e2 a2 w2 ⟨rfl,hrest⟩
     simp only[Ex.toExit,Exit.inBlock,if_true]
     exact⟨rfl,hrest⟩
    |false=>
     rw[hb]at h
     simp only[cond_false,a00,a03]at h
     obtain⟨rfl,rfl⟩:=h
     have hi: ¬i=id:=fun e=>by subst e;rw[a0Z]at hb;cases hb
     refine⟨ext1,fun μ a w hd ht hG hr hf=>wp_block ?_⟩
     refine wp_mono (hwp1 μ a w hd ht hG hr hf).wp ?_
     rintro e2 a2 w2 ⟨rfl,hrest⟩
     simp only[Ex.toExit,Exit.inBlock,hi,if_false]
     exact⟨rfl,hrest⟩
   |ret=>
    simp only[cQ,a00,a03]at h
    obtain⟨rfl,rfl⟩:=h
    refine⟨ext1,fun μ a w hd ht hG hr hf=>wp_block ?_⟩
    refine wp_mono (hwp1 μ a w hd ht hG hr hf).wp ?_
    rintro e2 a2 w2 ⟨rfl,hrest⟩
    exact⟨rfl,hrest⟩
 |loop x ih=>
  intro s e s' h hw
  rw[ip]at h
  cases hx:ek P G rec_ cf x s with
  |none=>rw[hx]at h;cases h
  |some p=>
   obtain⟨e1,s1⟩:=p
   obtain⟨ext1,hwp1⟩:=ih s e1 s1 hx hw
   rw[hx]at h
   cases e1 with
   |normal=>
    simp only[fD]at h
    obtain⟨ext2,hwp2⟩:=hrec (.loop x) s1 e s' h (hw.ext ext1)
    refine⟨ext1.trans ext2,fun μ a w hd ht hG hr hf=>LoopWp.round ?_⟩
    refine wp_mono (hwp1 μ a w hd ht hG hr (fun b h1 h2=>hf b h1 (a0V h2 ext2.next))).wp ?_
    rintro e2 a2 w2 ⟨rfl,hd2,μ2,hp2,ht2⟩
    have hl:LoopWp P x (After μ2 s1 w2 e s') a2 w2:=hwp2 μ2 a2 w2 hd2 ht2 (hG.mono hp2.ext) hp2.wrel (kG hp2 ext1.next hf)
    intro b k cs
    obtain⟨e3,a3,w3,q,r⟩:=hl b k cs
    exact⟨e3,a3,w3,After.trans hp2 ext1.next ext2.next _ _ _ q,r⟩
   |exit i=>
    simp only[fD,a00,a03]at h
    obtain⟨rfl,rfl⟩:=h
    refine⟨ext1,fun μ a w hd ht hG hr hf=>LoopWp.round ?_⟩
    refine wp_mono (hwp1 μ a w hd ht hG hr hf).wp ?_
    rintro e2 a2 w2 ⟨rfl,hrest⟩
    exact⟨rfl,hrest⟩
   |ret=>
    simp only[fD,a00,a03]at h
    obtain⟨rfl,rfl⟩:=h
    refine⟨ext1,fun μ a w hd ht hG hr hf=>LoopWp.round ?_⟩
    refine wp_mono (hwp1 μ a w hd ht hG hr hf).wp ?_
    rintro e2 a2 w2 ⟨rfl,hrest⟩
    exact⟨rfl,hrest⟩
 |exit id=>
  intro s e s' h hw
  rw[kK]at h
  simp only[a00,a03]at h
  obtain⟨rfl,rfl⟩:=h
  exact⟨Ext.refl _,fun μ a w hd ht hG hr _=>wp_exit ⟨rfl,hd,μ,Post.refl hr,ht⟩⟩
 |ret=>
  intro s e s' h hw
  rw[execC_ret]at h
  simp only[a00,a03]at h
  obtain⟨rfl,rfl⟩:=h
  exact⟨Ext.refl _,fun μ a w hd ht hG hr _=>wp_ret ⟨rfl,hd,μ,Post.refl hr,ht⟩⟩
 |rangeFunc f ps x y _ _=>intro s e s' h;cases h
 |scope x _=>intro s e s' h;cases h
 |label l=>intro s e s' h;cases h
 |goto l=>intro s e s' h;cases h
 |refuse m=>intro s e s' h;cases h
theorem gB: ∀(args:List Value) (i:Nat) (t:Tr Value) (k:Nat),cG (eC i args t) k=if i<=k/\k<i+args.length then args.getD (k-i) undef else cG t k
 | [],i,t,k=>by rw[if_neg (by simp only[a0i];omega)];rfl
 |v::l,i,t,k=>by
  simp only[eC];rw[gB l (i+1) _ k];by_cases h1:i+1<=k/\k<i+1+l.length
  ·rw[if_pos h1,if_pos (by simp only[a0a];omega),show k-i=(k-(i+1))+1 by omega];rfl
  rw[if_neg h1,fA];by_cases h2:i=k
  ·subst h2;rw[if_pos rfl,if_pos (by simp only[a0a];omega)];simp
  rw[if_neg h2,if_neg (by simp only[a0a];omega)]
theorem args_rel{μ:Emb}{args:List Value}{cargs:Array Value}(h:LRel μ args cargs.toList)(n:Nat):
  TRel μ (eC 0 args .nil) (Nat.max args.length n) (cargs++Array.replicate (n-cargs.size) undef):=by
 have hl:args.length=cargs.size:=by rw[h.1];simp
 refine⟨by simp only[Array.size_append,Array.size_replicate];rw[hl];show _=max _ _;omega,fun i=>?_⟩
 rw[gB]
 simp only[a0C,true_and,a1t,Nat.sub_zero,lget_nil,a0U,Array.getElem?_append]
 by_cases hi:i<args.length
 ·rw[if_pos hi,if_pos (by omega)];have h1:args[i]?=some args[i]:=a04 hi;obtain⟨v',hv',hr⟩:=h.get h1;have:cargs[i]?=some v':=by simpa using hv'
  rw[this,a01,h1];exact hr
 rw[if_neg hi,if_neg (by omega)]
 rw[Array.getElem?_replicate]
 split
 ·exact VRel.undef
 exact VRel.undef
theorem gk{μ:Emb}{s:St}{a:Array Value}{w:World}(ht:TRel μ s.tmps s.size a)(hw:WRel μ s.heap w): ∀(rs:List ResultVar) (l:List Value),cE P s rs=some l->
  ∃l',(rs.mapM (m:=Sem) fun| .tmp t=>Pure.pure (a.getD t undef)| .cell x t=>do loadVar t (←asAddr (a.getD x undef))).run P w= .ok l' w/\LRel μ l l'
 | [],l,h=>by simp only[cE,a00]at h;subst h;exact⟨[],by simp,.nil⟩
 | .tmp t::rs,l,h=>by
  unfold cE at h;split at h
  ·rename_i l1 h1;injection h with h;subst h;obtain⟨l',hrun,hr⟩:=gk ht hw rs l1 h1;exact⟨a.getD t undef::l',by simp only[List.mapM_cons,Sem.run_bind,Sem.run_pure,Result.andThen_ok,hrun],.cons (ht.2 t) hr⟩
  cases h
 | .cell x t::rs,l,h=>by
  unfold cE at h;split at h
  ·rename_i p hp;split at h
   ·rename_i v l1 hv h1;injection h with h;subst h;obtain⟨l',hrun,hr⟩:=gk ht hw rs l1 h1;have hx:=ht.2 x;rw[hp]at hx;obtain⟨b,o,sp⟩:=p;have hsp:sp=none:=hx.ptr_some.1;subst hsp;obtain⟨l0,hμ,hx'⟩:=hx.ptr_inv;obtain⟨v',hlv,hvr⟩:=gu (P:=P) hw hμ hv;exact⟨v'::l',by simp only[List.mapM_cons,Sem.run_bind,hx',show(asAddr (Value.pointer (some ⟨l0.c,l0.sh+o,none⟩))).run P w= .ok ⟨l0.c,l0.sh+o,none⟩ w from rfl,Sem.run_pure,Result.andThen_ok,hlv,hrun],.cons hvr hr⟩
   cases h
  cases h
theorem result_rel{μ:Emb}{l l':List Value}(h:LRel μ l l'):VRel μ (d4 l) (if h:l'.toArray.size=1 then l'.toArray[0] else .tuple l'.toArray):=by
 match l,l',h with
 | [],l',h=>
  have:=h.nil_left
  subst this
  exact .tuple _ _ rfl (fun i v v' h=>by simp at h)
 | [v],l',h=>
  obtain⟨v',t,rfl,hv,ht⟩:=h.cons_left
  have:=ht.nil_left
  subst this
  exact hv
 |v::u::r,l',h=>
  obtain⟨v',t,rfl,hv,ht⟩:=h.cons_left
  obtain⟨u',t2,rfl,hu,ht2⟩:=ht.cons_left
  simp only[List.size_toArray,a0a,show ¬(t2.length+1+1=1) by omega,dite_false]
  have:=LRel.cons hv (LRel.cons hu ht2)
  exact .tuple _ _ (by simpa[d4] using this.1) (by simpa[d4] using this.2)
theorem lu{μ:Emb}{s:St}{fn:Func}{a:Array Value}{w:World}(ht:TRel μ s.tmps s.size a)(hw:WRel μ s.heap w){l:List Value}(h:cE P s fn.results.toList=some l):
  ∃v',(results fn a).run P w= .ok v' w/\VRel μ (d4 l) v':=by
 obtain⟨l',hrun,hr⟩:=gk (P:=P) ht hw _ l h
 refine⟨_,?_,result_rel hr⟩
 unfold results
 rw[Array.mapM_eq_mapM_toList]
 simp only[Sem.run_bind,Sem.run_map]
 have e: ∀(r:Result (List Value)),r= .ok l' w->((r.andThen fun a w'=>(.ok a.toArray w':Result (Array Value))).andThen fun vs w'=>((Pure.pure (if h:vs.size=1 then vs[0] else Value.tuple vs):Sem Value).run P w'))=
   .ok (if h:l'.toArray.size=1 then l'.toArray[0] else .tuple l'.toArray) w:=by
  intro r hr;subst hr;rfl
 exact e _ hrun
theorem callC_ok{ex:Code->St->Option (Ex×St)}(hex:ExOK P G ex):dS P G (lK P ex):=by
 intro f args H v H' h hwf;unfold lK at h;split at h
 case h_2=>cases h
 rename_i fn hfn;split at h
 case h_2=>cases h
 rename_i c hc;have fin: ∀e s,(e=Ex.normal\/e=Ex.ret)->ex c {tmps:=eC 0 args .nil,size:=Nat.max args.length fn.ntmps,heap:=H}=some (e,s)->
   (match cE P s fn.results.toList with|some l=>some (d4 l,s.heap)|none=>none)=some (v,H')->Ext H H'/\
   ∀μ w (cargs:Array Value),LRel μ args cargs.toList->GRel μ G->WRel μ H w->(∀b,H.next<=b->b<H'.next->μ b=none)->
    Calls P f cargs w fun e w'=> ∃μ' v',e= .returned v'/\VRel μ' v v'/\Post μ H w μ' H' w':=by
  intro e s he hx hres
  split at hres
  ·rename_i l hl;simp only[a00,a03]at hres;obtain⟨rfl,rfl⟩:=hres;obtain⟨ext,hwp⟩:=hex c _ e s hx hwf;refine⟨ext,fun μ w cargs ha hG hw hf=>?_⟩;refine calls_of_wp hfn hc ?_;refine wp_mono (hwp μ {tmps:=cargs++Array.replicate (fn.ntmps-cargs.size) undef,defers:=[]} w rfl (args_rel ha fn.ntmps) hG hw hf).wp ?_;rintro e2 a2 w2 ⟨rfl,hd,μ',hp,ht⟩;obtain⟨v',hrun,hr⟩:=lu (P:=P) (fn:=fn) ht hp.wrel hl;rcases he with rfl|rfl
   ·exact⟨hd,v',hrun,μ',v',rfl,hr,hp⟩
   exact⟨hd,v',hrun,μ',v',rfl,hr,hp⟩
  cases hres
 split at h
 ·rename_i s hx;exact fin .normal s (.inl rfl) hx h
 ·rename_i s hx;exact fin .ret s (.inr rfl) hx h
 cases h
def KnownOK(P:Program)(G:Nat)(K:bN):Prop:= ∀f args H v,K f args H=some v->args.all noA2=true/\noA2 v=true/\∀(μ:Emb) (cargs:Array Value) (w:World),cargs.toList=args->GRel μ G->WRel μ H w->
 Calls P f cargs w fun e w'=>e= .returned v/\Below w.heap.size w w'
theorem LRel.eq2{μ:Emb}{l l':List Value}(h:LRel μ l l')(h0:l.all noA2=true):l'=l:=by
 induction l generalizing l' with
 |nil=>exact h.nil_left
 |cons v l ih=>
  obtain⟨v',t',rfl,hv,ht⟩:=h.cons_left
  simp only[a1i,a0d]at h0
  rw[hv.eq2 h0.1,ih ht h0.2]
theorem callK_ok{K:bN}{cf:cn}(hK:KnownOK P G K)(hcf:dS P G cf):dS P G (ka K cf):=by
 intro f args H v H' h hwf;unfold ka at h;split at h
 ·rename_i u hu;simp only[a00,a03]at h;obtain⟨rfl,rfl⟩:=h;obtain⟨h1,h2,h3⟩:=hK f args H u hu;refine⟨Ext.refl _,fun μ w cargs ha hG hw hf=>?_⟩;refine(h3 μ cargs w (ha.eq2 h1) hG hw).mono ?_;rintro e w' ⟨rfl,hb⟩;refine⟨μ,u,rfl,VRel.refl2 h2,⟨fun _ _ h=>h,fun _ _ h=> .inl h,hb.size,hb.os,hb.tape,hb.output,fun c hc _=>hb.block c hc,fun b l o h4 h5 h6=> .inr ⟨b,l,o,h4,h5,h6,id,rfl⟩,⟨fun b l o h4 h5=>?_,hw.inj⟩⟩⟩;have hr:=hw.obj b l o h4 h5;exact hr.keep (fun _ _ h=>h) hb.size (fun hlv=>hb.block l.c (hr.lt hlv))
 exact hcf f args H v H' h hwf
theorem exec_ok{K:bN}(hK:KnownOK P G K): ∀n,ExOK P G (kL P G K n)
 |0=>fun c s e s' h=>by cases h
 |n+1=>execC_ok (exec_ok hK n) (callK_ok hK (callC_ok (exec_ok hK n)))
theorem call_ok{K:bN}(hK:KnownOK P G K)(n:Nat):dS P G (call P G K n):=callK_ok hK (callC_ok (exec_ok hK n))
theorem none_ok:KnownOK P G noneKnown:=fun f args H v h=>by cases h
end
end Go.R
namespace Go.R
open Go.RowKit
open Go.WideShapes Go.ChangeShapes in
theorem lw{H:Type}{enc:TypeId×Value->H}{P:Program}{f:Func}{s:ChangeSpec}{apart fresh handsOn again:Bool}{W W':World}{args:Array Value}{v:Value}{ds gs:List (DataW H)}{before pa pv:List MemPlace}
  (hW:DataW.Whole enc P f.params.toList s.vars apart W args.toList ds gs before)
  (hres: ∀(b:Nat) (sp:Nat->Bool) (hd:Bool),DataW.TrodAll enc P W' b sp hd f.resultTypes.toList (v.resultList f.resultTypes.size) (s.fn H (ds++gs)).results [])
  (hargs: ∀sp:Nat->Bool,(∀p∈before,sp p.block=true)->DataW.TrodAll enc P W' 0 sp true f.params.toList args.toList (s.fn H (ds++gs)).args pa)
  (hvars: ∀sp:Nat->Bool,(∀p∈before,sp p.block=true)->DataW.TrodVars enc P W' sp s.vars (s.fn H (ds++gs)).vars pv)
  (hps:before=pa++pv) (hb:Below W.heap.size W W')
  (hok: ∀(j:Nat) (t:TypeId) (r:Value),f.resultTypes[j]?=some t->(v.resultList f.resultTypes.size)[j]?=some r->Value.okWide P W' .any 0 t r):
  s.post enc P f apart fresh handsOn again W args v W':=by
 have hold: ∀p∈before,(fun b=>decide (b<W.heap.size)) p.block=true:=fun p hp=>by simpa using hW.lt p hp
 have hlt: ∀p∈before,p.block<W.heap.size:=fun p hp=>by simpa using hW.lt p hp
 refine⟨ds,gs,before,[],pa,pv,hW,hres _ _ _,hargs _ hold,hvars _ hold,World.keptBut_mono (fun p hp=>⟨hp,?_⟩) (hb.frame (· ∈before)),fun _=>?_⟩
 ·rw[hps,a08]at hp;exact Or.inr hp
 obtain⟨_,_,_,_,_,hz,hn⟩:=hW
 refine⟨hok,_,_,([]++pa)++pv,⟨[]++pa,pv,trodAll_append (hargs _ (fun _ _=>rfl)) (hres _ _ _),hvars _ (fun _ _=>rfl),rfl,?_,?_⟩,?_⟩
 ·intro b off hp;have hp':MemPlace.cell b off∈before:=by rw[hps];simpa using hp
  have h1:=hb.frozen (p:=⟨b,off,none⟩) (hlt _ hp');have h2:=hz b off hp';first|(rw[h1];exact h2)|(exact h1.trans h2)|(simp_all)
 ·intro ha;have:=hn ha;rw[hps]at this;simpa using this
 intro p hp _
 rw[hps]
 simpa using hp
end Go.R
noncomputable section
namespace Go.R
open Go.RowKit
section
variable {P:Program} {w:World} {base:Nat} {held:Bool} {enc:TypeId×Value->Unit}
def lit1(P:Program)(t:TypeId)(d:DataW Unit):Option Value:=
 match P.underlying t,d with
 |some .bool,.lit (.bool b)=>some (.bool b)
 |some (.int k),.lit (.int _ n)=>some (.int k n)
 |some .string,.lit (.string l)=>some (.string ⟨⟨l⟩⟩)
 |_,_=>none
theorem cells_lit1{spare:Nat->Bool}{fuel:Nat}{t:TypeId}{cs:List Value}{d:DataW Unit}{p:List MemPlace}{v:Value}(h:DataW.trod enc P w base spare held fuel t cs=some (d,p))(hv:lit1 P t d=some v):cs=[v]:=by
 unfold lit1 at hv;split at hv
 ·rename_i ht;obtain⟨b,rfl,hx⟩:=DataW.trod_bool ht h;simp only[a03,DataW.lit.injEq,Lit.bool.injEq]at hx;injection hv with hv;subst hv;rw[hx.1]
 ·rename_i ht;obtain⟨n,rfl,hx,_⟩:=DataW.trod_int ht h;simp only[a03,DataW.lit.injEq,Lit.int.injEq]at hx;injection hv with hv;subst hv;rw[hx.1.2]
 ·rename_i ht;obtain⟨s,rfl,hx,_⟩:=DataW.trod_string ht h;simp only[a03,DataW.lit.injEq,Lit.string.injEq]at hx;injection hv with hv;subst hv;rw[hx.1]
 cases hv
def flatFs(P:Program):Nat->List Field->Bool
 |_,[]=>true
 |i,f::fs=>Nat.beq f.offset i&&Nat.beq (P.cellsOf f.type) 1&&flatFs P (i+1) fs
theorem flatFs_at: ∀(fs:List Field) (i j:Nat) (f:Field),flatFs P i fs=true->fs[j]?=some f->f.offset=i+j/\P.cellsOf f.type=1
 | [],_,_,_,_,h=>by simp at h
 |g::fs,i,0,f,h,hf=>by simp only[flatFs,a0d]at h;simp only[a0X,a00]at hf;subst hf;exact⟨a07 h.1.1,a07 h.1.2⟩
 |g::fs,i,j+1,f,h,hf=>by simp only[flatFs,a0d]at h;have:=flatFs_at fs (i+1) j f h.2 (by simpa using hf);exact⟨by omega,this.2⟩
def litFs(P:Program):List Field->List (DataW Unit)->Option (List Value)
 | [],[]=>some []
 |f::fs,d::ds=>
  match lit1 P f.type d,litFs P fs ds with
  |some v,some l=>some (v::l)
  |_,_=>none
 |_,_=>none
theorem lC: ∀(fs:List Field) (ds:List (DataW Unit)) (l:List Value),litFs P fs ds=some l->l.length=fs.length/\ds.length=fs.length/\∀(i:Nat) f d,fs[i]?=some f->ds[i]?=some d->∃v,l[i]?=some v/\lit1 P f.type d=some v
 | [],[],l,h=>by simp only[litFs,a00]at h;subst h;exact⟨rfl,rfl,fun i f d h=>by simp at h⟩
 | [],_::_,l,h=>by cases h
 |_::_,[],l,h=>by cases h
 |f::fs,d::ds,l,h=>by
  simp only[litFs]at h;split at h
  ·rename_i v l1 hv hl;injection h with h;subst h;obtain⟨h1,h2,h3⟩:=lC fs ds l1 hl;refine⟨by simp[h1],by simp[h2],fun i g e hg he=>?_⟩;cases i with
   |zero=>simp only[a0X,a00]at hg he;subst hg he;exact⟨v,rfl,hv⟩
   |succ i=>exact h3 i g e (by simpa using hg) (by simpa using he)
  cases h
theorem cells_struct{spare:Nat->Bool}{fuel:Nat}{t:TypeId}{fs:Array Field}{cs:List Value}{ds:List (DataW Unit)}{p:List MemPlace}{vs:List Value}(ht:P.underlying t=some (.struct fs))(hfl:flatFs P 0 fs.toList=true)(hc:P.cellsOf t=fs.size)
  (h:DataW.trod enc P w base spare held fuel t cs=some (.agg ds,p)) (hv:litFs P fs.toList ds=some vs):cs=vs:=by
 obtain⟨xs,n,_,hx,hlen,hxl,hall⟩:=DataW.trod_struct ht h
 simp only[a03,DataW.agg.injEq]at hx
 obtain⟨h1,h2,h3⟩:=lC _ _ _ hv
 have hfl':=h1
 apply a1A
 intro i
 by_cases hi:i<fs.size
 ·have hf:fs[i]?=some fs[i]:=a0I hi;have hf':fs.toList[i]?=some fs[i]:=by simp[hf]
  obtain⟨ho,hc1⟩:=flatFs_at _ 0 i _ hfl hf';have hr:=hall i _ hf;have hxi:xs[i]?=some (xs[i]'(by omega)):=a04 (by omega);have hdi:ds[i]?=some (xs[i]'(by omega)).1:=by rw[hx.1];simp[hxi]
  obtain⟨v,hvi,hl1⟩:=h3 i _ _ hf' hdi;rw[hxi]at hr;have hcs:=cells_lit1 (p:=(xs[i]'(by omega)).2) hr hl1;rw[hvi];have e1:((cs.drop fs[i].offset).take (P.cellsOf fs[i].type))[0]?=some v:=by rw[hcs];rfl
  rw[hc1,ho,a0y,if_pos (by omega),a0J]at e1;simpa using e1
 rw[a0Q (by rw[hlen,hc];omega),a0Q (by rw[h1];simpa using hi)]
def litRows(P:Program)(fs:List Field):List (DataW Unit)->Option (List (List Value))
 | []=>some []
 | .agg ds::r=>
  match litFs P fs ds,litRows P fs r with
  |some l,some m=>some (l::m)
  |_,_=>none
 |_::_=>none
theorem kC{fs:List Field}: ∀(ds:List (DataW Unit)) (m:List (List Value)),litRows P fs ds=some m->m.length=ds.length/\∀(i:Nat) l,m[i]?=some l->∃es,ds[i]?=some (.agg es)/\litFs P fs es=some l
 | [],m,h=>by simp only[litRows,a00]at h;subst h;exact⟨rfl,fun i l h=>by simp at h⟩
 |d::r,m,h=>by
  cases d<;>first|(cases h;done)|skip
  rename_i es;simp only[litRows]at h;split at h
  ·rename_i l m1 hl hm;injection h with h;subst h;obtain⟨h1,h2⟩:=kC r m1 hm;refine⟨by simp[h1],fun i l' hl'=>?_⟩;cases i with
   |zero=>simp only[a0X,a00]at hl';subst hl';exact⟨es,rfl,hl⟩
   |succ i=>exact h2 i l' (by simpa using hl')
  cases h
theorem cells?_at{a:Addr}: ∀{n:Nat} {l:List Value},w.cells? base a n=some l->∀i,i<n->l[i]?=w.cell? (a.add i)/\(w.cell? (a.add i)).isSome:=by
 intro n l h i hi;unfold World.cells? at h;split at h
 ·have key: ∀(r:List Nat) (l:List Value),r.mapM (fun i=>w.cell? (a.add i))=some l->∀(j:Nat) k,r[j]?=some k->l[j]?=w.cell? (a.add k)/\(w.cell? (a.add k)).isSome:=by
   intro r;induction r with
   |nil=>intro l _ j k hj;simp at hj
   |cons x r ih=>
    intro l hl j k hj
    simp only[List.mapM_cons,Option.bind_eq_bind,Option.bind_eq_some_iff]at hl
    obtain⟨v,hv,m,hm,hl⟩:=hl
    cases hl
    cases j with
    |zero=>simp only[a0X,a00]at hj;subst hj;exact⟨by rw[hv];rfl,by rw[hv];rfl⟩
    |succ j=>exact ih m hm j k (by simpa using hj)
  exact key _ _ h i i (by rw[List.getElem?_range hi])
 cases h
theorem kI(k:Nat)(hk:0<k): ∀(m:List (List Value)),(∀l∈m,l.length=k)->∀(i:Nat) v,m.flatten[i]?=some v->∃l,m[i/k]?=some l/\l[i%k]?=some v
 | [],_,i,v,h=>by simp at h
 |l::m,hm,i,v,h=>by
  have hl:=hm l (a0p ..);rw[a0L]at h;by_cases hi:i<k
  ·rw[a0S (by omega)]at h;exact⟨l,by rw[Nat.div_eq_of_lt hi];rfl,by rw[Nat.mod_eq_of_lt hi];exact h⟩
  rw[a17 (by omega),hl]at h;obtain⟨l',h1,h2⟩:=kI k hk m (fun x hx=>hm x (a0g _ hx)) (i-k) v h;have e1:i/k=(i-k)/k+1:=by rw[Nat.div_eq_sub_div hk (by omega)]
  have e2:i%k=(i-k)%k:=by rw[Nat.mod_eq_sub_mod (by omega)]
  exact⟨l',by rw[e1];exact h1,by rw[e2];exact h2⟩
theorem cells_table{fuel:Nat}{t e:TypeId}{fs:Array Field}{cs:List Value}{ds:List (DataW Unit)}{p:List MemPlace}{m:List (List Value)}(ht:P.underlying t=some (.slice e))(he:P.underlying e=some (.struct fs))(hfl:flatFs P 0 fs.toList=true)
  (hc:P.cellsOf e=fs.size) (hfs:0<fs.size) (hds:0<ds.length) (h:DataW.trod enc P w base (fun _=>true) held fuel t cs=some (.slice ds [],p)) (hv:litRows P fs.toList ds=some m):
  ∃c o,cs=[.slice (some ⟨c,o,none⟩) ds.length ds.length]/\∀i v,m.flatten[i]?=some v->w.cell? ⟨c,o+i,none⟩=some v:=by
 rcases DataW.trod_slice ht h with⟨_,hx⟩|⟨a,len,cap,elems,rest,n,_,hcs,hx,_,hl,_,hlen,hel,hsp,_⟩
 ·simp at hx
 simp only[a03,DataW.slice.injEq]at hx
 obtain⟨⟨hd,hr⟩,_⟩:=hx
 have hr':rest.length=0:=by have:=congrArg List.length hr;simpa using this.symm
 have hcap:=(hsp rfl).1
 have hdl:ds.length=len:=by rw[hd];simpa using hlen
 have hck:cap=len:=by omega
 subst hck
 obtain⟨hm1,hm2⟩:=kC _ _ hv
 obtain⟨c,o,sp⟩:=a
 have cell: ∀j,j<cap->∃l,m[j]?=some l/\l.length=fs.size/\∀q,q<fs.size->w.cell? ((Addr.mk c o sp).add (j*fs.size)|>.add q)=l[q]?/\(w.cell? ((Addr.mk c o sp).add (j*fs.size)|>.add q)).isSome:=by
  intro j hj;have hml:m[j]?=some (m[j]'(by omega)):=a04 (by omega);obtain⟨es,he1,he2⟩:=hm2 j _ hml;have hE:=hel j hj;rw[hc]at hE;have hy:elems[j]?=some (elems[j]'(by omega)):=a04 (by omega);rw[hy]at hE;simp only[Option.bind_eq_some_iff]at hE;obtain⟨c1,hc1,hy1⟩:=hE;have hdj:(elems[j]'(by omega)).1= .agg es:=by
   have e0:ds[j]?=some (elems[j]'(by omega)).1:=by rw[show ds[j]?=(List.map (fun x=>x.fst) elems)[j]? from by rw[←hd],a1g,hy];rfl
   rw[he1]at e0;exact(Option.some.inj e0).symm
  have hrow:=cells_struct (p:=(elems[j]'(by omega)).2) he hfl hc (by rw[hy1,←hdj]) he2;subst hrow;refine⟨_,hml,(lC _ _ _ he2).1.trans (by simp),fun q hq=>?_⟩;have:=cells?_at hc1 q hq;exact⟨this.1.symm,this.2⟩
 have hsp0:sp=none:=by
  obtain⟨l,_,_,h3⟩:=cell 0 (by omega);have:=(h3 0 hfs).2;cases sp with
  |none=>rfl
  |some z=>
   exfalso
   simp only[Addr.add,World.cell?,if_true]at this
   split at this<;>simp at this
 subst hsp0
 refine⟨c,o,by rw[hcs,hdl],fun i v hiv=>?_⟩
 have hall: ∀l∈m,l.length=fs.size:=by intro l hl;obtain⟨j,hj,rfl⟩:=a0A.1 hl;obtain⟨l',h1,h2,_⟩:=cell j (by omega);rw[a04 hj]at h1;rw[Option.some.inj h1];exact h2
 obtain⟨l,h1,h2⟩:=kI fs.size hfs m hall i v hiv
 have hj:i/fs.size<cap:=by have:=(a0u.1 h1).1;omega
 obtain⟨l',h3,h4,h5⟩:=cell _ hj
 rw[h1]at h3
 obtain rfl:=Option.some.inj h3
 have h6:=(h5 (i%fs.size) (Nat.mod_lt _ hfs)).1
 rw[h2]at h6
 have e:o+i/fs.size*fs.size+i%fs.size=o+i:=by rw[a1s,Nat.mul_comm,Nat.div_add_mod]
 have ad: ∀x k:Nat,(Addr.mk c x none).add k=⟨c,x+k,none⟩:=by
  intro x k;unfold Addr.add;by_cases hk:k=0
  ·subst hk;rfl
  simp[hk]
 rw[ad,ad,e]at h6
 exact h6
end
theorem cw(n:Nat)(cells:List Value)(b:Nat):(tabHeap n cells).get b=if b=1 then some (.cells cells none true) else if b=0 then some (.cells [.slice (some ⟨1,0,none⟩) n n] none true) else none:=by
 show((Tr.nil.set 0 _).set 1 _).get b=_;by_cases h1:b=1
 ·subst h1;rw[if_pos rfl,Tr.get_set_same]
 rw[if_neg h1,Tr.get_set_ne _ _ (Ne.symm h1)];by_cases h0:b=0
 ·subst h0;rw[if_pos rfl,Tr.get_set_same]
 rw[if_neg h0,Tr.get_set_ne _ _ (Ne.symm h0)];rfl
theorem ble_pos(n:Nat)(h:Nat.ble 1 n=true):0<n:=a06 h
theorem iW{P:Program}{K:bN}(hK:KnownOK P 1 K){n m:Nat}{f:FuncId}{cells:List Value}(h:saysTrue (call P 1 K n f [] (tabHeap m cells))=true)(hat:cells.all noA0=true){w:World}{c o:Nat}
  (h0:w.cell? ⟨0,0,none⟩=some (.slice (some ⟨c,o,none⟩) m m)) (hne:cells≠ []) (h1: ∀i v,cells[i]?=some v->w.cell? ⟨c,o+i,none⟩=some v):
  Calls P f #[] w fun e w'=>e= .returned (.bool true)/\Below w.heap.size w w':=by
 have hlt: ∀{a:Addr} {v:Value},w.cell? a=some v->a.block<w.heap.size:=by
  intro a v hv;unfold World.cell? at hv;split at hv
  ·rename_i heq;exact(a0D.1 heq).1
  cases hv
 revert h
 cases hcl:call P 1 K n f [] (tabHeap m cells) with
 |none=>intro h;cases h
 |some r=>
  obtain⟨v,H'⟩:=r
  intro h
  have hv:v= .bool true:=by
   unfold saysTrue at h;split at h
   ·rename_i heq;simp only[a00,a03]at heq;exact heq.1
   cases h
  subst hv
  have hwf:WF (tabHeap m cells):=fun b hb=>by have hb':2<=b:=hb;rw[cw,if_neg (by omega),if_neg (by omega)]
  obtain⟨_,hcall⟩:=call_ok (G:=1) hK n f [] (tabHeap m cells) (.bool true) H' hcl hwf
  let μ:Emb:=fun b=>if b=1 then some ⟨c,o,none,0⟩ else if b=0 then some ⟨0,0,none,0⟩ else none
  have hro: ∀b x,(tabHeap m cells).get b=some x->x.rw=false:=by
   intro b x hx;rw[cw]at hx;split at hx
   ·injection hx with hx;subst hx;rfl
   split at hx
   ·injection hx with hx;subst hx;rfl
   cases hx
  have hrel:WRel μ (tabHeap m cells) w:=by
   refine⟨fun b l x hb hx=>?_,fun b1 b2 l1 l2 o1 o2 _ _ _ h3 _ h5 _=>?_⟩
   ·rw[cw]at hx;by_cases e1:b=1
    ·subst e1;rw[if_pos rfl]at hx;injection hx with hx;subst hx;have hb':l=⟨c,o,none,0⟩:=(Option.some.inj hb).symm;subst hb';refine⟨rfl,rfl,?_,fun i v hv=>⟨v,h1 i v hv,.atom v (a0w.1 hat v (a0k hv))⟩⟩;cases cells with
     |nil=>exact absurd rfl hne
     |cons v r=>exact hlt (h1 0 v rfl)
    rw[if_neg e1]at hx;by_cases e0:b=0
    ·subst e0;rw[if_pos rfl]at hx;injection hx with hx;subst hx;have hb':l=⟨0,0,none,0⟩:=(Option.some.inj hb).symm;subst hb';refine⟨rfl,rfl,hlt h0,fun i v hv=>?_⟩;cases i with
     |zero=>
      simp only[a0X,a00]at hv;subst hv
      exact⟨_,h0,.sliceC 1 0 m m ⟨c,o,none,0⟩ rfl rfl⟩
     |succ i=>simp at hv
    rw[if_neg e0]at hx;cases hx
   rw[hro b1 o1 h3]at h5;cases h5
  refine(hcall μ w #[] LRel.nil (fun g hg=>?_) hrel (fun b hb _=>?_)).mono ?_
  ·have:g=0:=by omega
   subst this;exact⟨⟨0,0,none,0⟩,rfl,rfl,rfl⟩
  ·have hb':2<=b:=hb;show(if b=1 then _ else if b=0 then _ else none)=none;rw[if_neg (by omega),if_neg (by omega)]
  rintro e w' ⟨μ',v',rfl,hr,hp⟩
  rw[hr.eq2 rfl]
  refine⟨rfl,hp.os,hp.tape,hp.out,hp.grow,fun k hk=>hp.keep k hk fun b l x _ hx hrw=>?_⟩
  rw[hro b x hx]at hrw;cases hrw
end Go.R
end
namespace Go.R
def CfLe(cf cf':cn):Prop:= ∀f a H r,cf f a H=some r->cf' f a H=some r
def ExLe(ex ex':Code->St->Option (Ex×St)):Prop:= ∀c s r,ex c s=some r->ex' c s=some r
section
variable {P:Program} {G:Nat} {cf cf':cn} {ops:Array Oper}
theorem step_mono(h:CfLe cf cf'){o:Oper}{s s':St}(hs:step P G cf ops o s=some s'):step P G cf' ops o s=some s':=by
 unfold step at hs⊢;cases hw:bf ops o s.tmps with
 |false=>rw[hw]at hs;exact hs
 |true=>
  rw[hw]at hs
  cases hq:o.op.operands.toList.all (bB G) with
  |false=>rw[hq]at hs;cases hs
  |true=>
   rw[hq]at hs
   simp only[cond_true]at hs⊢
   split at hs
   ·exact hs
   ·exact hs
   ·split at hs
    ·rename_i v H2 hc;rw[h _ _ _ _ hc];exact hs
    cases hs
   cases hs
theorem gi(h:CfLe cf cf'): ∀(l:List Oper) (s s':St),fl P G cf ops l s=some s'->fl P G cf' ops l s=some s'
 | [],_,_,hs=>hs
 |o::l,s,s',hs=>by
  rw[bZ]at hs⊢;split at hs
  ·rename_i t ht;rw[step_mono h ht];exact gi h l _ _ hs
  cases hs
theorem stepD_mono(h:CfLe cf cf'){o:Oper}{s:St}{r:St×Inf}(hs:fX P G cf ops o s=some r):fX P G cf' ops o s=some r:=by
 unfold fX at hs⊢;split at hs
 ·rename_i t ht;rw[step_mono h ht];exact hs
 cases hs
theorem dL(h:CfLe cf cf'): ∀(l:List Oper) (i:Nat) (fs:List (Nat×Inf)) (s s':St),bn P G cf ops i fs l s=some s'->bn P G cf' ops i fs l s=some s'
 | [],_,_,_,_,hs=>by unfold bn at hs⊢;exact hs
 |o::l,i,fs,s,s',hs=>by
  unfold bn at hs⊢;split at hs
  ·rename_i t f ht;rw[stepD_mono h ht];simp only;cases hq:cb (cm ops) i f fs with
   |false=>rw[hq]at hs;cases hs
   |true=>rw[hq]at hs;simp only[cond_true]at hs⊢;exact dL h l _ _ _ _ hs
  cases hs
theorem j8(h:CfLe cf cf'){draw:Bool}{s s':St}(hs:bS P G cf ops draw s=some s'):bS P G cf' ops draw s=some s':=by
 unfold bS at hs⊢;cases draw with
 |false=>exact gi h _ _ _ hs
 |true=>
  simp only[cond_true]at hs⊢
  cases hq:aQ ops&&P.follows .mixedOrders with
  |false=>rw[hq]at hs;cases hs
  |true=>rw[hq]at hs;simp only[cond_true]at hs⊢;exact dL h _ _ _ _ _ hs
theorem fQ{r r':Option (Ex×St)}{k k':St->Option (Ex×St)}(hr: ∀x,r=some x->r'=some x)(hk: ∀s x,k s=some x->k' s=some x){x:Ex×St}(h:fD r k=some x):fD r' k'=some x:=by
 cases hq:r with
 |none=>rw[hq]at h;cases h
 |some y=>
  rw[hr y hq]
  rw[hq]at h
  obtain⟨e,s⟩:=y
  cases e with
  |normal=>exact hk _ _ h
  |exit i=>exact h
  |ret=>exact h
theorem iL{id:Nat}{r r':Option (Ex×St)}(hr: ∀x,r=some x->r'=some x){x:Ex×St}(h:cQ id r=some x):cQ id r'=some x:=by
 cases hq:r with
 |none=>rw[hq]at h;cases h
 |some y=>rw[hr y hq];rw[hq]at h;exact h
theorem execC_mono(h:CfLe cf cf'){ex ex':Code->St->Option (Ex×St)}(hex:ExLe ex ex')(c:Code): ∀(s:St) (x:Ex×St),ek P G ex cf c s=some x->ek P G ex' cf' c s=some x:=by
 induction c with
 |skip=>intro s x hx;exact hx
 |region id ops draw=>
  intro s x hx
  rw[fC]at hx⊢
  cases hq:bS P G cf ops draw s with
  |none=>rw[hq]at hx;cases hx
  |some t=>rw[j8 h hq];rw[hq]at hx;exact hx
 |seq a b iha ihb=>
  intro s x hx
  rw[jS]at hx⊢
  exact fQ (iha s) ihb hx
 |cond c t e iht ihe=>
  intro s x hx
  rw[iq]at hx⊢
  cases hq:bB G c with
  |false=>rw[hq]at hx;cases hx
  |true=>
   rw[hq]at hx
   simp only[cond_true]at hx⊢
   unfold kM at hx⊢
   split at hx
   ·rename_i b hb;cases b with
    |true=>exact iht s x hx
    |false=>exact ihe s x hx
   cases hx
 |block id b ih=>
  intro s x hx
  rw[gx]at hx⊢
  exact iL (ih s) hx
 |loop b ih=>
  intro s x hx
  rw[ip]at hx⊢
  exact fQ (ih s) (hex _) hx
 |exit id=>intro s x hx;exact hx
 |ret=>intro s x hx;exact hx
 |_=>intro s x hx;cases hx
theorem kS{ex ex':Code->St->Option (Ex×St)}(hex:ExLe ex ex'):CfLe (lK P ex) (lK P ex'):=by
 intro f a H r h;unfold lK at h⊢;split at h
 ·split at h
  ·split at h
   ·rename_i s hx;rw[hex _ _ _ hx];exact h
   ·rename_i s hx;rw[hex _ _ _ hx];exact h
   cases h
  cases h
 cases h
theorem kR{K:bN}(h:CfLe cf cf'):CfLe (ka K cf) (ka K cf'):=by
 intro f a H r hr;unfold ka at hr⊢;split at hr
 ·exact hr
 exact h _ _ _ _ hr
theorem gW{K:bN}: ∀n,ExLe (kL P G K n) (kL P G K (n+1))
 |0=>fun c s r h=>by cases h
 |n+1=>fun c s r h=>execC_mono (kR (kS (gW n))) (gW n) c s r h
theorem gX{K:bN}{n m:Nat}(h:n<=m):ExLe (kL P G K n) (kL P G K m):=by
 induction h with
 |refl=>exact fun _ _ _ h=>h
 |step _ ih=>exact fun c s r h=>gW _ c s r (ih c s r h)
theorem dQ{K:bN}{n m:Nat}(h:n<=m):CfLe (call P G K n) (call P G K m):=kR (kS (gX h))
end
end Go.R
