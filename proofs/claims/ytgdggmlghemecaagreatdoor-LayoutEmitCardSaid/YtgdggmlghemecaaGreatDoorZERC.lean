/-
Symbolic runs: heaps with owners, what cells stand for.
-/
import Derived.Test.YtgdggmlghemecaaGreatDoorZER0
import Derived.Test.YtgdggmlghemecaaGreatDoorZERB
namespace Go.R
abbrev gD{α:Type} [Inhabited α](l:List α)(i:Nat):α:=l.getD i default
end Go.R
noncomputable section
set_option linter.unusedVariables false
set_option linter.unusedSimpArgs false
namespace Go.R
abbrev Fn:=Nat->Value
def upd(f:Fn)(i:Nat)(v:Value):Fn:=fun j=>bif Nat.beq i j then v else f j
def updO(f:Fn)(d:Option Tmp)(v:Value):Fn:=match d with
 |some d=>upd f d v
 |none=>f
def gJ(f:Fn):List (Nat×Value)->Fn
 | []=>f
 |(i,v)::l=>upd (gJ f l) i v
def aA(f:Fn):List (Nat×Value)->Prop
 | []=>True
 |(i,v)::l=>f i=v/\aA f l
def cJ(f:Fn):Operand->Value
 | .tmp t=>f t
 | .const v=>v
 | .global g=> .pointer (some ⟨g,0,none⟩)
 | .func i=> .func (.func i) #[] #[]
def argF(l:List Value):Fn:=fun j=>l.getD j undef
theorem upd_self(f:Fn){i:Nat}{v:Value}(h:f i=v):upd f i v=f:=by
 funext j;unfold upd;cases A:Nat.beq i j with
 |true=>have:=a0c A;subst this;exact h.symm
 |false=>rfl
theorem fb{f:Fn}: ∀{l:List (Nat×Value)},aA f l->gJ f l=f
 | [],_=>rfl
 |(i,v)::l,h=>by unfold gJ;rw[fb h.2];exact upd_self f h.1
theorem lget_lset_fn(t:Tr Value)(d:Nat)(v:Value):cU (lset t d v)=upd (cU t) d v:=by
 funext j;rw[gn];unfold upd;by_cases h:d=j
 ·subst h;rw[if_pos V,a11];rfl
 rw[if_neg h];cases A:Nat.beq d j with
 |true=>exact absurd (a0c A) h
 |false=>rfl
theorem ew(t:Tr Value):cI t=cJ (cU t):=by funext x;cases x<;>rfl
theorem argTmps_fn(args:List Value):cU (fQ 0 args .nil)=argF args:=by
 funext j;rw[ip];unfold argF;by_cases h:j<args.length
 ·rw[if_pos M];rfl
 rw[if_neg M,a03,a0J M];rfl
inductive Fr where
 |seq (b:Code)
 |block (id:Nat)
section
variable {P:Program} {G:Nat} {K:bM} {sz:Nat} {Q:Ex->Fn->Heap->Prop}
def runK(P:Program)(G:Nat)(K:bM)(n:Nat):List Fr->Option (Ex×St)->Option (Ex×St)
 | [],r=>r
 | .seq b::k,r=>runK P G K n k (gu r (mQ P G K n b))
 | .block id::k,r=>runK P G K n k (dg id r)
theorem dY{n m:Nat}(h:n<=m): ∀(k:List Fr) (r r':Option (Ex×St)),(∀x,r=some x->r'=some x)->∀x,runK P G K n k r=some x->runK P G K m k r'=some x
 | [],r,r',hr,x,hx=>hr x hx
 | .seq b::k,r,r',hr,x,hx=>dY h k _ _ (fun _ A=>gG hr (fun s y A=>iU h b s y A) A) x hx
 | .block id::k,r,r',hr,x,hx=>dY h k _ _ (fun _ A=>jL hr A) x hx
structure WK(P:Program)(G:Nat)(K:bM)(sz:Nat)(c:Code)(k:List Fr)(f:Fn)(H:Heap)(Q:Ex->Fn->Heap->Prop):Prop where
 out: ∀t,cU t=f->∃n e s',runK P G K (n+1) k (mQ P G K (n+1) c ⟨t,sz,H⟩)=some (e,s')/\Q e (cU s'.tmps) s'.heap
structure WO(P:Program)(G:Nat)(K:bM)(sz:Nat)(ops:Array Oper)(os:List Oper)(k:List Fr)(f:Fn)(H:Heap)(Q:Ex->Fn->Heap->Prop):Prop where
 out: ∀t,cU t=f->∃n e s',runK P G K (n+1) k (dW (fX P G (call P G K n) ops os ⟨t,sz,H⟩))=some (e,s')/\Q e (cU s'.tmps) s'.heap
structure C(P:Program)(G:Nat)(K:bM)(f:FuncId)(args:List Value)(H:Heap)(R:Value->Heap->Prop):Prop where
 out: ∃n v H',call P G K n f args H=some (v,H')/\R v H'
theorem C.mono{f:FuncId}{args:List Value}{H:Heap}{R A:Value->Heap->Prop}(h:C P G K f args H R)(T: ∀v H',R v H'->A v H'):C P G K f args H A:=by obtain⟨n,v,H',E,N⟩:=h.out;exact⟨n,v,H',E,T _ _ N⟩
variable {c:Code} {k:List Fr} {f:Fn} {H:Heap}
theorem aM(h:Q .normal f H):WK P G K sz .skip [] f H Q:=⟨fun t A=>⟨0,.normal,⟨t,sz,H⟩,V,by rw[A];exact h⟩⟩
theorem wk_skip_seq{b:Code}(h:WK P G K sz b k f H Q):WK P G K sz .skip (.seq b::k) f H Q:=⟨h.out⟩
theorem nj{id:Nat}(h:WK P G K sz .skip k f H Q):WK P G K sz .skip (.block id::k) f H Q:=⟨h.out⟩
theorem wk_seq{a b:Code}(h:WK P G K sz a (.seq b::k) f H Q):WK P G K sz (.seq a b) k f H Q:=⟨h.out⟩
theorem wk_block{id:Nat}{b:Code}(h:WK P G K sz b (.block id::k) f H Q):WK P G K sz (.block id b) k f H Q:=⟨h.out⟩
theorem wk_loop{b:Code}(h:WK P G K sz b (.seq (.loop b)::k) f H Q):WK P G K sz (.loop b) k f H Q:=⟨fun t T=>by
 obtain⟨n,e,Z,E,N⟩:=h.out t T;refine⟨n+1,e,Z,?_,N⟩;refine dY (Nat.le_succ (n+1)) k _ _ (fun x U=>?_) _ E;show gu (mQ P G K (n+2) b ⟨t,sz,H⟩) (mQ P G K (n+1) (.loop b))=some x;exact gG (fun y A=>iT _ _ _ _ A) (fun _ _ A=>A) U⟩
theorem wk_exit_seq{id:Nat}{b:Code}(h:WK P G K sz (.exit id) k f H Q):WK P G K sz (.exit id) (.seq b::k) f H Q:=⟨h.out⟩
theorem nk{id:Nat}(h:WK P G K sz .skip k f H Q):WK P G K sz (.exit id) (.block id::k) f H Q:=⟨fun t N=>by
 obtain⟨n,e,T,A,E⟩:=h.out t N;refine⟨n,e,T,?_,E⟩;show runK P G K (n+1) k (dg id (some (.exit id,⟨t,sz,H⟩)))=_;unfold dg;simp only[a11,cond_true];exact A⟩
theorem jT{id A:Nat}(E:Nat.beq id A=false)(h:WK P G K sz (.exit id) k f H Q):WK P G K sz (.exit id) (.block A::k) f H Q:=⟨fun t U=>by
 obtain⟨n,e,Z,N,T⟩:=h.out t U;refine⟨n,e,Z,?_,T⟩;show runK P G K (n+1) k (dg A (some (.exit id,⟨t,sz,H⟩)))=_;unfold dg;simp only[E,cond_false];exact N⟩
theorem ke{n:Nat}{s:St}: ∀k:List Fr,runK P G K n k (some (.ret,s))=some (.ret,s)
 | []=>rfl
 | .seq _::k=>ke k
 | .block _::k=>ke k
theorem ak(h:Q .ret f H):WK P G K sz .ret k f H Q:=⟨fun t A=>⟨0,.ret,⟨t,sz,H⟩,ke k,by rw[A];exact h⟩⟩
theorem wk_cond{x:Operand}{a b:Code}{v:Bool}(hx:cJ f x= .bool v)(ho:bo G x=true)(ht:v=true->WK P G K sz a k f H Q)(Z:v=false->WK P G K sz b k f H Q):WK P G K sz (.cond x a b) k f H Q:=⟨fun t T=>by
 have A: ∀n,mQ P G K (n+1) (.cond x a b) ⟨t,sz,H⟩=bif v then mQ P G K (n+1) a ⟨t,sz,H⟩ else mQ P G K (n+1) b ⟨t,sz,H⟩:=by intro n;show(bif bo G x then mR (cI t x) _ _ else none)=_;rw[ho,ew,T,hx];rfl
 cases v with
 |true=>
  obtain⟨n,e,U,E,N⟩:=(ht V).out t T
  exact⟨n,e,U,by rw[A];exact E,N⟩
 |false=>
  obtain⟨n,e,U,E,N⟩:=(Z V).out t T
  exact⟨n,e,U,by rw[A];exact E,N⟩⟩
theorem wk_true{x:Operand}{a b:Code}{v:Bool}(N:cJ f x= .bool v)(E:v=true)(A:bo G x=true)(h:WK P G K sz a k f H Q):WK P G K sz (.cond x a b) k f H Q:=
 wk_cond N A (fun _=>h) (fun e=>by rw[E]at e;cases e)
theorem wk_false{x:Operand}{a b:Code}{v:Bool}(N:cJ f x= .bool v)(E:v=false)(A:bo G x=true)(h:WK P G K sz b k f H Q):WK P G K sz (.cond x a b) k f H Q:=
 wk_cond N A (fun e=>by rw[E]at e;cases e) (fun _=>h)
theorem ab{id:Nat}{ops:Array Oper}(h:WO P G K sz ops ops.toList k f H Q):WK P G K sz (.region id ops false) k f H Q:=⟨h.out⟩
theorem gL{ops:Array Oper}(h:WK P G K sz .skip k f H Q):WO P G K sz ops [] k f H Q:=⟨h.out⟩
theorem au(l:List (Nat×Value))(A:aA f l)(h: ∀g,WK P G K sz c k (gJ g l) H Q):WK P G K sz c k f H Q:=by have:=h f;rwa [fb A]at this
structure AP(P:Program)(ρ:Operand->Value)(o:Oper)(H:Heap)(r:AN×Heap):Prop where
 eq:aop P ρ o H=some r
def dstOK(d:Option Tmp)(sz:Nat):Bool:=match d with
 |some d=>Nat.ble (d+1) sz
 |none=>true
theorem jG{s:St}{d:Option Tmp}{v:Value}(N:dstOK d s.size=true): ∃E,s.put d v=some {s with tmps:=E}/\cU E=updO (cU s.tmps) d v:=by
 unfold St.put;cases d with
 |none=>exact⟨s.tmps,V,V⟩
 |some d=>
  have A:Nat.ble (d+1) s.size=true:=N
  simp only[A,cond_true]
  exact⟨lset s.tmps d v,V,lget_lset_fn _ _ _⟩
section
variable {ops:Array Oper} {o:Oper} {os:List Oper} {v:Value} {H1:Heap}
theorem ny{t:Tr Value}(Z:o.guard=none)(ho:o.op.operands.toList.all (bo G)=true)(T:aop P (cJ (cU t)) o H=some (.val v,H1))(U:dstOK o.dst sz=true):
  ∃A,(∀cf,step P G cf ops o ⟨t,sz,H⟩=some ⟨A,sz,H1⟩)/\cU A=updO (cU t) o.dst v:=by
 obtain⟨A,E,N⟩:=jG (s:=⟨t,sz,H1⟩) (v:=v) U
 refine⟨A,fun cf=>?_,N⟩
 unfold step bf
 simp only[Z,cond_true,ho,ew,T]
 exact E
theorem step_skip{t:Tr Value}(Z:o.guard=none)(ho:o.op.operands.toList.all (bo G)=true)(T:aop P (cJ (cU t)) o H=some (.skip,H1))(U:dstOK o.dst sz=true):
  ∃A,(∀cf,step P G cf ops o ⟨t,sz,H⟩=some ⟨A,sz,H1⟩)/\cU A=updO (cU t) o.dst undef:=by
 obtain⟨A,E,N⟩:=jG (s:=⟨t,sz,H1⟩) (v:=undef) U
 refine⟨A,fun cf=>?_,N⟩
 unfold step bf
 simp only[Z,cond_true,ho,ew,T]
 exact E
theorem cd{d:Tmp}{op:Op}{ty:TypeId}{pos:String}{af:Array Edge}(Z:AP P (cJ f) ⟨some d,op,ty,pos,af,none⟩ H (.val v,H1))(ho:op.operands.toList.all (bo G)=true)(hd:Nat.ble (d+1) sz=true)
  (h:WO P G K sz ops os k (upd f d v) H1 Q):WO P G K sz ops (⟨some d,op,ty,pos,af,none⟩::os) k f H Q:=⟨fun t A=>by
 obtain⟨t',E,N⟩:=ny (P:=P) (G:=G) (ops:=ops) (t:=t) (o:=⟨some d,op,ty,pos,af,none⟩) V ho (by rw[A];exact Z.eq) hd
 obtain⟨n,e,s',T,U⟩:=h.out t' (by rw[N,A];rfl)
 refine⟨n,e,s',?_,U⟩
 rw[cj,E]
 exact T⟩
theorem wo_skip{op:Op}{ty:TypeId}{pos:String}{af:Array Edge}(Z:AP P (cJ f) ⟨none,op,ty,pos,af,none⟩ H (.skip,H1))(ho:op.operands.toList.all (bo G)=true)
  (h:WO P G K sz ops os k f H1 Q):WO P G K sz ops (⟨none,op,ty,pos,af,none⟩::os) k f H Q:=⟨fun t A=>by
 obtain⟨t',E,N⟩:=step_skip (P:=P) (G:=G) (ops:=ops) (t:=t) (sz:=sz) (o:=⟨none,op,ty,pos,af,none⟩) V ho (by rw[A];exact Z.eq) V
 obtain⟨n,e,s',T,U⟩:=h.out t' (by rw[N,A];rfl)
 refine⟨n,e,s',?_,U⟩
 rw[cj,E]
 exact T⟩
theorem wo_callG{d:Option Tmp}{op:Op}{ty:TypeId}{pos:String}{af:Array Edge}{g:FuncId}{args:List Value}{R:Value->Heap->Prop}(ha:AP P (cJ f) ⟨d,op,ty,pos,af,none⟩ H (.enter g args,H1))(ho:op.operands.toList.all (bo G)=true)(hd:dstOK d sz=true)
  (hc:C P G K g args H1 R) (h: ∀v A,R v A->WO P G K sz ops os k (updO f d v) A Q):WO P G K sz ops (⟨d,op,ty,pos,af,none⟩::os) k f H Q:=⟨fun t ht=>by
 obtain⟨N,v,A,aa,hr⟩:=hc.out
 have h0:=h v A hr
 obtain⟨Z,h1,h2⟩:=jG (s:=⟨t,sz,A⟩) (v:=v) hd
 obtain⟨E,e,s',h3,h4⟩:=h0.out Z (by rw[h2,ht])
 refine⟨Nat.max N E,e,s',?_,h4⟩
 have ad:step P G (call P G K (Nat.max N E)) ops ⟨d,op,ty,pos,af,none⟩ ⟨t,sz,H⟩=some ⟨Z,sz,A⟩:=by unfold step bf;simp only[cond_true,ho,ew,ht,ha.eq,fl (a23 N E) _ _ _ _ aa];exact h1
 rw[cj,ad]
 refine dY (a1C (a1t N E)) k _ _ (fun x T=>?_) _ h3
 simp only
 cases U:fX P G (call P G K E) ops os ⟨Z,sz,A⟩ with
 |none=>rw[U]at T;cases T
 |some y=>rw[gS (fl (a1t N E)) _ _ _ U];rw[U]at T;exact T⟩
theorem kH{d:Tmp}{op:Op}{ty:TypeId}{pos:String}{af:Array Edge}{g:FuncId}{args:List Value}{R:Value->Heap->Prop}(E:AP P (cJ f) ⟨some d,op,ty,pos,af,none⟩ H (.enter g args,H1))(T:op.operands.toList.all (bo G)=true)(N:Nat.ble (d+1) sz=true)
  (hc:C P G K g args H1 R) (h: ∀v A,R v A->WO P G K sz ops os k (upd f d v) A Q):WO P G K sz ops (⟨some d,op,ty,pos,af,none⟩::os) k f H Q:=wo_callG E T N hc h
end
theorem aj{b:Code}(I:Nat->Fn->Heap->Prop)(m:Nat)(h0:I m f H)
  (step: ∀m f H,I m f H->(∀E A H',E<m->I E A H'->WK P G K sz (.loop b) k A H' Q)->WK P G K sz b (.seq (.loop b)::k) f H Q):WK P G K sz (.loop b) k f H Q:=by
 have Z: ∀n m,m<=n->∀f H,I m f H->WK P G K sz (.loop b) k f H Q:=by
  intro n;induction n with
  |zero=>
   intro m hm f H N
   refine wk_loop (step m f H N fun E A H' U _=>?_)
   omega
  |succ n ih=>
   intro m hm f H N
   exact wk_loop (step m f H N fun E A H' U T=>ih E M A H' T)
 exact Z m m (a0d _) f H h0
def cr(P:Program)(f:Fn)(H:Heap):List ResultVar->Option (List Value)
 | []=>some []
 | .tmp t::rs=>
  match cr P f H rs with
  |some l=>some (f t::l)
  |none=>none
 | .cell a t::rs=>
  match f a with
  | .pointer (some p)=>
   match H.loadV P t p,cr P f H rs with
   |some v,some l=>some (v::l)
   |_,_=>none
  |_=>none
theorem gV(s:St): ∀rs,cO P s rs=cr P (cU s.tmps) s.heap rs
 | []=>rfl
 | .tmp t::rs=>by unfold cO cr;rw[gV s rs];cases cr P (cU s.tmps) s.heap rs<;>rfl
 | .cell a t::rs=>by
  unfold cO cr;cases cU s.tmps a with
  |pointer p=>cases p with
   |none=>rfl
   |some p=>simp only[gV s rs];cases s.heap.loadV P t p<;>cases cr P (cU s.tmps) s.heap rs<;>rfl
  |_=>rfl
theorem aB{A:FuncId}{fn:Func}{args:List Value}{R:Value->Heap->Prop}(T:P.funcs[A]?=some fn)(hc:fn.body=some c)(hK:K A args H=none)
  (h:WK P G K (Nat.max args.length fn.ntmps) c [] (argF args) H fun e Z H'=>(e= .normal\/e= .ret)/\∃l,cr P Z H' fn.results.toList=some l/\R (er l) H'):C P G K A args H R:=by
 obtain⟨n,e,U,h1,he,l,E,hr⟩:=h.out (fQ 0 args .nil) (argTmps_fn args)
 refine⟨n+1,er l,U.heap,?_,hr⟩
 show me K (nU P (mQ P G K (n+1))) A args H=_
 have N:mQ P G K (n+1) c ⟨fQ 0 args .nil,Nat.max args.length fn.ntmps,H⟩=some (e,U):=h1
 unfold me nU
 rw[hK]
 simp only[T,hc,N]
 rw[←gV]at E
 rcases he with rfl|rfl
 ·simp only[E]
 simp only[E]
end
section
variable {P:Program} {ρ:Operand->Value} {d:Option Tmp} {ty:TypeId} {pos:String} {af:Array Edge} {gd:Option (Nat×Bool)} {H:Heap}
theorem ap_move{x:Operand}{v:Value}(h:ρ x=v):AP P ρ ⟨d,.move x,ty,pos,af,gd⟩ H (.val v,H):=by subst h;exact⟨V⟩
theorem lR{x:Operand}{v:Value}(h:ρ x=v):AP P ρ ⟨d,.assign x,ty,pos,af,gd⟩ H (.val v,H):=by subst h;exact⟨V⟩
theorem ap_int{op:BinOp}{t yt:TypeId}{x y:Operand}{k A:IntKind}{a b:Int}{v:Value}(N:ρ x= .int k a)(T:ρ y= .int A b)
  (E:(bif lC op then shBin op k a b else bif mE k A then mJ op k a b else none)=some v):AP P ρ ⟨d,.binOp op t x y yt,ty,pos,af,gd⟩ H (.val v,H):=by
 refine⟨?_⟩
 show aBin P ρ _ op t (ρ x) y H=_
 rw[N]
 show binInt op k a (ρ y) H=_
 rw[T]
 show ovl _ H=_
 rw[E];rfl
theorem ap_str{op:BinOp}{t yt:TypeId}{x y:Operand}{a b:ByteArray}{v:Value}(E:ρ x= .string a)(N:ρ y= .string b)(A:strOp op a b=some v):
  AP P ρ ⟨d,.binOp op t x y yt,ty,pos,af,gd⟩ H (.val v,H):=by
 refine⟨?_⟩
 show aBin P ρ _ op t (ρ x) y H=_
 rw[E]
 show binStr op a (ρ y) H=_
 rw[N]
 show ovl _ H=_
 rw[A];rfl
theorem ne{t:TypeId}{x:Operand}{b:Bool}(A:ρ x= .bool b):AP P ρ ⟨d,.unOp .not t x,ty,pos,af,gd⟩ H (.val (.bool (!b)),H):=by refine⟨?_⟩;show aUn P ρ _ .not (ρ x) H=_;rw[A];rfl
theorem ap_conv{s t:TypeId}{x:Operand}{k A:IntKind}{n:Int}(N:ρ x= .int k n){u:TypeDesc}(hs:P.underlying s=some u)(E:P.underlying t=some (.int A)):
  AP P ρ ⟨d,.convert s t x,ty,pos,af,gd⟩ H (.val (.int A (A.wrap n)),H):=by
 refine⟨?_⟩
 show fS P ρ _ s t (ρ x) H=_
 rw[N]
 show ovl (nR P s t n) H=_
 unfold nR
 rw[hs,E];rfl
theorem ap_neg{t:TypeId}{x:Operand}{k:IntKind}{n:Int}(A:ρ x= .int k n):AP P ρ ⟨d,.unOp .neg t x,ty,pos,af,gd⟩ H (.val (.int k (k.wrap (0-n))),H):=by
 refine⟨?_⟩;show aUn P ρ _ .neg (ρ x) H=_;rw[A];show bF P ρ _ H=_;unfold bF;have E:((Op.unOp .neg t x).operands.toList.all fun x=>jI (ρ x))=true:=by simp[Op.operands,A,jI,noA0]
 simp only[E,cond_true];show(match aF P (execOp ρ ⟨d,.unOp .neg t x,ty,pos,af,gd⟩) with|some (.value v)=>bif noA2 v then some (AN.val v,H) else none|_=>none)=_;have N:aF P (execOp ρ ⟨d,.unOp .neg t x,ty,pos,af,gd⟩)=some (.value (.int k (k.wrap (0-n)))):=by unfold execOp;simp only[A];rfl
 rw[N];rfl
theorem ap_cpl{t:TypeId}{x:Operand}{k:IntKind}{n:Int}(A:ρ x= .int k n):AP P ρ ⟨d,.unOp .xor t x,ty,pos,af,gd⟩ H (.val (.int k (bits .xor k (if k.signed then-1 else k.max) n)),H):=by
 refine⟨?_⟩;show aUn P ρ _ .xor (ρ x) H=_;rw[A];show bF P ρ _ H=_;unfold bF;have E:((Op.unOp .xor t x).operands.toList.all fun x=>jI (ρ x))=true:=by simp[Op.operands,A,jI,noA0]
 simp only[E,cond_true];have N:aF P (execOp ρ ⟨d,.unOp .xor t x,ty,pos,af,gd⟩)=some (.value (.int k (bits .xor k (if k.signed then-1 else k.max) n))):=by unfold execOp;simp only[A];rfl
 rw[N];rfl
theorem ap_shl{t yt:TypeId}{x y:Operand}{k T:IntKind}{a b:Int}(E:ρ x= .int k a)(N:ρ y= .int T b)(A:0<=b):
  AP P ρ ⟨d,.binOp .shl t x y yt,ty,pos,af,gd⟩ H (.val (.int k (k.wrap (a *2^(Nat.min b.toNat k.bits)))),H):=by
 refine⟨?_⟩
 obtain⟨n,rfl⟩:=a19 A
 exact(ap_int E N V).eq
theorem ap_shr{t yt:TypeId}{x y:Operand}{k T:IntKind}{a b:Int}(E:ρ x= .int k a)(N:ρ y= .int T b)(A:0<=b):
  AP P ρ ⟨d,.binOp .shr t x y yt,ty,pos,af,gd⟩ H (.val (.int k (a.fdiv (2^(Nat.min b.toNat k.bits)))),H):=by
 refine⟨?_⟩
 obtain⟨n,rfl⟩:=a19 A
 exact(ap_int E N V).eq
theorem iX{t:TypeId}{n sz:Nat}{z:List Value}{A:Array (Nat×Operand)}{cells:Array Value}(hs:dz P t=some (sz,z))(N:Nat.ble (n *sz) 16777216=true)
  (E:Instr.fill (fun i=>some (i *sz,sz)) ⟨cp n z⟩ (dJ (fun p=>(p.1,ρ p.2)) A.toList)=some cells):
  AP P ρ ⟨d,.buildSlice t n A,ty,pos,af,gd⟩ H (.val (.slice (some ⟨H.next,0,none⟩) n n),H.push (.cells cells.toList none false)):=by
 refine⟨?_⟩
 show bN P t n (dJ (fun p=>(p.1,ρ p.2)) A.toList) H=_
 unfold bN
 rw[hs]
 simp only[N,cond_true,E]
 rfl
theorem jP{t e:TypeId}{x i:Operand}{b o n k sz:Nat}{Z:IntKind}{j:Int}(U:ρ x= .slice (some ⟨b,o,none⟩) n k)(hi:ρ i= .int Z j)(T:P.underlying t=some (.slice e))(hs:cW P e=some sz)
  (h0:0<=j) (hj:j<n) (N:n<=k):AP P ρ ⟨d,.indexAddr t x i,ty,pos,af,gd⟩ H (.val (.pointer (some ⟨b,o+j.toNat *sz,none⟩)),H):=by
 refine⟨?_⟩
 obtain⟨m,rfl⟩:=a19 h0
 show ovl (du P t (ρ x) (ρ i)) H=_
 rw[U,hi]
 unfold du
 rw[T]
 show ovl (match cW P e with|some sz=>bif Nat.ble (m+1) n&&Nat.ble n k then some (.pointer (some ⟨b,o+m *sz,none⟩)) else none|none=>none) H=_
 rw[hs]
 have A:Nat.ble (m+1) n=true:=a0y M
 have E:Nat.ble n k=true:=a0y N
 simp only[A,E,a1o,cond_true]
 rfl
theorem ap_load1{t:TypeId}{x:Operand}{b o:Nat}{cs:List Value}{A:Option Nat}{Z:Bool}{v:Value}(U:ρ x= .pointer (some ⟨b,o,none⟩))(E:e7 P t=some false)(N:H.get b=some (.cells cs A Z))(T:cs[o]?=some v):
  AP P ρ ⟨d,.load t x,ty,pos,af,gd⟩ H (.val v,H):=by
 refine⟨?_⟩
 show d9 P t (ρ x) H=_
 rw[U]
 show ovl (H.loadV P t ⟨b,o,none⟩) H=_
 unfold Heap.loadV
 rw[E]
 simp only
 unfold Heap.cellAt
 simp only[N,fZ,T]
 rfl
theorem ap_loadN{t:TypeId}{x:Operand}{b o n:Nat}{cs l:List Value}{A:Option Nat}{ro:Bool}(Z:ρ x= .pointer (some ⟨b,o,none⟩))(E:e7 P t=some true)(hs:cW P t=some n)(N:H.get b=some (.cells cs A ro))(T:(cs.drop o).take n=l)(U:l.length=n):
  AP P ρ ⟨d,.load t x,ty,pos,af,gd⟩ H (.val (.agg ⟨l⟩),H):=by
 refine⟨?_⟩
 show d9 P t (ρ x) H=_
 rw[Z]
 show ovl (H.loadV P t ⟨b,o,none⟩) H=_
 unfold Heap.loadV
 rw[E]
 simp only[hs]
 unfold Heap.loadN
 simp only[N,bS,ca,bG,T,U,a11,cond_true]
 rfl
structure Keeps(H H':Heap):Prop where
 next:H.next<=H'.next
 get: ∀b,b<H.next->H'.get b=H.get b
 log: ∃d,H'.log=d++H.log/\∀b,b∈d->H.next<=b
theorem appL_nil(l:List Value):appL l []=l:=by rw[dS];simp
theorem aP{args:Array Operand}{A:Array TypeId}{i:FuncId}{fn:Func}{f:Fn}{l:List Value}(N:P.funcs[i]?=some fn)(E:(fn.body.isSome&& !(fn.name== "runtime.NumGoroutine"))=true)(T:dJ (cJ f) args.toList=l):
  AP P (cJ f) ⟨d,.call ⟨.value (.func i),args,A⟩,ty,pos,af,gd⟩ H (.enter i l,H):=by
 refine⟨?_⟩
 show fE (fV P (.func (.func i) #[] #[]) (dJ (cJ f) args.toList)) H=_
 unfold fV
 simp only[N,E,cond_true,T]
 show fE (some (.enter i (appL [] (appL l [])))) H=_
 rw[appL_nil]
 rfl
end
def gv:Inf->Bool
 | .x w=>isNilL w
 |_=>true
def vkAt(ops:Array Oper)(j:Nat):Bool:=match ops[j]? with
 |some o=>aY o.op
 |none=>false
def FsOK(ops:Array Oper)(wr:List Nat)(i:Nat)(fs:List (Nat×Inf)):Prop:= ∀j g,(j,g)∈fs->j<i/\(gv g=true\/j∈wr)/\(vkAt ops j=true->g= .v)
theorem nY: ∀{f g:Inf},gv f=true->gv g=true->dq f g=true
 | .v,_,_,_=>rfl
 | .a b,.v,_,_=>rfl
 | .a b,.a c,_,_=>rfl
 | .a b,.l c,_,_=>rfl
 | .a b,.x w,_,h=>by cases w with
  |nil=>rfl
  |cons _ _=>cases h
 | .l b,.v,_,_=>rfl
 | .l b,.a c,_,_=>rfl
 | .l b,.l c,_,_=>rfl
 | .l b,.x w,_,h=>by cases w with
  |nil=>rfl
  |cons _ _=>cases h
 | .x w,.v,_,_=>rfl
 | .x w,.a c,_,_=>rfl
 | .x w,.l c,h,_=>by cases w with
  |nil=>rfl
  |cons _ _=>cases h
 | .x w,.x u,h,h'=>by simp only[gv]at h h';simp only[dq,h,h',a1o]
theorem below_nil{n:Nat}: ∀{l:List Nat},(∀b,b∈l->n<=b)->dK n l=[]
 | [],_=>rfl
 |c::l,h=>by have A:Nat.ble n c=true:=a0y (h c (a0q ..));unfold dK;rw[A];exact below_nil fun b E=>h b (a0i _ E)
theorem infOf_benign{ops:Array Oper}{o:Oper}{s:St}{n:Nat}{log:List Nat}(h:dK n log=[]):gv (d8 ops o s n log)=true:=by
 unfold d8;rw[h];cases (!bf ops o s.tmps||aY o.op) with
 |true=>rfl
 |false=>
  simp only[cond_false]
  cases dN o.op with
  |true=>rfl
  |false=>
   simp only[cond_false]
   split
   ·split<;>rfl
   ·split<;>rfl
   ·split<;>rfl
   rfl
theorem infOf_value{ops:Array Oper}{o:Oper}{s:St}{n:Nat}{log:List Nat}(h:aY o.op=true):d8 ops o s n log= .v:=by unfold d8;rw[h,Bool.or_true];rfl
theorem jQ{ops:Array Oper}{l:List Nat}{i:Nat}{f:Inf}: ∀{fs:List (Nat×Inf)},(∀j g,(j,g)∈fs->(bn l j i||dq g f)=true)->cn ops l i f fs=true
 | [],_=>rfl
 |(j,g)::fs,h=>by unfold cn;rw[←Bool.or_assoc,h j g (a0q ..),jQ fun j g A=>h j g (a0i _ A)];rfl
section
variable {P:Program} {G:Nat} {K:bM} {sz:Nat} {Q:Ex->Fn->Heap->Prop} {ops:Array Oper} {wr:List Nat} {i:Nat} {os:List Oper} {k:List Fr} {f:Fn} {H H1:Heap} {v:Value}
 {d:Tmp} {op:Op} {ty:TypeId} {pos:String} {af:Array Edge}
structure WD(P:Program)(G:Nat)(K:bM)(sz:Nat)(ops:Array Oper)(wr:List Nat)(i:Nat)(os:List Oper)(k:List Fr)(f:Fn)(H:Heap)(Q:Ex->Fn->Heap->Prop):Prop where
 out: ∀t fs,cU t=f->FsOK ops wr i fs->∃n e s',runK P G K (n+1) k (dW (bC P G (call P G K n) ops i fs os ⟨t,sz,H⟩))=some (e,s')/\Q e (cU s'.tmps) s'.heap
end
def cQ(ops:Array Oper)(f:Fn)(j:Nat):Option Bool:=
 match (ops[j]?).bind (·.dst) with
 |some d=>
  match f d with
  | .bool b=>some b
  |_=>none
 |none=>none
theorem aop_guard{P:Program}{ρ:Operand->Value}{d:Option Tmp}{op:Op}{ty:TypeId}{pos:String}{af:Array Edge}(g A:Option (Nat×Bool))(H:Heap):
  aop P ρ ⟨d,op,ty,pos,af,g⟩ H=aop P ρ ⟨d,op,ty,pos,af,A⟩ H:=by
 cases op<;>rfl
section
variable {P:Program} {G:Nat} {K:bM} {sz:Nat} {Q:Ex->Fn->Heap->Prop} {ops:Array Oper} {wr:List Nat} {i j:Nat} {os:List Oper} {k:List Fr} {f:Fn} {H H1:Heap} {v want:Bool}
 {d:Option Tmp} {op:Op} {ty:TypeId} {pos:String} {af:Array Edge}
theorem iw{t:Tr Value}(E:cU t=f)(N:cQ ops f j=some v)(o:Oper)(A:o.guard=some (j,want)):bf ops o t=(v==want):=by
 unfold bf;rw[A];have:mn ops t j=some v:=by rw[←N,←E];rfl
 simp only[this];cases v<;>cases want<;>rfl
theorem my{cf:cu}{t:Tr Value}(N:cU t=f)(U:cQ ops f j=some v)(T:v=want):
  step P G cf ops ⟨d,op,ty,pos,af,some (j,want)⟩ ⟨t,sz,H⟩=step P G cf ops ⟨d,op,ty,pos,af,none⟩ ⟨t,sz,H⟩:=by
 unfold step
 rw[iw N U _ V,T]
 have A:(want==want)=true:=by cases want<;>rfl
 have E:bf ops ⟨d,op,ty,pos,af,none⟩ t=true:=rfl
 simp only[A,E,cond_true,aop_guard (some (j,want)) none]
theorem nz{cf:cu}{t:Tr Value}(E:cU t=f)(T:cQ ops f j=some v)(N:v= !want):
  step P G cf ops ⟨d,op,ty,pos,af,some (j,want)⟩ ⟨t,sz,H⟩=St.put ⟨t,sz,H⟩ d undef:=by
 unfold step
 rw[iw E T _ V,N]
 have A:((!want)==want)=false:=by cases want<;>rfl
 simp only[A,cond_false]
theorem eT(U:cQ ops f j=some v)(T:v=want)(h:WO P G K sz ops (⟨d,op,ty,pos,af,none⟩::os) k f H Q):WO P G K sz ops (⟨d,op,ty,pos,af,some (j,want)⟩::os) k f H Q:=⟨fun t E=>by
 obtain⟨n,e,Z,A,N⟩:=h.out t E;refine⟨n,e,Z,?_,N⟩;rw[cj]at A⊢;rw[my E U T];exact A⟩
theorem wo_gf{d:Tmp}(hy:cQ ops f j=some v)(hv:v= !want)(Z:Nat.ble (d+1) sz=true)(h:WO P G K sz ops os k (upd f d undef) H Q):WO P G K sz ops (⟨some d,op,ty,pos,af,some (j,want)⟩::os) k f H Q:=⟨fun t A=>by
 obtain⟨t',T,U⟩:=jG (s:=⟨t,sz,H⟩) (d:=some d) (v:=undef) Z;obtain⟨n,e,s',E,N⟩:=h.out t' (by rw[U,A];rfl);refine⟨n,e,s',?_,N⟩;rw[cj,nz A hy hv,T];exact E⟩
theorem mr{d:Tmp}(N:cQ ops f j=some v)(E:v=false)(A:Nat.ble (d+1) sz=true)(h:WO P G K sz ops os k (upd f d undef) H Q):WO P G K sz ops (⟨some d,op,ty,pos,af,some (j,true)⟩::os) k f H Q:=wo_gf N E A h
theorem wo_gf0{d:Tmp}(N:cQ ops f j=some v)(E:v=true)(A:Nat.ble (d+1) sz=true)(h:WO P G K sz ops os k (upd f d undef) H Q):WO P G K sz ops (⟨some d,op,ty,pos,af,some (j,false)⟩::os) k f H Q:=wo_gf N E A h
theorem wo_gn{d:Tmp}(hy:cQ ops f j=none)(hd:Nat.ble (d+1) sz=true)(h:WO P G K sz ops os k (upd f d undef) H Q):WO P G K sz ops (⟨some d,op,ty,pos,af,some (j,want)⟩::os) k f H Q:=⟨fun t E=>by
 obtain⟨t',U,Z⟩:=jG (s:=⟨t,sz,H⟩) (d:=some d) (v:=undef) hd;obtain⟨n,e,s',N,T⟩:=h.out t' (by rw[Z,E];rfl);refine⟨n,e,s',?_,T⟩;have hw:bf ops ⟨some d,op,ty,pos,af,some (j,want)⟩ t=false:=by
  unfold bf;have:mn ops t j=none:=by rw[←hy,←E];rfl
  simp only[this];cases want<;>rfl
 have A:step P G (call P G K n) ops ⟨some d,op,ty,pos,af,some (j,want)⟩ ⟨t,sz,H⟩=St.put ⟨t,sz,H⟩ (some d) undef:=by unfold step;simp only[hw,cond_false]
 rw[cj,A,U];exact N⟩
theorem wo_gsT{d:Tmp}(A:cQ ops f j=some v)(T:Nat.ble (d+1) sz=true)(E:v=true->WO P G K sz ops (⟨some d,op,ty,pos,af,none⟩::os) k f H Q)(N:v=false->WO P G K sz ops os k (upd f d undef) H Q):
  WO P G K sz ops (⟨some d,op,ty,pos,af,some (j,true)⟩::os) k f H Q:=by
 cases v with
 |true=>exact eT A V (E V)
 |false=>exact wo_gf A V T (N V)
theorem wo_gsF{d:Tmp}(A:cQ ops f j=some v)(T:Nat.ble (d+1) sz=true)(E:v=false->WO P G K sz ops (⟨some d,op,ty,pos,af,none⟩::os) k f H Q)(N:v=true->WO P G K sz ops os k (upd f d undef) H Q):
  WO P G K sz ops (⟨some d,op,ty,pos,af,some (j,false)⟩::os) k f H Q:=by
 cases v with
 |true=>exact wo_gf A V T (N V)
 |false=>exact eT A V (E V)
end
section
variable {P:Program} {ρ:Operand->Value} {d:Option Tmp} {ty:TypeId} {pos:String} {af:Array Edge} {gd:Option (Nat×Bool)} {H:Heap}
theorem n9{c a b:Operand}{t:Bool}{v:Value}(hc:ρ c= .bool t)(A:t=true)(E:ρ a=v):AP P ρ ⟨d,.pick c a b,ty,pos,af,gd⟩ H (.val v,H):=by refine⟨?_⟩;show gm ρ c a b H=_;unfold gm;rw[hc,A,←E];rfl
theorem kE{c a b:Operand}{t:Bool}{v:Value}(hc:ρ c= .bool t)(A:t=false)(E:ρ b=v):AP P ρ ⟨d,.pick c a b,ty,pos,af,gd⟩ H (.val v,H):=by refine⟨?_⟩;show gm ρ c a b H=_;unfold gm;rw[hc,A,←E];rfl
def d5(op:BinOp)(t:TypeId)(x y:Operand)(a b:Bool):Sem Next:=
 ((eqGuard op t x y (.bool a) (.bool b))>>=fun _=>binOp op t (.bool a) (.bool b))>>=fun r=>Pure.pure (Next.value r)
theorem ap_boolEq{t yt:TypeId}{x y:Operand}{a b:Bool}(E:ρ x= .bool a)(N:ρ y= .bool b)(A: ∀a b:Bool,aF P (d5 .eql t x y a b)=some (.value (.bool (a==b)))):AP P ρ ⟨d,.binOp .eql t x y yt,ty,pos,af,gd⟩ H (.val (.bool (a==b)),H):=by
 refine⟨?_⟩;show aBin P ρ _ .eql t (ρ x) y H=_;rw[E];show bF P ρ _ H=_;unfold bF;have T:((Op.binOp .eql t x y yt).operands.toList.all fun x=>jI (ρ x))=true:=by simp[Op.operands,E,N,jI,noA0]
 simp only[T,cond_true];have U:aF P (execOp ρ ⟨d,.binOp .eql t x y yt,ty,pos,af,gd⟩)=some (.value (.bool (a==b))):=by rw[←A a b];unfold execOp d5;simp only[E,N]
 rw[U];rfl
end
open Go.RowKit
abbrev Fz:=Nat->Option AObj
abbrev Fp:=List (Nat×AObj)
def Fz.le(F F':Fz):Prop:= ∀b o,F b=some o->F' b=some o
theorem Fz.le_refl(F:Fz):F.le F:=fun _ _ h=>h
theorem Fz.le_trans{A B C:Fz}(h:A.le B)(k:B.le C):A.le C:=fun b o x=>k b o (h b o x)
def Fz.add(F:Fz)(b:Nat)(o:AObj):Fz:=fun j=>bif Nat.beq b j then some o else F j
def Fz.addL(F:Fz):Fp->Fz
 | []=>F
 |(b,o)::p=>(F.addL p).add b o
abbrev in64(n:Int):Prop:= -9223372036854775808<=n/\n<9223372036854775808
structure Base where
 n0:Nat
 W:List Nat
 lg:List Nat
def Base.of(H:Heap)(W:List Nat):Base:=⟨H.next,W,H.log⟩
structure HS(B:Base)(F:Fz)(H:Heap)(L R:List Fp):Prop where
 fz: ∀b o,F b=some o->H.get b=some o/\b<H.next
 own: ∀p,p∈L\/p∈R->∀b o,(b,o)∈p->H.get b=some o/\b<H.next/\F b=none
 nd:((L++R).flatten.map Prod.fst).Nodup
 n0:B.n0<=H.next
 log: ∀b,b∈H.log->b∈B.lg\/B.n0<=b\/b∈B.W
 mine: ∀p,p∈L->∀b o,(b,o)∈p->B.n0<=b\/b∈B.W
theorem fh{α:Type}: ∀(L:List (List α)) (i:Nat) (p:List α),L[i]?=some p->∃A C,L=A++p::C/\∀q,L.set i q=A++q::C
 | [],_,_,h=>by simp at h
 |x::L,0,p,h=>by simp at h;subst h;exact⟨[],L,V,fun _=>rfl⟩
 |x::L,i+1,p,h=>by obtain⟨A,C,E,N⟩:=fh L i p (by simpa using h);exact⟨x::A,C,by rw[E];rfl,fun q=>by rw[a24,N];rfl⟩
theorem iS{α:Type}(L:List (List α))(i:Nat)(p q:List α)(h:L[i]?=some p): ∃A C,L=A++p::C/\L.set i q=A++q::C:=by obtain⟨A,C,E,N⟩:=fh L i p h;exact⟨A,C,E,N q⟩
section
variable {B:Base} {F F':Fz} {H H':Heap} {L R:List Fp}
theorem HS.relog(h:HS B F H L R){l:List Nat}(A: ∀b,b∈l->b∈B.lg\/B.n0<=b\/b∈B.W):HS B F {H with log:=l} L R:=⟨h.fz,h.own,h.nd,h.n0,A,h.mine⟩
theorem HS.log0(h:HS B F H L R):HS B F {H with log:=[]} L R:=h.relog fun b A=>by simp at A
theorem HS.turn(h:HS B F H L R){i:Nat}{p q:Fp}(hi:L[i]?=some p)(hn:H.next<=H'.next)
  (aw: ∀b,b<H.next->(∀o,(b,o)∉p)->H'.get b=H.get b)
  (hq: ∀b o,(b,o)∈q->H'.get b=some o/\b<H'.next/\(H.next<=b\/∃U,(b,U)∈p)) (bb:(q.map Prod.fst).Nodup)
  (a8: ∀b,b∈H'.log->b∈H.log\/H.next<=b\/∃o,(b,o)∈p):HS B F H' (L.set i q) R:=by
 obtain⟨A,C,e1,e2⟩:=iS L i p q hi
 have ap:p∈L:=a0m hi
 have T:=h.nd
 rw[e1]at T
 have ax: ∀x,x∈L.set i q\/x∈R->x=q\/((x∈L\/x∈R)/\∀b o U,(b,o)∈x->(b,U)∉p):=by
  intro x E;have ay: ∀x,x∈A\/x∈C\/x∈R->∀b o U,(b,o)∈x->(b,U)∉p:=by
   intro x E b o U N ag;simp only[a0l,a0X,a0P,a0N,a0Z,a1m,a09]at T;have ai:b∈p.map Prod.fst:=a0v.2 ⟨_,ag,V⟩;have a6:b∈x.map Prod.fst:=a0v.2 ⟨_,N,V⟩;rcases E with E|E|E
   ·have:b∈A.flatten.map Prod.fst:=a0v.2 ⟨(b,o),a0R.2 ⟨x,E,N⟩,V⟩;exact T.2.2 b this b (.inl ai) V
   ·have:b∈C.flatten.map Prod.fst:=a0v.2 ⟨(b,o),a0R.2 ⟨x,E,N⟩,V⟩;exact T.2.1.2.2 b ai b (.inl this) V
   have:b∈R.flatten.map Prod.fst:=a0v.2 ⟨(b,o),a0R.2 ⟨x,E,N⟩,V⟩;exact T.2.1.2.2 b ai b (.inr this) V
  rw[e2]at E;rcases E with E|E
  ·rcases a09.1 E with E|E
   ·exact .inr ⟨.inl (by rw[e1];exact a09.2 (.inl E)),ay x (.inl E)⟩
   rcases a0w.1 E with rfl|E
   ·exact .inl V
   exact .inr ⟨.inl (by rw[e1];exact a09.2 (.inr (a0i _ E))),ay x (.inr (.inl E))⟩
  exact .inr ⟨.inr E,ay x (.inr (.inr E))⟩
 have a3: ∀b o,(b,o)∈p->F b=none/\b<H.next:=fun b o N=>⟨(h.own p (.inl ap) b o N).2.2,(h.own p (.inl ap) b o N).2.1⟩
 refine⟨fun b o N=>?_,fun x E b o N=>?_,?_,a0e h.n0 hn,fun b N=>?_,fun x E b o N=>?_⟩
 ·obtain⟨Z,h2⟩:=h.fz b o N;refine⟨?_,a0U h2 hn⟩;rw[aw b h2 fun U ao=>by rw[(a3 b U ao).1]at N;cases N];exact Z
 ·rcases ax x E with rfl|⟨a6,hne⟩
  ·obtain⟨Z,h2,h3⟩:=hq b o N;refine⟨Z,h2,?_⟩;rcases h3 with h3|⟨U,ao⟩
   ·cases hf:F b with
    |none=>rfl
    |some z=>have:=(h.fz b z hf).2;omega
   exact(a3 b U ao).1
  obtain⟨Z,h2,h3⟩:=h.own x a6 b o N;exact⟨by rw[aw b h2 fun U=>hne b o U N];exact Z,a0U h2 hn,h3⟩
 ·rw[e2];have a4: ∀x,x∈A\/x∈C\/x∈R->∀b,b∈x.map Prod.fst->b<H.next/\∀U,(b,U)∉p:=by
   intro x E b N;obtain⟨⟨b',o⟩,ag,rfl⟩:=a0v.1 N;have a7:x∈L.set i q\/x∈R:=by
    rw[e2];rcases E with E|E|E
    ·exact .inl (a09.2 (.inl E))
    ·exact .inl (a09.2 (.inr (a0i _ E)))
    exact .inr E
   have bk:x∈L\/x∈R:=by
    rw[e1];rcases E with E|E|E
    ·exact .inl (a09.2 (.inl E))
    ·exact .inl (a09.2 (.inr (a0i _ E)))
    exact .inr E
   refine⟨(h.own x bk b' o ag).2.1,fun U ao=>?_⟩;have an:=T;simp only[a0l,a0X,a0P,a0N,a0Z,a1m,a09]at an;have ai:b'∈p.map Prod.fst:=a0v.2 ⟨_,ao,V⟩;rcases E with E|E|E
   ·exact an.2.2 b' (a0v.2 ⟨(b',o),a0R.2 ⟨x,E,ag⟩,V⟩) b' (.inl ai) V
   ·exact an.2.1.2.2 b' ai b' (.inl (a0v.2 ⟨(b',o),a0R.2 ⟨x,E,ag⟩,V⟩)) V
   exact an.2.1.2.2 b' ai b' (.inr (a0v.2 ⟨(b',o),a0R.2 ⟨x,E,ag⟩,V⟩)) V
  have av: ∀(c_:List Fp) b,b∈c_.flatten.map Prod.fst->∃x,x∈c_/\b∈x.map Prod.fst:=by intro c_ b N;obtain⟨y,hy,rfl⟩:=a0v.1 N;obtain⟨x,E,bl⟩:=a0R.1 hy;exact⟨x,E,a0v.2 ⟨y,bl,V⟩⟩
  have a5: ∀b,b∈q.map Prod.fst->H.next<=b\/∃U,(b,U)∈p:=by intro b N;obtain⟨⟨b',o⟩,ag,rfl⟩:=a0v.1 N;exact(hq b' o ag).2.2
  simp only[a0l,a0X,a0P,a0N,a0Z,a1m,a09]at T⊢;obtain⟨n1,⟨n2,⟨n3,n4,n5⟩,n6⟩,n7⟩:=T;refine⟨n1,⟨bb,⟨n3,n4,n5⟩,fun a ha b N ar=>?_⟩,fun a ha b N ar=>?_⟩
  ·subst ar;have E: ∃x,(x∈A\/x∈C\/x∈R)/\a∈x.map Prod.fst:=by
    rcases N with N|N
    ·obtain⟨x,E,Z⟩:=av C a N;exact⟨x,.inr (.inl E),Z⟩
    obtain⟨x,E,Z⟩:=av R a N;exact⟨x,.inr (.inr E),Z⟩
   obtain⟨x,E,Z⟩:=E;obtain⟨h2,h3⟩:=a4 x E a Z;rcases a5 a ha with h4|⟨U,h4⟩
   ·omega
   exact h3 U h4
  subst ar;rcases N with N|N
  ·obtain⟨x,E,Z⟩:=av A a ha;obtain⟨h2,h3⟩:=a4 x (.inl E) a Z;rcases a5 a N with h4|⟨U,h4⟩
   ·omega
   exact h3 U h4
  exact n7 a ha a (.inr N) V
 ·rcases a8 b N with Z|Z|⟨o,Z⟩
  ·exact h.log b Z
  ·exact .inr (.inl (a0e h.n0 Z))
  exact .inr (h.mine p ap b o Z)
 have a7:=ax x (.inl E)
 rcases a7 with rfl|⟨_,_⟩
 ·rcases (hq b o N).2.2 with h3|⟨U,h3⟩
  ·exact .inl (a0e h.n0 h3)
  exact h.mine p ap b U h3
 rw[e2]at E
 rcases a09.1 E with E|E
 ·exact h.mine x (by rw[e1];exact a09.2 (.inl E)) b o N
 rcases a0w.1 E with rfl|E
 ·rcases (hq b o N).2.2 with h3|⟨U,h3⟩
  ·exact .inl (a0e h.n0 h3)
  exact h.mine p ap b U h3
 exact h.mine x (by rw[e1];exact a09.2 (.inr (a0i _ E))) b o N
theorem HS.cons(h:HS B F H L R):HS B F H ([]::L) R:=
 ⟨h.fz,fun p A b o E=>by
  rcases A with A|A
  ·rcases a0w.1 A with rfl|A
   ·simp at E
   exact h.own p (.inl A) b o E
  ·exact h.own p (.inr A) b o E,by simpa using h.nd,h.n0,h.log,fun p A b o E=>by
  rcases a0w.1 A with rfl|A
  ·simp at E
  exact h.mine p A b o E⟩
theorem HS.snoc(h:HS B F H L R):HS B F H (L++[[]]) R:=
 ⟨h.fz,fun p A b o E=>by
  rcases A with A|A
  ·rcases a09.1 A with A|A
   ·exact h.own p (.inl A) b o E
   simp at A;subst A;simp at E
  ·exact h.own p (.inr A) b o E,by simpa using h.nd,h.n0,h.log,fun p A b o E=>by
  rcases a09.1 A with A|A
  ·exact h.mine p A b o E
  simp at A;subst A;simp at E⟩
theorem HS.push(h:HS B F H L R)(o:AObj):HS B F (H.push o) (L++[[(H.next,o)]]) R:=by
 have E:=(h.snoc).turn (H':=H.push o) (i:=L.length) (p:=[]) (q:=[(H.next,o)]) (by simp) (by simp)
  (fun b A _=>Heap.get_push_ne _ _ M) (fun b N A=>by
   simp at A;obtain⟨rfl,rfl⟩:=A;exact⟨Heap.get_push_same _ _,by simp,.inl (a0d _)⟩) (by simp) (fun b A=> .inl (by simpa using A))
 simpa using E
theorem HS.put(h:HS B F H L R){i b:Nat}{o N:AObj}(hi:L[i]?=some [(b,o)]):HS B F (H.put b N) (L.set i [(b,N)]) R:=
 h.turn hi (by simp) (fun c _ E=>Heap.get_put_ne _ _ fun e=>E o (by simp[e])) (fun c T A=>by
  simp at A;obtain⟨rfl,rfl⟩:=A;have:=(h.own _ (.inl (a0m hi)) c o (by simp)).2.1;exact⟨Heap.get_put_same _ _ _,by simpa using this,.inr ⟨o,by simp⟩⟩) (by simp) (fun c hc=>by
  rw[Heap.log_put]at hc;rcases a0w.1 hc with rfl|hc
  ·exact .inr (.inr ⟨o,by simp⟩)
  exact .inl hc)
theorem HS.get(h:HS B F H L R){i b:Nat}{p:Fp}{o:AObj}(hi:L[i]?=some p)(A:(b,o)∈p):H.get b=some o:=(h.own p (.inl (a0m hi)) b o A).1
theorem HS.drop(h:HS B F H L R){i:Nat}{p:Fp}(hi:L[i]?=some p):HS B F H (L.set i []) R:=
 h.turn hi (a0d _) (fun _ _ _=>rfl) (fun b o A=>by simp at A) (by simp) (fun b A=> .inl A)
theorem addL_get{p:Fp}: ∀{b:Nat} {o:AObj},(F.addL p) b=some o->F b=some o\/(b,o)∈p:=by
 induction p with
 |nil=>intro b o h;exact .inl h
 |cons x p ih=>
  obtain⟨E,N⟩:=x
  intro b o h
  simp only[Fz.addL,Fz.add]at h
  cases A:Nat.beq E b with
  |true=>
   rw[A]at h;simp only[cond_true,a00]at h;subst h
   have:=a0c A;subst this
   exact .inr (by simp)
  |false=>
   rw[A]at h
   rcases ih h with h1|h1
   ·exact .inl h1
   exact .inr (a0i _ h1)
theorem addL_of{p:Fp}: ∀{b:Nat} {o:AObj},(p.map Prod.fst).Nodup->(b,o)∈p->(F.addL p) b=some o:=by
 induction p with
 |nil=>intro b o _ h;simp at h
 |cons x p ih=>
  obtain⟨E,U⟩:=x
  intro b o A h
  simp only[a1L,List.nodup_cons]at A
  simp only[Fz.addL,Fz.add]
  rcases a0w.1 h with e|h
  ·injection e with e1 e2;subst e1 e2;rw[a11];rfl
  have N:Nat.beq E b=false:=by
   cases T:Nat.beq E b with
   |false=>rfl
   |true=>have:=a0c T;subst this;exact absurd (a0v.2 ⟨_,h,V⟩) A.1
  rw[N];exact ih A.2 h
theorem addL_le{p:Fp}(h: ∀b o,(b,o)∈p->F b=none):F.le (F.addL p):=by
 induction p with
 |nil=>exact F.le_refl
 |cons x p ih=>
  obtain⟨E,Z⟩:=x
  intro b o A
  have N:=ih (fun b o T=>h b o (a0i _ T)) b o A
  simp only[Fz.addL,Fz.add]
  cases U:Nat.beq E b with
  |false=>exact N
  |true=>
   have:=a0c U;subst this
   rw[h E Z (by simp)]at A;cases A
theorem HS.nodup_of(h:HS B F H L R){p:Fp}(E:p∈L):(p.map Prod.fst).Nodup:=by have:=h.nd;obtain⟨A,C,rfl⟩:=List.append_of_mem E;simp only[a0l,a0X,a0P,a0N,a0Z,a1m]at this;exact this.2.1.1
theorem HS.freeze(h:HS B F H L R){i:Nat}{p:Fp}(hi:L[i]?=some p): ∃F',F.le F'/\HS B F' H (L.set i []) R/\∀b o,(b,o)∈p->F' b=some o:=by
 have ad:p∈L:=a0m hi;have ag:=addL_le (F:=F) (p:=p) fun b o N=>(h.own p (.inl ad) b o N).2.2
 have U:=h.drop hi;have ai:=h.nodup_of ad;refine⟨F.addL p,ag,⟨fun b o N=>?_,fun x E b o N=>?_,U.nd,U.n0,U.log,U.mine⟩,fun b o N=>addL_of ai N⟩
 ·rcases addL_get N with T|T
  ·exact h.fz b o T
  have:=h.own p (.inl ad) b o T;exact⟨this.1,this.2.1⟩
 obtain⟨T,h2,h3⟩:=U.own x E b o N;refine⟨T,h2,?_⟩;cases hq:F.addL p b with
 |none=>rfl
 |some z=>
  exfalso
  rcases addL_get hq with h4|h4
  ·rw[h3]at h4;cases h4
  ·--disjoint
   obtain⟨A,C,e1,e2⟩:=iS L i p [] hi;have Z:=h.nd;rw[e1]at Z;simp only[a0l,a0X,a0P,a0N,a0Z,a1m,a09]at Z;have aa:b∈p.map Prod.fst:=a0v.2 ⟨_,h4,V⟩;rcases E with E|E
   ·rw[e2]at E;rcases a09.1 E with E|E
    ·exact Z.2.2 b (a0v.2 ⟨(b,o),a0R.2 ⟨x,E,N⟩,V⟩) b (.inl aa) V
    rcases a0w.1 E with rfl|E
    ·simp at N
    exact Z.2.1.2.2 b aa b (.inl (a0v.2 ⟨(b,o),a0R.2 ⟨x,E,N⟩,V⟩)) V
   exact Z.2.1.2.2 b aa b (.inr (a0v.2 ⟨(b,o),a0R.2 ⟨x,E,N⟩,V⟩)) V
theorem HS.call(h:HS B F H L R):HS (.of H []) F H [] (L++R):=
 ⟨h.fz,fun p A b o E=>by
  rcases A with A|A
  ·simp at A
  exact h.own p (a09.1 A) b o E,by simpa using h.nd,a0d _,fun b E=> .inl E,fun p A=>by simp at A⟩
theorem HS.back{b_:List Fp}{T:Heap}(h:HS B F H L R)(U:T=H)(k:HS (.of T []) F' H' b_ (L++R)):HS B F' H' (L++b_) R:=by
 subst U;refine⟨k.fz,fun p A b o E=>k.own p ?_ b o E,?_,a0e h.n0 k.n0,fun b E=>?_,fun p A b o E=>?_⟩
 ·rcases A with A|A
  ·rcases a09.1 A with A|A
   ·exact .inr (a09.2 (.inl A))
   exact .inl A
  exact .inr (a09.2 (.inr A))
 ·have:=k.nd;have N:((L++b_++R).flatten.map Prod.fst).Perm ((b_++(L++R)).flatten.map Prod.fst):=by simp only[a0P,a0Z,a0l];exact a15 _ _ _
  exact N.nodup_iff.2 this
 ·rcases k.log b E with h1|h1|h1
  ·exact h.log b h1
  ·exact .inr (.inl (a0e h.n0 h1))
  simp[Base.of]at h1
 rcases a09.1 A with A|A
 ·exact h.mine p A b o E
 rcases k.mine p A b o E with h1|h1
 ·exact .inl (a0e h.n0 h1)
 simp[Base.of]at h1
theorem HS.callOwn(h:HS B F H L R){i:Nat}{p:Fp}(hi:L[i]?=some p):HS (.of H (p.map Prod.fst)) F H [p] (L.set i []++R):=by
 obtain⟨A,C,U,Z⟩:=iS L i p [] hi;have aa:p∈L:=a0m hi;refine⟨h.fz,fun x E b o N=>?_,?_,a0d _,fun b N=> .inl N,fun x E b o N=>?_⟩
 ·rcases E with E|E
  ·simp at E;subst E;exact h.own x (.inl aa) b o N
  rw[Z]at E;simp only[a0l,a0X,a09,a0w]at E;rcases E with E|rfl|E|E
  ·exact h.own x (.inl (by rw[U];simp[E])) b o N
  ·simp at N
  ·exact h.own x (.inl (by rw[U];simp[E])) b o N
  exact h.own x (.inr E) b o N
 ·have:=h.nd;rw[U]at this;rw[Z];have T:(([p]++(A++[]::C++R)).flatten.map Prod.fst).Perm ((A++p::C++R).flatten.map Prod.fst):=by simp only[a0P,a0N,List.flatten_nil,a0p,a14,a0Z,a0l];exact a15 _ _ _
  exact T.nodup_iff.2 this
 simp at E;subst E;exact .inr (a0v.2 ⟨_,N,V⟩)
theorem HS.backOwn{H0:Heap}{W:List Nat}{p q:Fp}{b_:List Fp}(h:HS B F H L R){i:Nat}(hi:L[i]?=some p)(hH:H0=H)(hW: ∀b,b∈W->b∈p.map Prod.fst)(k:HS (.of H0 W) F' H' (q::b_) (L.set i []++R)):HS B F' H' (L.set i q++b_) R:=by
 subst hH;obtain⟨A,C,e1,e2⟩:=fh L i p hi;have an:p∈L:=a0m hi;have Z: ∀b,b∈W->B.n0<=b\/b∈B.W:=fun b N=>by obtain⟨⟨b',o⟩,ai,rfl⟩:=a0v.1 (hW b N);exact h.mine p an b' o ai
 have al: ∀x,x∈A++q::C++b_\/x∈R->x∈q::b_\/x∈A++[]::C++R:=by
  intro x E;simp only[a0l,a0X,a09,a0w]at E⊢;rcases E with(E|E|E|E)|E
  ·exact .inr (.inl E)
  ·exact .inl (.inl E)
  ·exact .inr (.inr (.inr (.inl E)))
  ·exact .inl (.inr E)
  exact .inr (.inr (.inr (.inr E)))
 have aa: ∀x,x∈q::b_->∀b o,(b,o)∈x->B.n0<=b\/b∈B.W:=fun x E b o N=>by
  rcases k.mine x E b o N with T|T
  ·exact .inl (a0e h.n0 T)
  exact Z b T
 rw[e2]at k⊢;refine⟨k.fz,fun x E b o N=>k.own x (al x E) b o N,?_,a0e h.n0 k.n0,fun b N=>?_,fun x E b o N=>?_⟩
 ·have:=k.nd;have U:((A++q::C++b_++R).flatten.map Prod.fst).Perm ((q::b_++(A++[]::C++R)).flatten.map Prod.fst):=by
   simp only[a0P,a0N,a14,a0Z,a0l,a0X];have T: ∀(a c m q r:List Nat),(a++(q++(c++(m++r)))).Perm (q++(m++(a++(c++r)))):=by intro a c m q r;refine List.Perm.trans (a15 a q _) (a0W q ?_);refine List.Perm.trans (a0W a (a15 c m r)) ?_;exact a15 a m _
   exact T _ _ _ _ _
  exact U.nodup_iff.2 this
 ·rcases k.log b N with T|T|T
  ·exact h.log b T
  ·exact .inr (.inl (a0e h.n0 T))
  exact .inr (Z b T)
 simp only[a0l,a0X,a09,a0w]at E;rcases E with E|rfl|E|E
 ·exact h.mine x (by rw[e1];simp[E]) b o N
 ·exact aa x (by simp) b o N
 ·exact h.mine x (by rw[e1];simp[E]) b o N
 exact aa x (by simp[E]) b o N
end
class Rp(α:Type) where
 sz:Nat
 rep:Fz->List Value->α->Prop
 len: ∀{F:Fz} {cs:List Value} {x:α},rep F cs x->cs.length=sz
 one: ∀{F:Fz} {cs:List Value} {x:α},rep F cs x->ng Value.oneCell' cs=true
 mono: ∀{F F':Fz} {cs:List Value} {x:α},F.le F'->rep F cs x->rep F' cs x
def RL{α:Type} [Rp α](F:Fz):List Value->List α->Prop
 |cs,[]=>cs=[]
 |cs,x::l=> ∃c r,cs=c++r/\Rp.rep F c x/\RL F r l
theorem allL_app{p:Value->Bool}(a b:List Value):ng p (a++b)=(ng p a&&ng p b):=by simp only[oi,a2n]
section
variable {α:Type} [Rp α] {F F':Fz}
theorem RL.length: ∀{l:List α} {cs:List Value},RL F cs l->cs.length=l.length *Rp.sz α
 | [],cs,h=>by simp only[RL]at h;subst h;simp
 |x::l,cs,h=>by obtain⟨c,r,rfl,A,E⟩:=h;rw[a02,Rp.len A,RL.length E,a04,a1r,Nat.add_comm]
theorem RL.mono(A:F.le F'): ∀{l:List α} {cs:List Value},RL F cs l->RL F' cs l
 | [],_,h=>h
 |_::_,_,⟨c,r,e,h1,h2⟩=>⟨c,r,e,Rp.mono A h1,RL.mono A h2⟩
theorem RL.one: ∀{l:List α} {cs:List Value},RL F cs l->ng Value.oneCell' cs=true
 | [],cs,h=>by simp only[RL]at h;subst h;rfl
 |x::l,cs,h=>by obtain⟨c,r,rfl,A,E⟩:=h;rw[allL_app,Rp.one A,RL.one E];rfl
theorem RL.append: ∀{l m:List α} {cs A:List Value},RL F cs l->RL F A m->RL F (cs++A) (l++m)
 | [],_,cs,_,h,k=>by simp only[RL]at h;subst h;exact k
 |_::_,_,_,_,⟨c,r,e,h1,h2⟩,k=>⟨c,_,by rw[e,a0l],h1,RL.append h2 k⟩
theorem RL.take: ∀{l:List α} {cs:List Value} (n:Nat),RL F cs l->RL F (cs.take (n *Rp.sz α)) (l.take n)
 |l,cs,0,h=>by simp[RL]
 | [],cs,n+1,h=>by simp only[RL]at h;subst h;simp[RL]
 |x::l,cs,n+1,h=>by
  obtain⟨c,r,rfl,A,T⟩:=h;refine⟨c,r.take (n *Rp.sz α),?_,A,RL.take n T⟩;rw[a2g,Rp.len A];have E:List.take ((n+1) *Rp.sz α) c=c:=a0h (by rw[Rp.len A,a1r];omega);have N:(n+1) *Rp.sz α-Rp.sz α=n *Rp.sz α:=by rw[a1r];omega
  rw[E,N]
theorem RL.drop: ∀{l:List α} {cs:List Value} (n:Nat),RL F cs l->RL F (cs.drop (n *Rp.sz α)) (l.drop n)
 |l,cs,0,h=>by simpa using h
 | [],cs,n+1,h=>by simp only[RL]at h;subst h;simp[RL]
 |x::l,cs,n+1,h=>by
  obtain⟨c,r,rfl,A,T⟩:=h;have:=RL.drop n T;rw[List.drop_append,Rp.len A];have E:List.drop ((n+1) *Rp.sz α) c=[]:=a1O (by rw[Rp.len A,a1r];omega);have N:(n+1) *Rp.sz α-Rp.sz α=n *Rp.sz α:=by rw[a1r];omega
  rw[E,N];exact this
theorem RL.head{l:List α}{x:α}{cs:List Value}(h:RL F cs (x::l)):Rp.rep F (cs.take (Rp.sz α)) x:=by obtain⟨c,r,rfl,A,_⟩:=h;rw[a2g,Rp.len A,a1R,List.take_zero,a0p,a0h (by rw[Rp.len A];omega)];exact A
theorem RL.at{l:List α}{cs:List Value}{j:Nat}{x:α}(h:RL F cs l)(E:l[j]?=some x):Rp.rep F ((cs.drop (j *Rp.sz α)).take (Rp.sz α)) x:=by
 have A:=h.drop j;have T:=(a0u.1 E).1;have N:l.drop j=x::l.drop (j+1):=by rw[a1d T];congr 1;exact(a0u.1 E).2
 rw[N]at A;exact A.head
theorem kR(cs A:List Value)(o:Nat)(h:o+A.length<=cs.length):be cs o A=cs.take o++A++cs.drop (o+A.length):=by
 apply a1l;intro i;rw[br cs o A i h];simp only[a0l,a2h,a0o,a0A,a0L];have e:min o cs.length=o:=M
 rw[e];by_cases E:i<o
 ·rw[if_pos E,if_neg M];simp[E]
 rw[if_neg E];by_cases N:i<o+A.length
 ·rw[if_pos M,if_pos M]
 rw[if_neg M,if_neg M];congr 1;omega
theorem RL.set{l:List α}{cs c:List Value}{j:Nat}{x:α}(h:RL F cs l)(A:j<l.length)(hc:Rp.rep F c x):RL F (be cs (j *Rp.sz α) c) (l.set j x):=by
 have N:=h.length;have E:j *Rp.sz α+Rp.sz α<=cs.length:=by rw[N,←a1r];exact a0B _ A
 rw[kR _ _ _ (by rw[Rp.len hc];exact E),List.set_eq_take_append_cons_drop,if_pos A,Rp.len hc,a0l];refine(h.take j).append ?_;refine⟨c,_,V,hc,?_⟩;have:=h.drop (j+1);rw[a1r]at this;exact this
theorem RL.replicate{z:List Value}{x:α}(h:Rp.rep F z x): ∀n,RL F (cp n z) (List.replicate n x)
 |0=>rfl
 |n+1=>⟨z,cp n z,V,h,RL.replicate h n⟩
def Sl(F:Fz)(o:AObj)(off k:Nat)(l:List α):Prop:= ∃cs A E,o= .cells cs A E/\(E=false->off+k *Rp.sz α<=cs.length)/\l.length<=k/\RL F ((cs.drop off).take (l.length *Rp.sz α)) l/\(A=none\/A=some (Rp.sz α))
def Sv(F:Fz)(get:Nat->Option AObj)(v:Value)(l:List α):Prop:=
 (v= .slice none 0 0/\l=[])\/∃b off k o,v= .slice (some ⟨b,off,none⟩) l.length k/\get b=some o/\Sl F o off k l
def SR(F:Fz)(v:Value)(l:List α):Prop:=Sv F F v l
def OS(F:Fz)(v:Value)(l:List α)(p:Fp):Prop:=
 (v= .slice none 0 0/\l=[]/\p=[])\/∃b off k cs A,v= .slice (some ⟨b,off,none⟩) l.length k/\p=[(b,.cells cs A false)]/\Sl F (.cells cs A false) off k l
theorem Sl.mono(hF:F.le F'){o:AObj}{off k:Nat}{l:List α}(h:Sl F o off k l):Sl F' o off k l:=by obtain⟨cs,A,ro,E,N,T,U,Z⟩:=h;exact⟨cs,A,ro,E,N,T,U.mono hF,Z⟩
theorem SR.mono(A:F.le F'){v:Value}{l:List α}(h:SR F v l):SR F' v l:=by
 rcases h with h|⟨b,off,k,o,h1,h2,h3⟩
 ·exact .inl h
 exact .inr ⟨b,off,k,o,h1,A _ _ h2,h3.mono A⟩
theorem OS.mono(A:F.le F'){v:Value}{l:List α}{p:Fp}(h:OS F v l p):OS F' v l p:=by
 rcases h with h|⟨b,off,k,cs,opn,h1,h2,h3⟩
 ·exact .inl h
 exact .inr ⟨b,off,k,cs,opn,h1,h2,h3.mono A⟩
theorem SR.nil:SR F (.slice none 0 0) ([]:List α):= .inl ⟨V,V⟩
theorem OS.nil:OS F (.slice none 0 0) ([]:List α) []:= .inl ⟨V,V,V⟩
variable {B:Base} {H:Heap} {L R:List Fp} {v:Value} {l:List α} {p:Fp}
theorem SR.sv(h:SR F v l)(hs:HS B F H L R):Sv F H.get v l:=by
 rcases h with h|⟨b,off,k,o,h1,h2,h3⟩
 ·exact .inl h
 exact .inr ⟨b,off,k,o,h1,(hs.fz b o h2).1,h3⟩
theorem OS.sv(h:OS F v l p)(hs:HS B F H L R){i:Nat}(hi:L[i]?=some p):Sv F H.get v l:=by
 rcases h with⟨A,E,_⟩|⟨b,off,k,cs,T,A,E,N⟩
 ·exact .inl ⟨A,E⟩
 exact .inr ⟨b,off,k,_,A,hs.get hi (by rw[E];simp),N⟩
def sB:Value->Nat
 | .slice (some a) _ _=>a.block
 |_=>0
def sO:Value->Nat
 | .slice (some a) _ _=>a.off
 |_=>0
def HC(get:Nat->Option AObj)(b o:Nat)(cs:List Value):Prop:= ∃all A E,get b=some (.cells all A E)/\(all.drop o).take cs.length=cs
theorem Sv.at{get:Nat->Option AObj}(h:Sv F get v l){j:Nat}{x:α}(A:l[j]?=some x): ∃cs,Rp.rep F cs x/\HC get (sB v) (sO v+j *Rp.sz α) cs:=by
 rcases h with⟨_,rfl⟩|⟨b,off,k,o,rfl,T,cs,N,ro,rfl,h3,h4,U,h6⟩
 ·simp at A
 have Z:=(a0u.1 A).1;have E:=U.at A;refine⟨_,E,cs,N,ro,T,?_⟩;rw[Rp.len E];show(cs.drop (off+j *Rp.sz α)).take (Rp.sz α)=(((cs.drop off).take (l.length *Rp.sz α)).drop (j *Rp.sz α)).take (Rp.sz α);rw[a2t,a2v,List.drop_drop];congr 1;have:Rp.sz α<=l.length *Rp.sz α-j *Rp.sz α:=by have:=a0B (Rp.sz α) (show j+1<=l.length from Z);rw[a1r]at this;omega
 omega
theorem HC.get{get:Nat->Option AObj}{b o:Nat}{cs:List Value}(h:HC get b o cs){i:Nat}{v:Value}(A:cs[i]?=some v): ∃all E N,get b=some (.cells all E N)/\all[o+i]?=some v:=by
 obtain⟨all,E,N,T,U⟩:=h;refine⟨all,E,N,T,?_⟩;rw[←U,a0A]at A;split at A
 ·rw[a0L]at A;exact A
 cases A
theorem HC.part{get:Nat->Option AObj}{b o:Nat}{cs:List Value}(h:HC get b o cs){i n:Nat}(Z:i+n<=cs.length): ∃all A N,get b=some (.cells all A N)/\(all.drop (o+i)).take n=(cs.drop i).take n/\((cs.drop i).take n).length=n:=by
 obtain⟨all,A,N,T,U⟩:=h;refine⟨all,A,N,T,?_,by rw[a0o,a0H];omega⟩;have E:(((all.drop o).take cs.length).drop i).take n=(cs.drop i).take n:=by rw[U]
 rw[a2t,a2v,List.drop_drop]at E;rw[show min n (cs.length-i)=n by omega]at E;exact E
theorem HC.same{get:Nat->Option AObj}{b:Nat}{cs:List Value}{A:Option Nat}{E:Bool}(h:get b=some (.cells cs A E)):HC get b 0 cs:=⟨cs,A,E,h,by simp⟩
instance :Rp Int where
 sz:=1
 rep _ cs n:=cs=[.int .i64 n]/\in64 n
 len:=by rintro F cs x ⟨rfl,_⟩;rfl
 one:=by rintro F cs x ⟨rfl,_⟩;rfl
 mono:=by intro F F' cs x _ h;exact h
instance :Rp Bool where
 sz:=1
 rep _ cs n:=cs=[.bool n]
 len:=by rintro F cs x rfl;rfl
 one:=by rintro F cs x rfl;rfl
 mono:=by intro F F' cs x _ h;exact h
structure Str where
 b:List UInt8
 deriving DecidableEq,Inhabited
instance :Rp Str where
 sz:=1
 rep _ cs s:=cs=[.string ⟨⟨s.b⟩⟩]
 len:=by rintro F cs x rfl;rfl
 one:=by rintro F cs x rfl;rfl
 mono:=by intro F F' cs x _ h;exact h
structure U64 where
 n:Int
 deriving DecidableEq,Inhabited
instance :Rp U64 where
 sz:=1
 rep _ cs s:=cs=[.int .u64 s.n]/\0<=s.n/\s.n<18446744073709551616
 len:=by rintro F cs x ⟨rfl,_⟩;rfl
 one:=by rintro F cs x ⟨rfl,_⟩;rfl
 mono:=by intro F F' cs x _ h;exact h
instance :Rp UInt8 where
 sz:=1
 rep _ cs s:=cs=[.int .u8 s.toNat]
 len:=by rintro F cs x rfl;rfl
 one:=by rintro F cs x rfl;rfl
 mono:=by intro F F' cs x _ h;exact h
theorem Sv.shape{get:Nat->Option AObj}{v:Value}{l:List α}(h:Sv F get v l): ∃a k,v= .slice a l.length k:=by
 rcases h with⟨rfl,rfl⟩|⟨b,off,k,o,rfl,_⟩
 ·exact⟨none,0,V⟩
 exact⟨_,k,V⟩
theorem OS.shape{v:Value}{l:List α}{p:Fp}(h:OS F v l p): ∃a k,v= .slice a l.length k:=by
 rcases h with⟨rfl,rfl,_⟩|⟨b,off,k,cs,A,rfl,_⟩
 ·exact⟨none,0,V⟩
 exact⟨_,k,V⟩
instance :Rp (List α) where
 sz:=1
 rep F cs l:= ∃a k,cs=[.slice a l.length k]/\SR F (.slice a l.length k) l
 len:=by rintro F cs x ⟨a,k,rfl,_⟩;rfl
 one:=by rintro F cs x ⟨a,k,rfl,h⟩;rfl
 mono:=by rintro F F' cs x hF ⟨a,k,rfl,h⟩;exact⟨a,k,V,h.mono hF⟩
end
section
variable {α:Type} [Rp α] {P:Program} {ρ:Operand->Value} {d:Option Tmp} {ty:TypeId} {pos:String} {af:Array Edge} {gd:Option (Nat×Bool)} {B:Base} {F:Fz} {H:Heap} {L R:List Fp} {v:Value} {l:List α} {p:Fp}
theorem od{x:Operand}{t e:TypeId}(N:ρ x=v)(A:P.underlying t=some (.slice e))(h:Sv F H.get v l):
  AP P ρ ⟨d,.call ⟨.builtin .len, #[x], #[t]⟩,ty,pos,af,gd⟩ H (.val (.int .i64 l.length),H):=by
 refine⟨?_⟩
 obtain⟨a,k,E⟩:=h.shape
 show ovl (aLen P t (ρ x) H) H=_
 rw[N,E]
 unfold aLen
 rw[A];rfl
theorem ap_lenS{x:Operand}{t:TypeId}{s:List UInt8}(E:ρ x= .string ⟨⟨s⟩⟩)(A:P.underlying t=some .string):
  AP P ρ ⟨d,.call ⟨.builtin .len, #[x], #[t]⟩,ty,pos,af,gd⟩ H (.val (.int .i64 s.length),H):=by
 refine⟨?_⟩
 show ovl (aLen P t (ρ x) H) H=_
 rw[E]
 unfold aLen
 rw[A]
 show ovl (some (goInt (eA s))) H=_
 rw[bG];rfl
theorem ap_idxV{x i:Operand}{t e:TypeId}{Z:IntKind}{j:Int}(T:ρ x=v)(hi:ρ i= .int Z j)(N:P.underlying t=some (.slice e))(U:cW P e=some (Rp.sz α))(h:Sv F H.get v l)(h0:0<=j:=by first|(dsimp only;omega)|omega)(A:j<l.length:=by first|(dsimp only;omega)|omega):
  AP P ρ ⟨d,.indexAddr t x i,ty,pos,af,gd⟩ H (.val (.pointer (some ⟨sB v,sO v+j.toNat *Rp.sz α,none⟩)),H):=by
 rcases h with⟨_,rfl⟩|⟨b,off,k,o,rfl,h2,cs,aa,ro,rfl,h3,E,h5,h6⟩
 ·simp at A;omega
 exact jP T hi N U h0 A E
theorem fp{t:TypeId}{x:Operand}{b o A i:Nat}{cs:List Value}{w:Value}(hx:ρ x= .pointer (some ⟨b,A,none⟩))(T:e7 P t=some false)(hc:HC H.get b o cs)(U:A=o+i)(Z:cs[i]?=some w):
  AP P ρ ⟨d,.load t x,ty,pos,af,gd⟩ H (.val w,H):=by
 subst U
 obtain⟨all,ad,ro,E,N⟩:=hc.get Z
 exact ap_load1 hx T E N
theorem gw{t:TypeId}{x:Operand}{b o E i n:Nat}{cs l:List Value}(hx:ρ x= .pointer (some ⟨b,E,none⟩))(Z:e7 P t=some true)(hs:cW P t=some n)(hc:HC H.get b o cs)(ho:E=o+i)(hn:Nat.ble (i+n) cs.length=true)(A:dX (d3 cs i) n=l):
  AP P ρ ⟨d,.load t x,ty,pos,af,gd⟩ H (.val (.agg ⟨l⟩),H):=by
 subst ho
 obtain⟨all,ai,ro,N,T,U⟩:=hc.part (a08 hn)
 rw[bS,ca]at A
 exact ap_loadN hx Z hs N (T.trans A) (by rw[←A];exact U)
theorem ap_fa{s:TypeId}{x:Operand}{f b o A:Nat}(E:ρ x= .pointer (some ⟨b,o,none⟩))(h:iY P s (.pointer (some ⟨b,o,none⟩)) f=some (.pointer (some ⟨b,A,none⟩))):
  AP P ρ ⟨d,.fieldAddr s x f,ty,pos,af,gd⟩ H (.val (.pointer (some ⟨b,A,none⟩)),H):=by
 refine⟨?_⟩
 show ovl (iY P s (ρ x) f) H=_
 rw[E,h];rfl
theorem ap_fv{t:TypeId}{x:Operand}{f:Nat}{u w:Value}(A:ρ x=u)(h:ir P t u f=some w):AP P ρ ⟨d,.field t x f,ty,pos,af,gd⟩ H (.val w,H):=by refine⟨?_⟩;show ovl (ir P t (ρ x) f) H=_;rw[A,h];rfl
theorem ap_ex{x:Operand}{i:Nat}{u w:Value}(A:ρ x=u)(h:gI u i=some w):AP P ρ ⟨d,.extract x i,ty,pos,af,gd⟩ H (.val w,H):=by refine⟨?_⟩;show ovl (gI (ρ x) i) H=_;rw[A,h];rfl
theorem ap_bld{t:TypeId}{A:Array (Nat×Operand)}{ps:Array (Nat×Value)}{z:List Value}{w:Value}(E:A.map (fun p=>(p.1,ρ p.2))=ps)(N:cy P t=some z)(h:aF P (Instr.build t ps)=some w):
  AP P ρ ⟨d,.build t A,ty,pos,af,gd⟩ H (.val w,H):=by
 refine⟨?_⟩
 show gY P t (A.map fun p=>(p.1,ρ p.2)) H=_
 rw[E]
 unfold gY
 rw[N]
 show lift P (Instr.build t ps) H=_
 unfold lift
 rw[h]
theorem ap_alloc{e:TypeId}{z:List Value}(A:cy P e=some z):AP P ρ ⟨d,.alloc e,ty,pos,af,gd⟩ H (.val (.pointer (some ⟨H.next,0,none⟩)),H.push (.cells z none false)):=by refine⟨?_⟩;show eG P e H=_;unfold eG;rw[A];rfl
theorem ap_box{e:TypeId}{x:Operand}{cs:List Value}(A:(ρ x).cells.toList=cs):AP P ρ ⟨d,.box e x,ty,pos,af,gd⟩ H (.val (.pointer (some ⟨H.next,0,none⟩)),H.push (.cells cs none false)):=by subst A;exact⟨V⟩
theorem iD{b o:Nat}{cs A:List Value}{E:Option Nat}(T:H.get b=some (.cells cs E false))(U:o+A.length<=cs.length)(N:ng Value.oneCell' A=true):H.storeL ⟨b,o,none⟩ A=some (H.put b (.cells (be cs o A) E false)):=by unfold Heap.storeL;have:Nat.ble (Nat.add o (eA A)) (eA cs)=true:=a0y (by rw[bG,bG];exact U);simp only[T,this,N,a1o,cond_true]
theorem ap_st{t:TypeId}{a x:Operand}{b o n:Nat}{u:Value}{cl:List Value}{H1:Heap}(E:ρ a= .pointer (some ⟨b,o,none⟩))(U:ρ x=u)(T:cW P t=some n)(hc:u.cells.toList=cl)(N:Nat.beq cl.length n=true)(A:H.storeL ⟨b,o,none⟩ cl=some H1):
  AP P ρ ⟨d,.store t a x,ty,pos,af,gd⟩ H (.skip,H1):=by
 refine⟨?_⟩
 show eY P t (ρ a) (ρ x) H=_
 rw[E,U]
 unfold eY
 have:u.cells.size=cl.length:=by rw[←hc];simp
 rw[this,T]
 simp only[N,cond_true,hc,A]
 rfl
theorem HS.st(hs:HS B F H L R){i b o:Nat}{cs cl A:List Value}(hi:L[i]?=some [(b,.cells cs none false)])(T:Nat.ble (o+cl.length) cs.length=true)(E:ng Value.oneCell' cl=true)(N:be cs o cl=A):
  ∃H1,H.storeL ⟨b,o,none⟩ cl=some H1/\HS B F H1 (L.set i [(b,.cells A none false)]) R:=by
 subst N
 exact⟨_,iD (hs.get hi (a0b.2 V)) (a08 T) E,hs.put hi⟩
theorem HS.hc(hs:HS B F H L R){i b:Nat}{cs:List Value}(hi:L[i]?=some [(b,.cells cs none false)]):HC H.get b 0 cs:=HC.same (hs.get hi (a0b.2 V))
theorem os_set(h:OS F v l p)(hs:HS B F H L R){i j:Nat}(hi:L[i]?=some p){x x':α}{off:Nat}{cl:List Value}(hx:l[j]?=some x)(h1:ng Value.oneCell' cl=true)
  (hr: ∀cs,Rp.rep F cs x->off+cl.length<=cs.length/\Rp.rep F (be cs off cl) x'):
  ∃H1 p',H.storeL ⟨sB v,sO v+j *Rp.sz α+off,none⟩ cl=some H1/\OS F v (l.set j x') p'/\HS B F H1 (L.set i p') R/\∀b cs A,p=[(b,.cells cs A false)]->∃U,p'=[(b,.cells U A false)]:=by
 have hj:=(a0u.1 hx).1
 rcases h with⟨_,rfl,_⟩|⟨b,o,k,cs,A,rfl,rfl,a5,a4,a7,T,h3,h4,h5,h6⟩
 ·simp at hj
 injection T with e1 e2 e3
 subst e1 e2 e3
 replace h3:=h3 V
 have Z:=h5.at hx
 have al:=h5.length
 have aq:j *Rp.sz α+Rp.sz α<=l.length *Rp.sz α:=by rw[←a1r];exact a0B _ hj
 have a6:l.length *Rp.sz α<=k *Rp.sz α:=a0B _ h4
 obtain⟨E,g2⟩:=hr _ Z
 have N:=Rp.len Z
 have hb:o+j *Rp.sz α+off+cl.length<=cs.length:=by rw[N]at E;omega
 refine⟨_,_,iD (b:=b) (o:=o+j *Rp.sz α+off) (hs.get hi (a0b.2 V)) hb h1,.inr ⟨b,o,k,_,A,by rw[a0f],V,_,_,_,V,?_,by rw[a0f];exact h4,?_,h6⟩,hs.put hi,?_⟩
 ·intro _;rw[cg _ _ _ hb];exact h3
 rotate_left
 ·intro b' U a3 T;simp only[a2o,a05,AObj.cells.injEq,and_true]at T;obtain⟨rfl,rfl,rfl⟩:=T;exact⟨_,V⟩
 rw[a0f]
 have av:((be cs (o+j *Rp.sz α+off) cl).drop o).take (l.length *Rp.sz α)=be ((cs.drop o).take (l.length *Rp.sz α)) (j *Rp.sz α) (be ((((cs.drop o).take (l.length *Rp.sz α)).drop (j *Rp.sz α)).take (Rp.sz α)) off cl):=by
  have hA:(be ((((cs.drop o).take (l.length *Rp.sz α)).drop (j *Rp.sz α)).take (Rp.sz α)) off cl).length=Rp.sz α:=by rw[cg _ _ _ E,N]
  have hB:((cs.drop o).take (l.length *Rp.sz α)).length=l.length *Rp.sz α:=al;apply a1l;intro q;rw[br _ _ _ _ (by rw[hA,hB];exact aq),a0A,a0L,br _ _ _ _ hb,hA];rw[N]at E;by_cases c1:q<l.length *Rp.sz α
  ·rw[if_pos c1];by_cases c2:o+j *Rp.sz α+off<=o+q/\o+q<o+j *Rp.sz α+off+cl.length
   ·rw[if_pos c2,if_pos M,br _ _ _ _ (by rw[N];exact E),if_pos M];congr 1;omega
   rw[if_neg c2];by_cases c3:j *Rp.sz α<=q/\q<j *Rp.sz α+Rp.sz α
   ·rw[if_pos c3,br _ _ _ _ (by rw[N];exact E),if_neg M,a0A,if_pos M,a0L,a0A,if_pos M,a0L];congr 1;omega
   rw[if_neg c3,a0A,if_pos c1,a0L]
  rw[if_neg c1,if_neg M,a0A,if_neg c1]
 rw[av]
 exact h5.set hj g2
theorem Sv.first{x:Value}{A:List α}(h:Sv F H.get x A):lenA x=some A.length/\∃E,fk H (Rp.sz α) A.length x=some E/\RL F E A:=by
 rcases h with⟨rfl,rfl⟩|⟨b,off,k,o,rfl,T,cs,aa,ro,rfl,h3,h4,N,h6⟩
 ·exact⟨V,[],V,V⟩
 refine⟨V,?_⟩;unfold fk;cases U:Nat.beq A.length 0 with
 |true=>
  have:=a0c U
  have e:A=[]:=a0z this
  subst e
  exact⟨[],V,V⟩
 |false=>
  refine⟨_,?_,N⟩
  simp only[cond_false]
  unfold Heap.loadN
  have Z:=N.length
  simp only[T,bS,ca,bG,Z,a11,cond_true]
theorem os_append(h:OS F v l p)(hs:HS B F H L R){i:Nat}(hi:L[i]?=some p){x:Value}{N:List α}{T z:List Value}{types:Array TypeId}{st xt e:TypeId}{xd:TypeDesc}{ay:Nat}
  (h0:types[0]?=some st) (h1:types[1]?=some xt) (b2:P.underlying st=some (.slice e)) (b5:P.underlying xt=some xd) (b3: ∀k,xd≠ .int k) (hz:cW P e=some (Rp.sz α)) (bl:eL P e=some ay) (b6:cy P e=some z)
  (a2:Nat.beq (eA z) (Rp.sz α)=true) (a0:Nat.ble ay 4096=true) (ag:Nat.beq (Rp.sz α) 0=false) (b4:lenA x=some N.length) (hf:fk H (Rp.sz α) N.length x=some T) (U:RL F T N) (aq:l.length+N.length<=2147483648):
  ∃a k H1 p',fW P types v x H=some (.slice a (l++N).length k,H1)/\OS F (.slice a (l++N).length k) (l++N) p'/\HS B F H1 (L.set i p') R:=by
 have ad:L.set i p=L:=by obtain⟨A,C,e1,e2⟩:=fh L i p hi;rw[e2 p,←e1]
 have ar:=U.one
 have Z:=U.length
 have cc:0<Rp.sz α:=by
  rcases a1Q (Rp.sz α) with hq|hq
  ·rw[hq]at ag;cases ag
  exact hq
 have c0: ∀(Y:Option (Value×Heap)),(match xd with| .int _=>none|_=>Y)=Y:=by intro Y;cases xd<;>first|rfl|exact absurd V (b3 _)
 unfold fW
 simp only[h0,h1,b2,b5,hz,bl,b6,b4,hf]
 rcases h with⟨rfl,rfl,rfl⟩|⟨b,o,k,cs,ai,rfl,rfl,c7,c6,c8,he,h3,h4,h5,h6⟩
 ·cases hm:Nat.beq N.length 0 with
  |true=>
   have:N=[]:=a0z (a0c hm)
   subst this
   exact⟨none,0,H,[],V,.nil,by rw[ad];exact hs⟩
  |false=>
   have ap:Nat.ble N.length 2147483648=true:=a0y (by simp at aq;omega)
   simp only[cond_false,a2,ap,a0,ag,a1x,a1o,cond_true]
   refine⟨_,_,_,[(H.next,.cells T (some (Rp.sz α)) false)],V,.inr ⟨_,0,_,_,_,V,V,_,_,_,V,?_,by simp,?_,.inr V⟩,?_⟩
   ·intro _;show 0+N.length *Rp.sz α<=T.length;rw[Z];omega
   ·rw[a17,a14,←Z,a1e];exact U
   refine hs.turn hi (H':=aR H T (some (Rp.sz α))) (by simp[aR]) (fun b E _=>Heap.get_push_ne _ _ M) (fun b o E=>?_) (by simp) (fun b E=> .inl (by simpa[aR] using E))
   simp at E;obtain⟨rfl,rfl⟩:=E
   exact⟨Heap.get_push_same _ _,by simp[aR],.inl (a0d _)⟩
 injection he with e1 e2 e3
 subst e1 e2 e3
 replace h3:=h3 V
 have hg:=hs.get hi (b:=b) (o:= .cells cs ai false) (by simp)
 simp only[hg]
 cases hk:Nat.ble (l.length+N.length) k with
 |true=>
  have a1:=a08 hk
  simp only[cond_true]
  cases hm:Nat.beq N.length 0 with
  |true=>
   have:N=[]:=a0z (a0c hm)
   subst this
   simp only[cond_true,a0p]
   exact⟨_,_,_,_,V,.inr ⟨b,o,k,cs,ai,V,V,_,_,_,V,fun _=>h3,h4,h5,h6⟩,by rw[ad];exact hs⟩
  |false=>
   simp only[cond_false]
   have bt:(l.length+N.length) *Rp.sz α<=k *Rp.sz α:=a0B _ a1
   have E:o+l.length *Rp.sz α+T.length<=cs.length:=by rw[Z];rw[a12]at bt;omega
   rw[iD hg E ar]
   simp only
   refine⟨some ⟨b,o,none⟩,k,_,[(b,.cells (be cs (o+l.length *Rp.sz α) T) ai false)],by rw[a02],.inr ⟨b,o,k,_,ai,V,V,_,_,_,V,?_,by rw[a02];exact a1,?_,h6⟩,hs.put hi⟩
   ·intro _;rw[cg _ _ _ E];exact h3
   have b7:((be cs (o+l.length *Rp.sz α) T).drop o).take ((l++N).length *Rp.sz α)=(cs.drop o).take (l.length *Rp.sz α)++T:=by
    have bz:=h5.length;apply a1l;intro q;rw[a0A,a0L,br _ _ _ _ E,a02,a12,a2h,bz];by_cases c1:q<l.length *Rp.sz α
    ·rw[if_pos M,if_neg M,if_pos c1,a0A,if_pos c1,a0L]
    rw[if_neg c1];by_cases c2:q<l.length *Rp.sz α+N.length *Rp.sz α
    ·rw[if_pos c2,if_pos (by rw[Z];omega)];congr 1;omega
    rw[if_neg c2,a0J (by rw[Z];omega)]
   rw[b7]
   exact h5.append U
 |false=>
  simp only[cond_false]
  have ap:Nat.ble (l.length+N.length) 2147483648=true:=a0y aq
  have b1:Nat.ble l.length k=true:=a0y h4
  simp only[a2,ap,a0,ag,b1,a1x,a1o,cond_true]
  have a8:fk H (Rp.sz α) l.length (.slice (some ⟨b,o,none⟩) l.length k)=some ((cs.drop o).take (l.length *Rp.sz α)):=by
   unfold fk;cases E:Nat.beq l.length 0 with
   |true=>
    have:=a0c E
    simp[this]
   |false=>
    simp only[cond_false]
    unfold Heap.loadN
    have hl:=h5.length
    simp only[hg,bS,ca,bG,hl,a11,cond_true]
  rw[a8]
  simp only[dS]
  have an:=h5.append U
  have aa:=an.length
  have ao: ∀(k':Nat) (bb:Nat),k'=(l++N).length->OS F (.slice (some ⟨bb,0,none⟩) (l++N).length k') (l++N) [(bb,.cells ((cs.drop o).take (l.length *Rp.sz α)++T) (some (Rp.sz α)) false)]:=by rintro k' bb rfl;refine .inr ⟨bb,0,_,_,_,V,V,_,_,_,V,fun _=>(by rw[aa];omega),a0d _,?_,.inr V⟩;rw[a17,←aa,a1e];exact an
  rcases h6 with rfl|rfl
  ·simp only;refine⟨some ⟨H.next,0,none⟩,l.length+N.length,_,_,by rw[a02],ao _ _ (by rw[a02]),?_⟩;refine hs.turn hi (by simp[aR]) (fun b E _=>Heap.get_push_ne _ _ M) (fun b o E=>?_) (by simp) (fun b E=> .inl (by simpa[aR] using E));simp at E;obtain⟨rfl,rfl⟩:=E;exact⟨Heap.get_push_same _ _,by simp[aR],.inl (a0d _)⟩
  simp only[a11,a1o,ar,cond_true]
  refine⟨some ⟨H.next,0,none⟩,l.length+N.length,_,_,by rw[a02],ao _ _ (by rw[a02]),?_⟩
  refine hs.turn hi (by simp[aR]) (fun c E b0=>?_) (fun c o E=>?_) (by simp) (fun c E=>?_)
  ·show((H.put b .dead).push _).get c=_;rw[Heap.get_push_ne _ _ (by simp;omega),Heap.get_put_ne _ _ fun e=>b0 (.cells cs (some (Rp.sz α)) false) (by simp[e])]
  ·simp at E;obtain⟨rfl,rfl⟩:=E;exact⟨Heap.get_push_same (H.put b .dead) _,by simp[aR],.inl (a0d _)⟩
  simp only[aR,Heap.log_push,Heap.log_put]at E
  rcases a0w.1 E with rfl|E
  ·exact .inr (.inr ⟨.cells cs (some (Rp.sz α)) false,by simp⟩)
  exact .inl E
end
section
variable {P:Program} {G:Nat} {cf:cu} {ops:Array Oper}
theorem kh{s E:St}{d:Option Tmp}{v:Value}(h:s.put d v=some E):E.size=s.size:=by
 unfold St.put at h;cases d with
 |none=>simp only[a00]at h;rw[←h]
 |some d=>
  cases A:Nat.ble (d+1) s.size with
  |true=>simp only[A,cond_true,a00]at h;rw[←h]
  |false=>simp only[A,cond_false]at h;cases h
theorem step_size{o:Oper}{s N:St}(h:step P G cf ops o s=some N):N.size=s.size:=by
 unfold step at h;cases E:bf ops o s.tmps with
 |false=>simp only[E,cond_false]at h;exact kh h
 |true=>
  simp only[E,cond_true]at h
  cases A:o.op.operands.toList.all (bo G) with
  |false=>rw[A]at h;cases h
  |true=>
   rw[A]at h
   simp only[cond_true]at h
   split at h
   ·have:=kh h;exact this
   ·have:=kh h;exact this
   ·split at h
    ·have:=kh h;exact this
    cases h
   cases h
theorem kV: ∀(l:List Oper) (s A:St),fX P G cf ops l s=some A->A.size=s.size
 | [],_,_,h=>by rw[i8]at h;simp only[a00]at h;rw[←h]
 |o::l,s,A,h=>by
  rw[cj]at h;split at h
  ·rename_i t E;rw[kV l _ _ h,step_size E]
  cases h
theorem jF: ∀(l:List Oper) (i:Nat) (fs:List (Nat×Inf)) (s s':St),bC P G cf ops i fs l s=some s'->s'.size=s.size
 | [],_,_,_,_,h=>by unfold bC at h;simp only[a00]at h;rw[←h]
 |o::l,i,fs,s,s',h=>by
  unfold bC at h;split at h
  ·rename_i t f A;cases E:cn ops (cm ops) i f fs with
   |false=>rw[E]at h;cases h
   |true=>
    rw[E]at h
    rw[jF l _ _ _ _ h]
    unfold gP at A
    split at A
    ·rename_i T N;simp only[a00,a05]at A;rw[←A.1];have:=step_size N;exact this
    cases A
  cases h
theorem region_size{A:Bool}{s N:St}(h:bX P G cf ops A s=some N):N.size=s.size:=by
 unfold bX at h;cases A with
 |false=>exact kV _ _ _ h
 |true=>
  simp only[cond_true]at h
  cases E:bg ops&&P.follows .mixedOrders with
  |false=>rw[E]at h;cases h
  |true=>rw[E]at h;exact jF _ _ _ _ _ h
def SizeOK(ex:Code->St->Option (Ex×St)):Prop:= ∀c s e A,ex c s=some (e,A)->A.size=s.size
theorem execC_size{ex:Code->St->Option (Ex×St)}(ag:SizeOK ex):SizeOK (eJ P G ex cf):=by
 intro c;have Z: ∀{r:Option (Ex×St)} {k:St->Option (Ex×St)} {n:Nat} {e:Ex} {A:St},(∀e s,r=some (e,s)->s.size=n)->(∀s e A,s.size=n->k s=some (e,A)->A.size=n)->gu r k=some (e,A)->A.size=n:=by
  intro r k n e A hr hk h;cases N:r with
  |none=>rw[N]at h;cases h
  |some y=>
   obtain⟨U,T⟩:=y
   have E:=hr U T N
   rw[N]at h
   cases U with
   |normal=>exact hk T e A E h
   |exit i=>simp only[gu,a00,a05]at h;rw[←h.2];exact E
   |ret=>simp only[gu,a00,a05]at h;rw[←h.2];exact E
 induction c with
 |skip=>intro s e A h;rw[mO]at h;simp only[a00,a05]at h;rw[←h.2]
 |region id ops draw=>
  intro s e A h
  rw[gr]at h
  cases N:bX P G cf ops draw s with
  |none=>rw[N]at h;cases h
  |some t=>
   rw[N]at h
   simp only[dW,a00,a05]at h
   rw[←h.2];exact region_size N
 |seq a b iha ihb=>
  intro s e A h
  rw[lF]at h
  exact Z (fun e T E=>iha s e T E) (fun T e A E h2=>(ihb T e A h2).trans E) h
 |cond c t e iht ihe=>
  intro s e A h
  rw[jt]at h
  cases N:bo G c with
  |false=>rw[N]at h;cases h
  |true=>
   rw[N]at h
   simp only[cond_true]at h
   unfold mR at h
   split at h
   ·rename_i b hb;cases b with
    |true=>exact iht s _ A h
    |false=>exact ihe s _ A h
   cases h
 |block id b ih=>
  intro s e A h
  rw[ie]at h
  cases N:eJ P G ex cf b s with
  |none=>rw[N]at h;cases h
  |some y=>
   obtain⟨U,T⟩:=y
   have E:=ih s U T N
   rw[N]at h
   cases U with
   |normal=>simp only[dg,a00,a05]at h;rw[←h.2];exact E
   |exit i=>
    unfold dg at h
    cases hb:Nat.beq i id with
    |true=>simp only[hb,cond_true,a00,a05]at h;rw[←h.2];exact E
    |false=>simp only[hb,cond_false,a00,a05]at h;rw[←h.2];exact E
   |ret=>simp only[dg,a00,a05]at h;rw[←h.2];exact E
 |loop b ih=>
  intro s e A h
  rw[jr]at h
  exact Z (fun e T E=>ih s e T E) (fun T e A E h2=>(ag _ T e A h2).trans E) h
 |exit id=>intro s e A h;rw[mP]at h;simp only[a00,a05]at h;rw[←h.2]
 |ret=>intro s e A h;rw[execC_ret]at h;simp only[a00,a05]at h;rw[←h.2]
 |_=>intro s e A h;cases h
theorem exec_size{K:bM}: ∀n,SizeOK (mQ P G K n)
 |0=>fun c s e A h=>by cases h
 |n+1=>fun c=>execC_size (exec_size n) c
end
section
variable {P:Program} {G:Nat} {K:bM} {sz:Nat} {Q Q1:Ex->Fn->Heap->Prop} {c:Code} {k:List Fr} {f:Fn} {H:Heap}
theorem wk_cut(h1:WK P G K sz c [] f H Q1)(h2: ∀A H',Q1 .normal A H'->WK P G K sz .skip k A H' Q)(h3: ∀i A H',Q1 (.exit i) A H'->WK P G K sz (.exit i) k A H' Q)(h4: ∀A H',Q1 .ret A H'->Q .ret A H'):
  WK P G K sz c k f H Q:=⟨fun t ht=>by
 obtain⟨E,e,s1,hx,hq⟩:=h1.out t ht
 have U:mQ P G K (E+1) c ⟨t,sz,H⟩=some (e,s1):=hx
 have ao:=exec_size _ _ _ _ _ U
 obtain⟨Z,N,H1⟩:=s1
 have al:N=sz:=ao
 subst al
 cases e with
 |ret=>exact⟨E,.ret,_,by rw[U];exact ke k,h4 _ _ hq⟩
 |normal=>
  obtain⟨T,e,s',h5,h6⟩:=(h2 _ _ hq).out Z V
  refine⟨Nat.max E T,e,s',?_,h6⟩
  refine dY (a1C (a1t E T)) k _ _ (fun x aa=>?_) _ h5
  have:x=(.normal,⟨Z,N,H1⟩):=by have:some (Ex.normal,(⟨Z,N,H1⟩:St))=some x:=aa;exact(Option.some.inj this).symm
  subst this
  exact iU (a1C (a23 E T)) _ _ _ U
 |exit i=>
  obtain⟨T,e,s',h5,h6⟩:=(h3 i _ _ hq).out Z V
  refine⟨Nat.max E T,e,s',?_,h6⟩
  refine dY (a1C (a1t E T)) k _ _ (fun x aa=>?_) _ h5
  have:x=(.exit i,⟨Z,N,H1⟩):=by have:some (Ex.exit i,(⟨Z,N,H1⟩:St))=some x:=aa;exact(Option.some.inj this).symm
  subst this
  exact iU (a1C (a23 E T)) _ _ _ U⟩
def inR(lo hi:Nat)(ex:List Nat)(j:Nat):Bool:=(Nat.ble lo j&&Nat.ble j hi)||memB j ex
def hav(lo hi:Nat)(ex:List Nat)(g f:Fn):Fn:=fun j=>bif inR lo hi ex j then g j else f j
structure Leaves(lo hi:Nat)(ex:List Nat)(f f':Fn):Prop where
 out: ∀j,inR lo hi ex j=false->f' j=f j
theorem Leaves.refl{lo hi:Nat}{ex:List Nat}{f:Fn}:Leaves lo hi ex f f:=⟨fun _ _=>rfl⟩
theorem Leaves.upd{lo hi:Nat}{ex:List Nat}{f E:Fn}{i:Nat}{v:Value}(N:inR lo hi ex i=true)(h:Leaves lo hi ex f E):Leaves lo hi ex f (upd E i v):=⟨fun j A=>by
 unfold Go.R.upd;cases T:Nat.beq i j with
 |true=>have:=a0c T;subst this;rw[N]at A;cases A
 |false=>exact h.out j A⟩
theorem Leaves.eq{lo hi:Nat}{ex:List Nat}{f A:Fn}(h:Leaves lo hi ex f A):A=hav lo hi ex A f:=by
 funext j;unfold hav;cases E:inR lo hi ex j with
 |true=>rfl
 |false=>exact h.out j E
theorem wk_rcut{id:Nat}{ops:Array Oper}{E:Bool}(lo hi:Nat)(ex:List Nat)(l:List (Nat×Value))(N:Heap->Prop)
  (T:WK P G K sz (.region id ops E) [] f H fun e A H'=>e= .normal/\N H'/\Leaves lo hi ex f A/\aA A l)
  (U: ∀g H',N H'->WK P G K sz .skip k (gJ (hav lo hi ex g f) l) H' Q):WK P G K sz (.region id ops E) k f H Q:=by
 refine wk_cut T ?_ ?_ ?_
 ·rintro A H' ⟨_,hH,hl,ha⟩;have:=U A H' hH;rw[←hl.eq,fb ha]at this;exact this
 ·rintro i A H' ⟨h,_⟩;cases h
 rintro A H' ⟨h,_⟩;cases h
end
inductive ID where
 |v
 |a
 |r
 |l (b:Nat)
 |x (W:List Nat)
 |q (S:Nat->Prop)
 |n (B:Nat)
 |s (W:List Nat)
def ID.fits:ID->Inf->Prop
 | .v,g=>g= .v
 | .a,g=> ∃b,g= .a b
 | .r,g=>gv g=true
 | .l b,g=>g= .l b
 | .x W,g=> ∃w,g= .x w/\∀b,b∈w->b∈W
 | .q S,g=>g= .v\/∃b,g= .l b/\S b
 | .n B,g=> ∃b,g= .a b/\B<=b
 | .s W,g=> ∃w,g= .x w/\∀b,b∈w->b∈W
def ID.nilW:List Nat->Prop
 | []=>True
 |_=>False
def cD:ID->ID->Prop
 | .v,_=>True
 |_,.v=>True
 | .q S,.x W=> ∀b,b∈W->¬S b
 | .x W,.q S=> ∀b,b∈W->¬S b
 | .l b,.x W=>b∉W
 | .x W,.l b=>b∉W
 | .x W,.x U=>ID.nilW W/\ID.nilW U
 | .n B,.x W=> ∀b,b∈W->b<B
 | .x _,.n _=>True
 | .a,.x W=>ID.nilW W
 | .r,.x W=>ID.nilW W
 | .x _,.a=>True
 | .x W,.r=>ID.nilW W
 |_,_=>True
def ID.u:ID->ID
 | .s W=> .x W
 |d=>d
def cE(ops:Array Oper)(j i:Nat):ID->ID->Prop
 | .s W,.s U=>stAt ops j=true/\stAt ops i=true/\∀b,b∈W->b∉U
 |e,d=>cD e.u d.u
theorem ID.fits_u: ∀{d:ID} {g:Inf},d.fits g->d.u.fits g
 | .v,_,h=>h
 | .a,_,h=>h
 | .r,_,h=>h
 | .l _,_,h=>h
 | .x _,_,h=>h
 | .q _,_,h=>h
 | .n _,_,h=>h
 | .s _,_,h=>h
theorem dO{b:Nat}: ∀{l:List Nat},b∉l->memB b l=false
 | [],_=>rfl
 |c::l,h=>by
  simp only[a0w,not_or]at h;unfold memB;have:Nat.beq b c=false:=by
   cases A:Nat.beq b c with
   |false=>rfl
   |true=>exact absurd (a0c A) h.1
  rw[this,dO h.2];rfl
theorem bR: ∀{d:ID} {g:Inf},d.fits g->(∀W,d≠ .x W)->(∀W,d≠ .s W)->gv g=true
 | .v,_,h,_,_=>by subst h;rfl
 | .a,_,⟨_,h⟩,_,_=>by subst h;rfl
 | .r,_,h,_,_=>h
 | .l _,_,h,_,_=>by subst h;rfl
 | .x W,_,_,h,_=>absurd V (h W)
 | .q _,_,h,_,_=>by rcases h with rfl|⟨_,rfl,_⟩<;>rfl
 | .n _,_,h,_,_=>by obtain⟨_,rfl,_⟩:=h;rfl
 | .s W,_,_,_,h=>absurd V (h W)
theorem eI{W:List Nat}{g:Inf}(h:ID.nilW W)(A:ID.fits (.x W) g):gv g=true:=by
 obtain⟨w,rfl,E⟩:=A;cases W with
 |nil=>
  cases w with
  |nil=>rfl
  |cons a t=>have:=E a (by simp);simp at this
 |cons _ _=>exact absurd h id
theorem compat_of{d e:ID}{f g:Inf}(E:d.fits f)(A:e.fits g)(h:cD d e)(T: ∀W,d≠ .s W)(Z: ∀W,e≠ .s W):dq f g=true:=by
 have N:gv f=true->gv g=true->dq f g=true:=nY;cases d with
 |v=>rw[show f= .v from E];rfl
 |a=>
  cases e with
  |x W=>exact N (bR E (by intro W h;cases h) T) (eI h A)
  |v=>rw[show g= .v from A];cases f<;>rfl
  |_=>exact N (bR E (by intro W h;cases h) T) (bR A (by intro W h;cases h) Z)
 |r=>
  cases e with
  |x W=>exact N (bR E (by intro W h;cases h) T) (eI h A)
  |v=>rw[show g= .v from A];cases f<;>rfl
  |_=>exact N (bR E (by intro W h;cases h) T) (bR A (by intro W h;cases h) Z)
 |l b=>
  cases e with
  |x W=>
   obtain⟨w,rfl,hw⟩:=A
   rw[show f= .l b from E]
   show(!memB b w)=true
   rw[dO fun hb=>h (hw b hb)];rfl
  |v=>rw[show g= .v from A];cases f<;>rfl
  |_=>exact N (bR E (by intro W h;cases h) T) (bR A (by intro W h;cases h) Z)
 |x W=>
  cases e with
  |v=>rw[show g= .v from A];cases f<;>rfl
  |a=>obtain⟨b,rfl⟩:=A;obtain⟨w,rfl,_⟩:=E;rfl
  |n B=>obtain⟨b,rfl,_⟩:=A;obtain⟨w,rfl,_⟩:=E;rfl
  |r=>exact N (eI h E) A
  |q S=>
   obtain⟨w,rfl,hw⟩:=E
   rcases A with rfl|⟨b,rfl,hb⟩
   ·rfl
   show(!memB b w)=true
   rw[dO fun hm=>h b (hw b hm) hb];rfl
  |l b=>
   obtain⟨w,rfl,hw⟩:=E
   rw[show g= .l b from A]
   show(!memB b w)=true
   rw[dO fun hb=>h (hw b hb)];rfl
  |x U=>exact N (eI h.1 E) (eI h.2 A)
  |s U=>exact absurd V (Z U)
 |q S=>
  cases e with
  |x W=>
   obtain⟨w,rfl,hw⟩:=A
   rcases E with rfl|⟨b,rfl,hb⟩
   ·rfl
   show(!memB b w)=true
   rw[dO fun hm=>h b (hw b hm) hb];rfl
  |v=>rw[show g= .v from A];cases f<;>rfl
  |_=>exact N (bR E (by intro W h;cases h) T) (bR A (by intro W h;cases h) Z)
 |n B=>
  cases e with
  |x W=>
   obtain⟨w,rfl,hw⟩:=A
   obtain⟨b,rfl,hb⟩:=E
   show(!memB b w)=true
   rw[dO fun hm=>absurd (h b (hw b hm)) (Nat.not_lt_of_le hb)];rfl
  |v=>rw[show g= .v from A];cases f<;>rfl
  |_=>exact N (bR E (by intro W h;cases h) T) (bR A (by intro W h;cases h) Z)
 |s W=>exact absurd V (T W)
theorem ID.u_ns(d:ID)(W:List Nat):d.u≠ .s W:=by cases d<;>(intro q;cases q)
theorem disj_of{w u:List Nat}:(∀b,b∈w->b∉u)->disjL w u=true:=by
 induction w with
 |nil=>intro _;rfl
 |cons b w ih=>
  intro h
  unfold disjL
  rw[dO (h b (by simp)),ih fun c hc=>h c (by simp[hc])];rfl
theorem cE_ok{ops:Array Oper}{j i:Nat}{d e:ID}{f g:Inf}(T:e.fits g)(N:d.fits f)(h:cE ops j i e d):(dq g f||stst ops j i g f)=true:=by
 rw[a0C];have A:cD e.u d.u->dq g f=true:=fun h=>compat_of (ID.fits_u T) (ID.fits_u N) h e.u_ns d.u_ns
 cases e with
 |s W=>
  cases d with
  |s U=>
   right
   obtain⟨Z,h2,h3⟩:=h
   obtain⟨w,rfl,hw⟩:=T
   obtain⟨u,rfl,hu⟩:=N
   unfold stst
   rw[Z,h2]
   exact disj_of fun b hb E=>h3 b (hw b hb) (hu b E)
  |_=>exact .inl (A h)
 |_=>cases d<;>exact .inl (A h)
def FsD:List (Nat×Inf)->List (Nat×ID)->Prop
 | [],[]=>True
 |(j,g)::fs,(i,d)::D=>j=i/\d.fits g/\FsD fs D
 |_,_=>False
def okD(ops:Array Oper)(i:Nat)(d:ID):List (Nat×ID)->Prop
 | []=>True
 |(j,e)::D=>(bn (cm ops) j i=true\/cE ops j i e d)/\okD ops i d D
theorem dT{ops:Array Oper}{i:Nat}{d:ID}{f:Inf}(A:d.fits f): ∀{fs:List (Nat×Inf)} {D:List (Nat×ID)},FsD fs D->okD ops i d D->cn ops (cm ops) i f fs=true
 | [],[],_,_=>rfl
 |(j,g)::fs,(_,e)::D,⟨rfl,h2,h3⟩,⟨h4,h5⟩=>by
  unfold cn;rw[dT A h3 h5,a13];rcases h4 with h4|h4
  ·rw[h4];rfl
  rw[a0C];exact .inr (cE_ok h2 A h4)
 | [],_::_,h,_=>absurd h id
 |_::_,[],h,_=>absurd h id
section
variable {P:Program} {G:Nat} {K:bM} {sz:Nat} {Q:Ex->Fn->Heap->Prop} {ops:Array Oper} {D:List (Nat×ID)} {i:Nat} {os:List Oper} {k:List Fr} {f:Fn} {H H1:Heap} {v:Value}
 {d:Tmp} {op:Op} {ty:TypeId} {pos:String} {af:Array Edge}
structure WF2(P:Program)(G:Nat)(K:bM)(sz:Nat)(ops:Array Oper)(D:List (Nat×ID))(i:Nat)(os:List Oper)(k:List Fr)(f:Fn)(H:Heap)(Q:Ex->Fn->Heap->Prop):Prop where
 out: ∀t fs,cU t=f->FsD fs D->∃n e s',runK P G K (n+1) k (dW (bC P G (call P G K n) ops i fs os ⟨t,sz,H⟩))=some (e,s')/\Q e (cU s'.tmps) s'.heap
theorem aC{id:Nat}(N:(bg ops&&P.follows .mixedOrders)=true)(h:WF2 P G K sz ops [] 0 ops.toList k f H Q):WK P G K sz (.region id ops true) k f H Q:=⟨fun t T=>by
 obtain⟨n,e,U,A,E⟩:=h.out t [] T trivial;refine⟨n,e,U,?_,E⟩;have:mQ P G K (n+1) (.region id ops true) ⟨t,sz,H⟩=dW (bC P G (call P G K n) ops 0 [] ops.toList ⟨t,sz,H⟩):=by show dW (bX P G (call P G K n) ops true ⟨t,sz,H⟩)=_;unfold bX;simp only[cond_true,N]
 rw[this];exact A⟩
theorem gM(h:WK P G K sz .skip k f H Q):WF2 P G K sz ops D i [] k f H Q:=⟨fun t fs N _=>by
 obtain⟨n,e,T,A,E⟩:=h.out t N;exact⟨n,e,T,by unfold bC;exact A,E⟩⟩
def Did(ops:Array Oper)(f:Fn)(o:Oper)(n:Nat)(log:List Nat)(d:ID):Prop:= ∀t sz H,cU t=f->d.fits (d8 ops o ⟨t,sz,H⟩ n log)
theorem did_v{o:Oper}{n:Nat}{log:List Nat}(h:aY o.op=true):Did ops f o n log .v:=fun _ _ _ _=>infOf_value h
theorem did_a{o:Oper}{n:Nat}{log:List Nat}(E:o.guard=none)(A:aY o.op=false)(h:dN o.op=true):Did ops f o n log .a:=fun t sz H _=>by unfold d8 bf;simp only[E,a1E,A,Bool.or_self,cond_false,h,cond_true];exact⟨_,V⟩
theorem gf{A:Option Tmp}{lt:TypeId}{a:Operand}{n b o:Nat}{log:List Nat}(E:cJ f a= .pointer (some ⟨b,o,none⟩)):Did ops f ⟨A,.load lt a,ty,pos,af,none⟩ n log (.l b):=fun t sz H N=>by
 have:cI t a= .pointer (some ⟨b,o,none⟩):=by rw[ew,N];exact E
 unfold d8 bf;simp only[a1E,a21,cond_false,dN,aY,this];rfl
theorem gF{n b:Nat}{l:List Nat}(h:b∈dK n l):b∈l/\b<n:=by
 induction l with
 |nil=>simp[dK]at h
 |cons c l ih=>
  unfold dK at h
  cases A:Nat.ble n c with
  |true=>
   rw[A]at h
   have:=ih h
   exact⟨a0i _ this.1,this.2⟩
  |false=>
   rw[A]at h
   rcases a0w.1 h with rfl|h
   ·refine⟨a0q ..,?_⟩;rcases a0k b n with h1|h1
    ·exact h1
    rw[a0y h1]at A;cases A
   have:=ih h
   exact⟨a0i _ this.1,this.2⟩
theorem did_r{o:Oper}{n:Nat}{log:List Nat}(h: ∀b,b∈log->n<=b):Did ops f o n log .r:=fun t sz H _=>infOf_benign (below_nil h)
theorem did_q{A:Option Tmp}{lt:TypeId}{x:Operand}{lo hi U:Option Operand}{n k m:Nat}{a:Option Addr}{log:List Nat}{S:Nat->Prop}(T:cJ f x= .slice a k m)(E: ∀p,a=some p->S p.block):Did ops f ⟨A,.slice lt x lo hi U,ty,pos,af,none⟩ n log (.q S):=fun t sz H N=>by
 have:cI t x= .slice a k m:=by rw[ew,N];exact T
 unfold d8 bf;simp only[a1E,a21,cond_false,dN,aY,this];cases a with
 |none=>exact .inl V
 |some p=>exact .inr ⟨_,V,E p V⟩
theorem nP{A:Option Tmp}{x:Operand}{T:Array TypeId}{n k m:Nat}{a:Option Addr}{log:List Nat}(N:cJ f x= .slice a k m):Did ops f ⟨A,.call ⟨.builtin .len, #[x],T⟩,ty,pos,af,none⟩ n log .v:=fun t sz H E=>by
 have:cI t x= .slice a k m:=by rw[ew,E];exact N
 unfold d8 bf;simp only[a1E,a21,cond_false,dN,aY];show ID.fits .v (match dJ (cI t) [x] with| [.slice _ _ _]=>Inf.v| [.string _]=> .v|_=> .x (dK n log));show ID.fits .v (match [cI t x] with| [.slice _ _ _]=>Inf.v| [.string _]=> .v|_=> .x (dK n log));rw[this];rfl
def gj:Op->Bool
 | .load _ _| .slice _ _ _ _ _| .call ⟨.builtin .len,_,_⟩=>false
 |o=> !aY o&& !dN o
theorem dh{o:Oper}{n:Nat}{log:List Nat}{W:List Nat}(Z:o.guard=none)(A:gj o.op=true)(h: ∀b,b∈log->n<=b\/b∈W):Did ops f o n log (.x W):=fun t sz H _=>by
 have N:aY o.op=false/\dN o.op=false:=by
  unfold gj at A;split at A
  ·cases A
  ·cases A
  ·cases A
  simpa using A
 refine⟨dK n log,?_,fun b U=>?_⟩
 ·unfold d8 bf;simp only[Z,a1E,N.1,N.2,Bool.or_self,cond_false];split
  ·rename_i E;rw[E]at A;cases A
  ·rename_i E;rw[E]at A;cases A
  ·rename_i E;rw[E]at A;cases A
  rfl
 obtain⟨T,h2⟩:=gF U;rcases h b T with h3|h3
 ·omega
 exact h3
theorem wf_val{id:ID}(ha:AP P (cJ f) ⟨some d,op,ty,pos,af,none⟩ {H with log:=[]} (.val v,H1))(ho:op.operands.toList.all (bo G)=true)(hd:Nat.ble (d+1) sz=true)
  (T:Did ops f ⟨some d,op,ty,pos,af,none⟩ H.next H1.log id) (U:okD ops i id D)
  (h: ∀l,(∀b,b∈l->b∈H1.log\/b∈H.log)->WF2 P G K sz ops ((i,id)::D) (i+1) os k (upd f d v) {H1 with log:=l} Q):WF2 P G K sz ops D i (⟨some d,op,ty,pos,af,none⟩::os) k f H Q:=⟨fun t fs N E=>by
 obtain⟨t',Z,h2⟩:=ny (P:=P) (G:=G) (ops:=ops) (t:=t) (sz:=sz) (o:=⟨some d,op,ty,pos,af,none⟩) V ho (by rw[N];exact ha.eq) hd
 have hi:=T t sz H N
 obtain⟨n,e,s',h3,h4⟩:=(h (dK H.next H1.log++H.log) (fun b A=>by
  rcases a09.1 A with A|A
  ·exact .inl (gF A).1
  exact .inr A)).out t' ((i,d8 ops ⟨some d,op,ty,pos,af,none⟩ ⟨t,sz,H⟩ H.next H1.log)::fs) (by rw[h2,N];rfl) ⟨V,hi,E⟩
 refine⟨n,e,s',?_,h4⟩
 unfold bC gP
 rw[Z]
 simp only[dT hi E U,cond_true]
 exact h3⟩
theorem bj{id:ID}(ha:AP P (cJ f) ⟨some d,op,ty,pos,af,none⟩ {H with log:=[]} (.val v,{H with log:=[]}))(ho:op.operands.toList.all (bo G)=true)(hd:Nat.ble (d+1) sz=true)
  (N:Did ops f ⟨some d,op,ty,pos,af,none⟩ H.next [] id) (T:okD ops i id D)
  (h:WF2 P G K sz ops ((i,id)::D) (i+1) os k (upd f d v) H Q):WF2 P G K sz ops D i (⟨some d,op,ty,pos,af,none⟩::os) k f H Q:=⟨fun t fs E A=>by
 obtain⟨t',U,Z⟩:=ny (P:=P) (G:=G) (ops:=ops) (t:=t) (sz:=sz) (o:=⟨some d,op,ty,pos,af,none⟩) V ho (by rw[E];exact ha.eq) hd
 have hi:=N t sz H E
 obtain⟨n,e,s',h3,h4⟩:=h.out t' ((i,d8 ops ⟨some d,op,ty,pos,af,none⟩ ⟨t,sz,H⟩ H.next [])::fs) (by rw[Z,E];rfl) ⟨V,hi,A⟩
 refine⟨n,e,s',?_,h4⟩
 unfold bC gP
 rw[U]
 simp only[dT hi A T,cond_true,dK,a14]
 exact h3⟩
theorem wf_skip{id:ID}(ha:AP P (cJ f) ⟨none,op,ty,pos,af,none⟩ {H with log:=[]} (.skip,H1))(ho:op.operands.toList.all (bo G)=true)
  (T:Did ops f ⟨none,op,ty,pos,af,none⟩ H.next H1.log id) (U:okD ops i id D)
  (h: ∀l,(∀b,b∈l->b∈H1.log\/b∈H.log)->WF2 P G K sz ops ((i,id)::D) (i+1) os k f {H1 with log:=l} Q):WF2 P G K sz ops D i (⟨none,op,ty,pos,af,none⟩::os) k f H Q:=⟨fun t fs N E=>by
 obtain⟨t',Z,h2⟩:=step_skip (P:=P) (G:=G) (ops:=ops) (t:=t) (sz:=sz) (o:=⟨none,op,ty,pos,af,none⟩) V ho (by rw[N];exact ha.eq) V
 have hi:=T t sz H N
 obtain⟨n,e,s',h3,h4⟩:=(h (dK H.next H1.log++H.log) (fun b A=>by
  rcases a09.1 A with A|A
  ·exact .inl (gF A).1
  exact .inr A)).out t' ((i,d8 ops ⟨none,op,ty,pos,af,none⟩ ⟨t,sz,H⟩ H.next H1.log)::fs) (by rw[h2,N];rfl) ⟨V,hi,E⟩
 refine⟨n,e,s',?_,h4⟩
 unfold bC gP
 rw[Z]
 simp only[dT hi E U,cond_true]
 exact h3⟩
theorem aQ{W:List Nat}{g:FuncId}{args:List Value}{R:Value->Heap->Prop}(ha:AP P (cJ f) ⟨some d,op,ty,pos,af,none⟩ {H with log:=[]} (.enter g args,{H with log:=[]}))(ho:op.operands.toList.all (bo G)=true)(hd:Nat.ble (d+1) sz=true)(hk:gj op=true)
  (hc:C P G K g args {H with log:=[]} R) (an:okD ops i (.x W) D)
  (h: ∀v A,R v A->(∀b,b∈A.log->H.next<=b\/b∈W)/\∀l,(∀b,b∈l->b∈A.log\/b∈H.log)->WF2 P G K sz ops ((i,.x W)::D) (i+1) os k (upd f d v) {A with log:=l} Q):WF2 P G K sz ops D i (⟨some d,op,ty,pos,af,none⟩::os) k f H Q:=⟨fun t fs ht Z=>by
 obtain⟨T,v,A,al,hr⟩:=hc.out
 obtain⟨aa,h0⟩:=h v A hr
 obtain⟨t',h1,h2⟩:=jG (s:=⟨t,sz,A⟩) (d:=some d) (v:=v) hd
 have hi:=dh (ops:=ops) (f:=f) (o:=⟨some d,op,ty,pos,af,none⟩) V hk aa t sz H ht
 obtain⟨E,e,s',h3,h4⟩:=(h0 (dK H.next A.log++H.log) (fun b N=>by
  rcases a09.1 N with N|N
  ·exact .inl (gF N).1
  exact .inr N)).out t' ((i,d8 ops ⟨some d,op,ty,pos,af,none⟩ ⟨t,sz,H⟩ H.next A.log)::fs) (by rw[h2,ht];rfl) ⟨V,hi,Z⟩
 refine⟨Nat.max T E,e,s',?_,h4⟩
 have ao:step P G (call P G K (Nat.max T E)) ops ⟨some d,op,ty,pos,af,none⟩ ⟨t,sz,{H with log:=[]}⟩=some ⟨t',sz,A⟩:=by unfold step bf;simp only[cond_true,ho,ew,ht,ha.eq,fl (a23 T E) _ _ _ _ al];exact h1
 unfold bC gP
 rw[ao]
 simp only[dT hi Z an,cond_true]
 refine dY (a1C (a1t T E)) k _ _ (fun x U=>?_) _ h3
 cases hq:bC P G (call P G K E) ops (i+1) ((i,d8 ops ⟨some d,op,ty,pos,af,none⟩ ⟨t,sz,H⟩ H.next A.log)::fs) os ⟨t',sz,{A with log:=dK H.next A.log++H.log}⟩ with
 |none=>rw[hq]at U;cases U
 |some y=>
  have:=eO (fl (P:=P) (G:=G) (K:=K) (a1t T E)) _ _ _ _ _ hq
  rw[hq]at U
  rw[this];exact U⟩
theorem inf_guard{t:Tr Value}{v want:Bool}{j:Nat}{A:Option Tmp}(T:cU t=f)(Z:cQ ops f j=some v)(U:v=want)(sz:Nat)(H:Heap)(n:Nat)(log:List Nat):
  d8 ops ⟨A,op,ty,pos,af,some (j,want)⟩ ⟨t,sz,H⟩ n log=d8 ops ⟨A,op,ty,pos,af,none⟩ ⟨t,sz,H⟩ n log:=by
 have E:bf ops ⟨A,op,ty,pos,af,some (j,want)⟩ t=true:=by rw[iw T Z _ V,U];cases want<;>rfl
 have N:bf ops ⟨A,op,ty,pos,af,none⟩ t=true:=rfl
 unfold d8
 simp only[E,N]
theorem wf_gt{v want:Bool}{j:Nat}{E:Option Tmp}(hy:cQ ops f j=some v)(Z:v=want)(h:WF2 P G K sz ops D i (⟨E,op,ty,pos,af,none⟩::os) k f H Q):WF2 P G K sz ops D i (⟨E,op,ty,pos,af,some (j,want)⟩::os) k f H Q:=⟨fun t fs N T=>by
 obtain⟨n,e,s',A,h2⟩:=h.out t fs N T;refine⟨n,e,s',?_,h2⟩;unfold bC gP at A⊢;rw[my N hy Z];cases U:step P G (call P G K n) ops ⟨E,op,ty,pos,af,none⟩ ⟨t,sz,{H with log:=[]}⟩ with
 |none=>rw[U]at A;exact A
 |some s1=>
  rw[U]at A
  simp only[inf_guard N hy Z]
  exact A⟩
theorem kI{want:Bool}{j:Nat}(hw: ∀t,cU t=f->bf ops ⟨some d,op,ty,pos,af,some (j,want)⟩ t=false)(hd:Nat.ble (d+1) sz=true)
  (h:WF2 P G K sz ops ((i,.v)::D) (i+1) os k (upd f d undef) H Q):WF2 P G K sz ops D i (⟨some d,op,ty,pos,af,some (j,want)⟩::os) k f H Q:=⟨fun t fs T E=>by
 obtain⟨U,h3,h4⟩:=jG (s:=⟨t,sz,{H with log:=[]}⟩) (d:=some d) (v:=undef) hd
 have A:=hw t T
 have hi:d8 ops ⟨some d,op,ty,pos,af,some (j,want)⟩ ⟨t,sz,H⟩ H.next []= .v:=by unfold d8;simp only[A,a1x,Bool.true_or,cond_true]
 obtain⟨n,e,s',Z,h2⟩:=h.out U ((i,.v)::fs) (by rw[h4,T];rfl) ⟨V,V,E⟩
 refine⟨n,e,s',?_,h2⟩
 have N:step P G (call P G K n) ops ⟨some d,op,ty,pos,af,some (j,want)⟩ ⟨t,sz,{H with log:=[]}⟩=some ⟨U,sz,{H with log:=[]}⟩:=by unfold step;simp only[A,cond_false];exact h3
 have hc:cn ops (cm ops) i .v fs=true:=jQ fun j g _=>by cases g<;>simp[dq]
 unfold bC gP
 rw[N]
 simp only[hi,hc,cond_true,dK,a14]
 exact Z⟩
theorem wf_gf{v want:Bool}{j:Nat}(T:cQ ops f j=some v)(N:v= !want)(A:Nat.ble (d+1) sz=true)(h:WF2 P G K sz ops ((i,.v)::D) (i+1) os k (upd f d undef) H Q):
  WF2 P G K sz ops D i (⟨some d,op,ty,pos,af,some (j,want)⟩::os) k f H Q:=
 kI (fun t E=>by rw[iw E T _ V,N];cases want<;>rfl) A h
theorem wf_gn{want:Bool}{j:Nat}(N:cQ ops f j=none)(A:Nat.ble (d+1) sz=true)(h:WF2 P G K sz ops ((i,.v)::D) (i+1) os k (upd f d undef) H Q):
  WF2 P G K sz ops D i (⟨some d,op,ty,pos,af,some (j,want)⟩::os) k f H Q:=
 kI (fun t E=>by
  unfold bf;have:mn ops t j=none:=by rw[←N,←E];rfl
  simp only[this];cases want<;>rfl) A h
end
theorem w_i64{n:Int}(h:in64 n):IntKind.i64.wrap n=n:=by
 have e:IntKind.i64.wrap n=if(true&&decide (n%(2^64:Int)>=(2^63:Int))) then n%(2^64:Int)-(2^64:Int) else n%(2^64:Int):=rfl
 rw[e];obtain⟨E,N⟩:=h;by_cases A:0<=n
 ·rw[Int.emod_eq_of_lt A M];have:decide (n>=(2^63:Int))=false:=decide_eq_false M;rw[this];rfl
 have:n%(2^64:Int)=n+2^64:=M
 rw[this];have:decide (n+2^64>=(2^63:Int))=true:=decide_eq_true M;rw[this];simp only[a1o,if_true];omega
theorem w_u64{n:Int}(h:0<=n/\n<18446744073709551616):IntKind.u64.wrap n=n:=by show n%(2^64:Int)=n;exact Int.emod_eq_of_lt h.1 M
theorem w_u8{n:Int}(h:0<=n/\n<256):IntKind.u8.wrap n=n:=by show n%(2^8:Int)=n;exact Int.emod_eq_of_lt h.1 M
section
variable {α:Type} [Rp α] {P:Program} {ρ:Operand->Value} {d:Option Tmp} {ty:TypeId} {pos:String} {af:Array Edge} {gd:Option (Nat×Bool)} {B:Base} {F:Fz} {H:Heap} {L R:List Fp} {v:Value} {l:List α} {p:Fp}
variable {t yt:TypeId} {x y:Operand} {k:IntKind} {a b c:Int}
theorem hZ(k:IntKind):mE k k=true:=by cases k<;>rfl
theorem ap_add(E:ρ x= .int k a)(N:ρ y= .int k b)(A:k.wrap (a+b)=c):AP P ρ ⟨d,.binOp .add t x y yt,ty,pos,af,gd⟩ H (.val (.int k c),H):=
 ap_int E N (by subst A;show(bif mE k k then _ else none:Option Value)=_;rw[hZ];rfl)
theorem ap_cmp{op:BinOp}{r:Bool}(E:ρ x= .int k a)(N:ρ y= .int k b)(A:mJ op k a b=some (.bool r))(hs:lC op=false):AP P ρ ⟨d,.binOp op t x y yt,ty,pos,af,gd⟩ H (.val (.bool r),H):=
 ap_int E N (by rw[hs,hZ];exact A)
variable {s u:List UInt8}
theorem ap_idxS{i:Operand}{E:IntKind}{j:Int}{A:UInt8}(T:ρ x= .string ⟨⟨s⟩⟩)(hi:ρ i= .int E j)(N:P.underlying t=some .string)(h0:0<=j)(hc:s[j.toNat]?=some A):
  AP P ρ ⟨d,.index t x i,ty,pos,af,gd⟩ H (.val (.int .u8 A.toNat),H):=by
 refine⟨?_⟩
 obtain⟨m,rfl⟩:=a19 h0
 show lT P t (ρ x) (ρ i) H=_
 rw[T,hi]
 show ovl (strAt P t ⟨⟨s⟩⟩ (.int E (Int.ofNat m))) H=_
 unfold strAt
 rw[N]
 show ovl (match nth s m with|some b=>some (.int .u8 b.toNat)|none=>none) H=_
 rw[fZ]
 have:s[m]?=some A:=hc
 rw[this];rfl
theorem ap_eqS(A:ρ x= .string ⟨⟨s⟩⟩)(E:ρ y= .string ⟨⟨u⟩⟩):AP P ρ ⟨d,.binOp .eql t x y yt,ty,pos,af,gd⟩ H (.val (.bool (s==u)),H):=ap_str A E V
theorem ap_neS(A:ρ x= .string ⟨⟨s⟩⟩)(E:ρ y= .string ⟨⟨u⟩⟩):AP P ρ ⟨d,.binOp .neq t x y yt,ty,pos,af,gd⟩ H (.val (.bool (s !=u)),H):=ap_str A E V
theorem ap_leS(A:ρ x= .string ⟨⟨s⟩⟩)(E:ρ y= .string ⟨⟨u⟩⟩):AP P ρ ⟨d,.binOp .leq t x y yt,ty,pos,af,gd⟩ H (.val (.bool (Op.bytesLess s u||s==u)),H):=ap_str A E V
theorem ap_ltS(A:ρ x= .string ⟨⟨s⟩⟩)(E:ρ y= .string ⟨⟨u⟩⟩):AP P ρ ⟨d,.binOp .lss t x y yt,ty,pos,af,gd⟩ H (.val (.bool (Op.bytesLess s u)),H):=ap_str A E V
theorem ap_addS(E:ρ x= .string ⟨⟨s⟩⟩)(N:ρ y= .string ⟨⟨u⟩⟩)(A:s.length+u.length<=1099511627776):AP P ρ ⟨d,.binOp .add t x y yt,ty,pos,af,gd⟩ H (.val (.string ⟨⟨s++u⟩⟩),H):=
 ap_str E N (by
  show(bif Nat.ble (eA (appL s u)) 1099511627776 then some (Value.string ⟨⟨appL s u⟩⟩) else none)=_;rw[dS,bG,a02,a0y A];rfl)
theorem lN{n k i j:Nat}{lo hi:Option Value}(E:bU n hi=some j)(N:bU 0 lo=some i)(A:i<=j)(T:j<=k):bnds n k lo hi=some (i,j):=by unfold bnds;simp only[E,N,a0y A,a0y T,a1o,cond_true]
theorem optN{d:Nat}{A:IntKind}{j:Int}(h0:0<=j):bU d (some (.int A j))=some j.toNat:=by obtain⟨m,rfl⟩:=a19 h0;rfl
theorem optN0{d:Nat}:bU d none=some d:=rfl
theorem ap_slS{lo hi:Option Operand}{i j:Nat}(Z:ρ x= .string ⟨⟨s⟩⟩)(U:P.underlying t=some .string)(E:bU s.length (hi.map ρ)=some j)(N:bU 0 (lo.map ρ)=some i)(A:i<=j)(T:j<=s.length):
  AP P ρ ⟨d,.slice t x lo hi none,ty,pos,af,gd⟩ H (.val (.string ⟨⟨(s.drop i).take (j-i)⟩⟩),H):=by
 refine⟨?_⟩
 show ovl (bA P t (ρ x) (lo.map ρ) (hi.map ρ) (Option.map ρ none) H) H=_
 rw[Z]
 unfold bA
 simp only[a25,U]
 show ovl (match bnds (eA s) (eA s) (lo.map ρ) (hi.map ρ) with|some (l,r)=>some (.string ⟨⟨dX (d3 s l) (r-l)⟩⟩)|none=>none) H=_
 rw[bG,lN E N A T]
 simp only[bS,ca];rfl
theorem Sl_cut{F:Fz}{o:AObj}{off k i j:Nat}{l:List α}(h:Sl F o off k l)(ai:i<=j)(hj:j<=l.length):Sl F o (off+i *Rp.sz α) (k-i) ((l.take j).drop i):=by
 obtain⟨cs,U,ro,rfl,E,h2,N,Z⟩:=h;have hl:=N.length;have A:((l.take j).drop i).length=j-i:=by simp;omega
 refine⟨cs,U,ro,V,fun T=>?_,by rw[A];omega,?_,Z⟩
 ·replace E:=E T;have:i *Rp.sz α+(k-i) *Rp.sz α=k *Rp.sz α:=by rw[←a12];congr 1;omega
  omega
 have h5:=(N.take j).drop i;have e:((cs.drop (off+i *Rp.sz α)).take (((l.take j).drop i).length *Rp.sz α))=(((cs.drop off).take (l.length *Rp.sz α)).take (j *Rp.sz α)).drop (i *Rp.sz α):=by rw[A,a2v,a2t,List.drop_drop];congr 1;have:j *Rp.sz α<=l.length *Rp.sz α:=a0B _ hj;rw[a1S this,Nat.sub_mul]
 rw[e];exact h5
theorem Sl_at0{F:Fz}{o:AObj}{off k:Nat}{l:List α}(h:Sl F o off k l):Sl F o off 0 ([]:List α):=by obtain⟨cs,E,U,rfl,N,Z,h3,T⟩:=h;exact⟨cs,E,U,V,fun A=>(by have:=N A;omega),a0d _,by simp[RL],T⟩
theorem cut_val{lo hi:Option Operand}{t e:TypeId}{i j off k Z:Nat}{o:AObj}(hx:ρ x= .slice (some ⟨Z,off,none⟩) l.length k)(ht:P.underlying t=some (.slice e))(hz:cW P e=some (Rp.sz α))(hb:H.get Z=some o)(h:Sl F o off k l)
  (h1:bU l.length (hi.map ρ)=some j) (h2:bU 0 (lo.map ρ)=some i) (aa:i<=j) (hj:j<=l.length):
  ∃T k',AP P ρ ⟨d,.slice t x lo hi none,ty,pos,af,gd⟩ H (.val (.slice (some ⟨Z,T,none⟩) ((l.take j).drop i).length k'),H)/\Sl F o T k' ((l.take j).drop i):=by
 obtain⟨cs,ad,ro,rfl,g1,g2,g3,g4⟩:=h
 have A:((l.take j).drop i).length=j-i:=by simp;omega
 have N:=Sl_cut (F:=F) (o:= .cells cs ad ro) ⟨cs,ad,ro,V,g1,g2,g3,g4⟩ aa hj
 have U: ∀w,bA P t (.slice (some ⟨Z,off,none⟩) l.length k) (lo.map ρ) (hi.map ρ) none H=some w->AP P ρ ⟨d,.slice t x lo hi none,ty,pos,af,gd⟩ H (.val w,H):=by intro w hw;refine⟨?_⟩;show ovl (bA P t (ρ x) (lo.map ρ) (hi.map ρ) (Option.map ρ none) H) H=_;rw[hx,a25,hw];rfl
 have E:=lN (n:=l.length) (k:=k) h1 h2 aa (a0e hj g2)
 rcases g4 with rfl|rfl
 ·cases hk:Nat.beq k i with
  |true=>
   have ax:=a0c hk
   have e0:(l.take j).drop i=[]:=a0z (by rw[A];omega)
   refine⟨off,k-i,U _ ?_,?_⟩
   ·unfold bA;simp only[ht,E,hz,hb,hk,cond_true,A]
   rw[e0,ax,a1R]
   exact Sl_at0 (k:=k) (l:=l) ⟨cs,none,ro,V,g1,g2,g3,.inl V⟩
  |false=>
   refine⟨off+i *Rp.sz α,k-i,U _ ?_,N⟩
   unfold bA
   simp only[ht,E,hz,hb,hk,cond_false,A]
 refine⟨off+i *Rp.sz α,k-i,U _ ?_,N⟩
 unfold bA
 simp only[ht,E,hz,hb,a11,cond_true,A]
theorem nil_cut{lo hi:Option Operand}{t e:TypeId}{i j:Nat}{sz:Nat}(hx:ρ x= .slice none 0 0)(Z:P.underlying t=some (.slice e))(hz:cW P e=some sz)(N:bU 0 (hi.map ρ)=some j)(T:bU 0 (lo.map ρ)=some i)(E:i<=j)(U:j<=0):
  AP P ρ ⟨d,.slice t x lo hi none,ty,pos,af,gd⟩ H (.val (.slice none 0 0),H):=by
 refine⟨?_⟩
 show ovl (bA P t (ρ x) (lo.map ρ) (hi.map ρ) (Option.map ρ none) H) H=_
 rw[hx]
 unfold bA
 have A:=lN (n:=0) (k:=0) N T E U
 simp only[a25,Z,A,hz,Option.isSome_some,cond_true]
 rfl
theorem sr_cut{lo hi:Option Operand}{t e:TypeId}{i j:Nat}(h:SR F v l)(hs:HS B F H L R)(hx:ρ x=v)(ht:P.underlying t=some (.slice e))(hz:cW P e=some (Rp.sz α))
  (T:bU l.length (hi.map ρ)=some j) (U:bU 0 (lo.map ρ)=some i) (A:i<=j) (Z:j<=l.length):
  ∃a k,AP P ρ ⟨d,.slice t x lo hi none,ty,pos,af,gd⟩ H (.val (.slice a ((l.take j).drop i).length k),H)/\SR F (.slice a ((l.take j).drop i).length k) ((l.take j).drop i):=by
 rcases h with⟨rfl,rfl⟩|⟨b,off,k,o,rfl,N,g2⟩
 ·have e0:(([]:List α).take j).drop i=[]:=by simp
  rw[e0];exact⟨none,0,nil_cut hx ht hz T U A (by simpa using Z),SR.nil⟩
 obtain⟨E,k',h3,h4⟩:=cut_val hx ht hz (hs.fz b o N).1 g2 T U A Z
 exact⟨_,k',h3,.inr ⟨b,E,k',o,V,N,h4⟩⟩
theorem os_cut{lo hi:Option Operand}{t e:TypeId}{i j q:Nat}(h:OS F v l p)(hs:HS B F H L R)(hq:L[q]?=some p)(hx:ρ x=v)(Z:P.underlying t=some (.slice e))(hz:cW P e=some (Rp.sz α))
  (N:bU l.length (hi.map ρ)=some j) (T:bU 0 (lo.map ρ)=some i) (A:i<=j) (U:j<=l.length):
  ∃a k,AP P ρ ⟨d,.slice t x lo hi none,ty,pos,af,gd⟩ H (.val (.slice a ((l.take j).drop i).length k),H)/\OS F (.slice a ((l.take j).drop i).length k) ((l.take j).drop i) p:=by
 rcases h with⟨rfl,rfl,rfl⟩|⟨b,off,k,cs,ai,rfl,rfl,g2⟩
 ·have e0:(([]:List α).take j).drop i=[]:=by simp
  rw[e0];exact⟨none,0,nil_cut hx Z hz N T A (by simpa using U),OS.nil⟩
 obtain⟨E,k',h3,h4⟩:=cut_val hx Z hz (hs.get hq (a0b.2 V)) g2 N T A U
 exact⟨_,k',h3,.inr ⟨b,E,k',cs,ai,V,V,h4⟩⟩
theorem os_make{t e:TypeId}{li Z:Operand}{kl kc:IntKind}{n:Int}{z:List Value}{E:α}{N:Nat}(hs:HS B F H L R)(hl:ρ li= .int kl n)(hc:ρ Z= .int kc n)(ht:P.underlying t=some (.slice e))(hz:cW P e=some (Rp.sz α))(al:eL P e=some N)(ap:cy P e=some z)
  (ao:Nat.beq (eA z) (Rp.sz α)=true) (ai:Nat.ble N 4096=true) (an:Nat.beq (Rp.sz α) 0=false) (hr:Rp.rep F z E) (h0:0<=n) (hn:n<=2147483648):
  ∃a k H1 p',AP P ρ ⟨d,.makeSlice t li Z,ty,pos,af,gd⟩ H (.val (.slice a (List.replicate n.toNat E).length k),H1)/\OS F (.slice a (List.replicate n.toNat E).length k) (List.replicate n.toNat E) p'/\HS B F H1 (L++[p']) R/\∀b,b∈H1.log->b∈H.log:=by
 obtain⟨m,rfl⟩:=a19 h0
 have hm:m<=2147483648:=M
 refine⟨some ⟨H.next,0,none⟩,m,H.push (.cells (cp m z) none false),[(H.next,.cells (cp m z) none false)],⟨?_⟩,?_,hs.push _,fun b hb=>by simpa using hb⟩
 ·show ovh (aMake P t (ρ li) (ρ Z) H)=_;rw[hl,hc];unfold aMake;have e1:j4 (.int kl (Int.ofNat m))=some m:=rfl;have e2:j4 (.int kc (Int.ofNat m))=some m:=rfl;rw[ht];simp only[hz,al,ap];show ovh (match j4 (.int kl (Int.ofNat m)),j4 (.int kc (Int.ofNat m)) with|some n,some k=>_|_,_=>none)=_;rw[e1,e2];simp only[a0y hm,a0y (a0d m),ai,ao,an,a1x,a1o,cond_true,a0K];rfl
 show OS F _ (List.replicate m E) _
 have A:(List.replicate m E).length=m:=by simp
 have U:=RL.replicate hr m
 have T:=U.length
 rw[A]at T
 refine .inr ⟨H.next,0,m,cp m z,none,by simp,V,_,_,_,V,fun _=>M,by rw[A];exact a0d _,?_,.inl V⟩
 rw[A,a17,←T,a1e];exact U
theorem os_lit{t:TypeId}{n:Nat}{z:List Value}{A:Array (Nat×Operand)}{cells:List Value}(hs:HS B F H L R)(hi:dz P t=some (Rp.sz α,z))(hn:Nat.ble (n *Rp.sz α) 16777216=true)
  (U:Instr.fill (fun i=>some (i *Rp.sz α,Rp.sz α)) ⟨cp n z⟩ (dJ (fun p=>(p.1,ρ p.2)) A.toList)=some ⟨cells⟩) (E:RL F cells l) (Z:l.length=n):
  ∃a H1 N,AP P ρ ⟨d,.buildSlice t n A,ty,pos,af,gd⟩ H (.val (.slice a n n),H1)/\OS F (.slice a n n) l N/\HS B F H1 (L++[N]) R/\∀b,b∈H1.log->b∈H.log:=by
 subst Z
 refine⟨_,_,[(H.next,.cells cells none false)],iX hi hn U,?_,hs.push _,fun b T=>by simpa using T⟩
 have:=E.length
 exact .inr ⟨H.next,0,l.length,cells,none,V,V,_,_,_,V,fun _=>M,a0d _,by rw[a17,←this,a1e];exact E,.inl V⟩
theorem ap_app{A E:Operand}{st N:TypeId}{u w:Value}{H1:Heap}(U:ρ A=v)(Z:ρ E=u)(T:fW P #[st,N] v u H=some (w,H1)):AP P ρ ⟨d,.call ⟨.builtin .append, #[A,E], #[st,N]⟩,ty,pos,af,gd⟩ H (.val w,H1):=by refine⟨?_⟩;show ovh (fW P #[st,N] (ρ A) (ρ E) H)=_;rw[U,Z,T];rfl
theorem os_app{s0 x0:Operand}{st e:TypeId}{u:Value}{A:List α}{q N:Nat}{z:List Value}(h:OS F v l p)(hs:HS B F H L R)(hq:L[q]?=some p)(hx:ρ s0=v)(hy:ρ x0=u)(hu:Sv F H.get u A)(ht:P.underlying st=some (.slice e))
  (hz:cW P e=some (Rp.sz α)) (Z:eL P e=some N) (ai:cy P e=some z) (ag:Nat.beq (eA z) (Rp.sz α)=true) (U:Nat.ble N 4096=true) (ad:Nat.beq (Rp.sz α) 0=false) (T:l.length+A.length<=2147483648):
  ∃a k H1 E,AP P ρ ⟨d,.call ⟨.builtin .append, #[s0,x0], #[st,st]⟩,ty,pos,af,gd⟩ H (.val (.slice a (l++A).length k),H1)/\OS F (.slice a (l++A).length k) (l++A) E/\HS B F H1 (L.set q E) R:=by
 obtain⟨h1,a4,h2,h3⟩:=hu.first
 obtain⟨a,k,H1,E,h4,h5,h6⟩:=os_append (types:= #[st,st]) h hs hq (x:=u) V V ht ht (by intro k hk;cases hk) hz Z ai ag U ad h1 h2 h3 T
 exact⟨a,k,H1,E,ap_app hx hy h4,h5,h6⟩
theorem os_st{t:TypeId}{N U:Operand}{j q off n b o:Nat}{w:Value}{y Z:α}{cl:List Value}(h:OS F v l p)(hs:HS B F H L R)(hq:L[q]?=some p)(ha:ρ N= .pointer (some ⟨b,o,none⟩))(hb:b=sB v)(ho:o=sO v+j *Rp.sz α+off)(hx:ρ U=w)(hn:cW P t=some n)(hc:w.cells.toList=cl)(hl:Nat.beq cl.length n=true)
  (hy:l[j]?=some y) (h1:ng Value.oneCell' cl=true) (hr: ∀cs,Rp.rep F cs y->off+cl.length<=cs.length/\Rp.rep F (be cs off cl) Z):
  ∃H1 A,AP P ρ ⟨d,.store t N U,ty,pos,af,gd⟩ H (.skip,H1)/\OS F v (l.set j Z) A/\HS B F H1 (L.set q A) R/\∀b cs E,p=[(b,.cells cs E false)]->∃T,A=[(b,.cells T E false)]:=by
 subst hb ho
 obtain⟨H1,A,h2,h3,h4,h5⟩:=os_set h hs hq hy h1 hr
 exact⟨H1,A,ap_st ha hx hn hc hl h2,h3,h4,h5⟩
end
theorem agN{f:Fn}:aA f []:=trivial
theorem agC{f:Fn}{i:Nat}{v:Value}{l:List (Nat×Value)}(h:f i=v)(t:aA f l):aA f ((i,v)::l):=⟨h,t⟩
theorem jg{ops:Array Oper}{i:Nat}: ∀D,okD ops i .v D
 | []=>trivial
 |(_,e)::D=>⟨.inr (by cases e<;>trivial),jg D⟩
def fcL{α β:Type}:List α->(List α->β)->β
 | [],k=>k []
 |a::l,k=>fcL l fun r=>k (a::r)
theorem mN{α β:Type}: ∀(l:List α) (k:List α->β),fcL l k=k l
 | [],_=>rfl
 |_::l,_=>mN l _
structure Rs where
 v:Value
 H:Heap
 p:Fp
section
variable {P:Program} {G:Nat} {K:bM} {sz:Nat} {Q:Ex->Fn->Heap->Prop} {ops:Array Oper} {D:List (Nat×ID)} {i:Nat} {os:List Oper} {k:List Fr} {f:Fn} {H H1:Heap} {v:Value}
 {d:Tmp} {op:Op} {ty:TypeId} {pos:String} {af:Array Edge} {Φ:Rs->Prop}
theorem aT(N: ∃r:Rs,AP P (cJ f) ⟨some d,op,ty,pos,af,none⟩ H (.val r.v,r.H)/\Φ r)(U:op.operands.toList.all (bo G)=true)(T:Nat.ble (d+1) sz=true)
  (h: ∀v H1 p,Φ ⟨v,H1,p⟩->WO P G K sz ops os k (upd f d v) H1 Q):WO P G K sz ops (⟨some d,op,ty,pos,af,none⟩::os) k f H Q:=by
 obtain⟨⟨v,H1,p⟩,A,E⟩:=N
 exact cd A U T (h v H1 p E)
theorem cL(N: ∃r:Rs,AP P (cJ f) ⟨none,op,ty,pos,af,none⟩ H (.skip,r.H)/\Φ r)(T:op.operands.toList.all (bo G)=true)
  (h: ∀v H1 p,Φ ⟨v,H1,p⟩->WO P G K sz ops os k f H1 Q):WO P G K sz ops (⟨none,op,ty,pos,af,none⟩::os) k f H Q:=by
 obtain⟨⟨v,H1,p⟩,A,E⟩:=N
 exact wo_skip A T (h v H1 p E)
theorem eU{id:ID}(U: ∃r:Rs,AP P (cJ f) ⟨some d,op,ty,pos,af,none⟩ {H with log:=[]} (.val r.v,r.H)/\Φ r)(ho:op.operands.toList.all (bo G)=true)(Z:Nat.ble (d+1) sz=true)
  (E: ∀v H1 p,Φ ⟨v,H1,p⟩->Did ops f ⟨some d,op,ty,pos,af,none⟩ H.next H1.log id) (N:okD ops i id D)
  (h: ∀v H1 p,Φ ⟨v,H1,p⟩->∀l,(∀b,b∈l->b∈H1.log\/b∈H.log)->WF2 P G K sz ops ((i,id)::D) (i+1) os k (upd f d v) {H1 with log:=l} Q):
  WF2 P G K sz ops D i (⟨some d,op,ty,pos,af,none⟩::os) k f H Q:=by
 obtain⟨⟨v,H1,p⟩,T,A⟩:=U
 exact wf_val T ho Z (E v H1 p A) N (h v H1 p A)
theorem gc{id:ID}(U: ∃r:Rs,AP P (cJ f) ⟨none,op,ty,pos,af,none⟩ {H with log:=[]} (.skip,r.H)/\Φ r)(Z:op.operands.toList.all (bo G)=true)
  (E: ∀v H1 p,Φ ⟨v,H1,p⟩->Did ops f ⟨none,op,ty,pos,af,none⟩ H.next H1.log id) (N:okD ops i id D)
  (h: ∀v H1 p,Φ ⟨v,H1,p⟩->∀l,(∀b,b∈l->b∈H1.log\/b∈H.log)->WF2 P G K sz ops ((i,id)::D) (i+1) os k f {H1 with log:=l} Q):
  WF2 P G K sz ops D i (⟨none,op,ty,pos,af,none⟩::os) k f H Q:=by
 obtain⟨⟨v,H1,p⟩,T,A⟩:=U
 exact wf_skip T Z (E v H1 p A) N (h v H1 p A)
end
section
variable {α:Type} [Rp α] {P:Program} {ρ:Operand->Value} {d:Option Tmp} {ty:TypeId} {pos:String} {af:Array Edge} {gd:Option (Nat×Bool)} {B:Base} {F:Fz} {H:Heap} {L R:List Fp} {v:Value} {l:List α} {p:Fp}
def Wr(H H1:Heap)(W:List Nat):Prop:= ∀b,b∈H1.log->b∈H.log\/H.next<=b\/b∈W
theorem Wr.did{H1:Heap}{W:List Nat}(h:Wr {H with log:=[]} H1 W): ∀b,b∈H1.log->H.next<=b\/b∈W:=fun b A=>by
 rcases h b A with h|h|h
 ·simp at h
 ·exact .inl h
 exact .inr h
theorem Wr.nil{H1:Heap}(h: ∀b,b∈H1.log->b∈H.log):Wr H H1 []:=fun b A=> .inl (h b A)
theorem HS.lg{B:Base}{F E:Fz}{A H1:Heap}{L N R T:List Fp}(h:HS B F H1 L R)(h0:HS B E A N T){l:List Nat}(Z: ∀b,b∈l->b∈H1.log\/b∈A.log):HS B F {H1 with log:=l} L R:=
 h.relog fun b U=>by
  rcases Z b U with h1|h1
  ·exact h.log b h1
  exact h0.log b h1
theorem HS.wr{H1:Heap}{i:Nat}{p q:Fp}(h:HS B F H L R)(hi:L[i]?=some p)(step:HS (.of H (p.map Prod.fst)) F H [p] (L.set i []++R)->∃F',F.le F'/\HS (.of H (p.map Prod.fst)) F' H1 [q] (L.set i []++R)):
  ∃F',F.le F'/\HS B F' H1 (L.set i q) R/\Wr H H1 (p.map Prod.fst):=by
 obtain⟨F',N,E⟩:=step (h.callOwn hi)
 refine⟨F',N,?_,fun b A=>E.log b A⟩
 have:=h.backOwn (b_:=[]) hi V (fun b A=>A) E
 simpa using this
theorem rs_new{e:TypeId}{z:List Value}(hs:HS B F H L R)(E:cy P e=some z):
  ∃r:Rs,AP P ρ ⟨d,.alloc e,ty,pos,af,gd⟩ H (.val r.v,r.H)/\(∃b,r.v= .pointer (some ⟨b,0,none⟩)/\HS B F r.H (L++[[(b,.cells z none false)]]) R/\Wr H r.H []):=
 ⟨⟨_,_,[]⟩,ap_alloc E,_,V,hs.push _,.nil fun b A=>by simpa using A⟩
theorem aN{e:TypeId}{x:Operand}{u:Value}{cs:List Value}(hs:HS B F H L R)(E:ρ x=u)(hc:u.cells.toList=cs):
  ∃r:Rs,AP P ρ ⟨d,.box e x,ty,pos,af,gd⟩ H (.val r.v,r.H)/\(∃b,r.v= .pointer (some ⟨b,0,none⟩)/\HS B F r.H (L++[[(b,.cells cs none false)]]) R/\Wr H r.H []):=
 ⟨⟨_,_,[]⟩,ap_box (by rw[E];exact hc),_,V,hs.push _,.nil fun b A=>by simpa using A⟩
theorem cS{t e:TypeId}{li N:Operand}{kl kc:IntKind}{n:Int}{z:List Value}(A:α){E:Nat}(hs:HS B F H L R)(hl:ρ li= .int kl n)(hc:ρ N= .int kc n)(ht:P.underlying t=some (.slice e))(hz:cW P e=some (Rp.sz α))(U:eL P e=some E)(ad:cy P e=some z)
  (aa:Nat.beq (eA z) (Rp.sz α)=true) (T:Nat.ble E 4096=true) (Z:Nat.beq (Rp.sz α) 0=false) (hr:Rp.rep F z A) (h0:0<=n) (hn:n<=2147483648):
  ∃r:Rs,AP P ρ ⟨d,.makeSlice t li N,ty,pos,af,gd⟩ H (.val r.v,r.H)/\(∃a k,r.v= .slice a (List.replicate n.toNat A).length k/\OS F (.slice a (List.replicate n.toNat A).length k) (List.replicate n.toNat A) r.p/\HS B F r.H (L++[r.p]) R/\Wr H r.H []):=by
 obtain⟨a,k,H1,p',h1,h2,h3,h4⟩:=os_make (d:=d) (ty:=ty) (pos:=pos) (af:=af) (gd:=gd) hs hl hc ht hz U ad aa T Z hr h0 hn
 exact⟨⟨_,H1,p'⟩,h1,a,k,V,h2,h3,.nil h4⟩
theorem rs_lit{t:TypeId}{n:Nat}{z:List Value}{A:Array (Nat×Operand)}{ps:List (Nat×Value)}{cells:List Value}(l:List α)(hs:HS B F H L R)(N:dJ (fun p=>(p.1,ρ p.2)) A.toList=ps)(hi:dz P t=some (Rp.sz α,z))(hn:Nat.ble (n *Rp.sz α) 16777216=true)
  (hf:Instr.fill (fun i=>some (i *Rp.sz α,Rp.sz α)) ⟨cp n z⟩ ps=some ⟨cells⟩) (hr:RL F cells l) (E:l.length=n):
  ∃r:Rs,AP P ρ ⟨d,.buildSlice t n A,ty,pos,af,gd⟩ H (.val r.v,r.H)/\(∃a k,r.v= .slice a l.length k/\OS F (.slice a l.length k) l r.p/\HS B F r.H (L++[r.p]) R/\Wr H r.H []):=by
 subst N
 obtain⟨a,H1,p',T,U,Z,h4⟩:=os_lit (d:=d) (ty:=ty) (pos:=pos) (af:=af) (gd:=gd) hs hi hn hf hr E
 exact⟨⟨_,H1,p'⟩,T,a,n,by rw[E],by rw[E];exact U,Z,.nil h4⟩
theorem rs_cut{x:Operand}{lo hi:Option Operand}{t e:TypeId}{i j:Nat}(h:SR F v l)(hs:HS B F H L R)(hx:ρ x=v)(ht:P.underlying t=some (.slice e))(hz:cW P e=some (Rp.sz α))
  (T:bU l.length (hi.map ρ)=some j) (U:bU 0 (lo.map ρ)=some i) (A:i<=j) (Z:j<=l.length):
  ∃r:Rs,AP P ρ ⟨d,.slice t x lo hi none,ty,pos,af,gd⟩ H (.val r.v,r.H)/\(∃a k,r.v= .slice a ((l.take j).drop i).length k/\r.H=H/\SR F (.slice a ((l.take j).drop i).length k) ((l.take j).drop i)):=by
 obtain⟨a,k,E,N⟩:=sr_cut (d:=d) (ty:=ty) (pos:=pos) (af:=af) (gd:=gd) h hs hx ht hz T U A Z
 exact⟨⟨_,H,[]⟩,E,a,k,V,V,N⟩
theorem rs_cutO{x:Operand}{lo hi:Option Operand}{t e:TypeId}{i j q:Nat}(h:OS F v l p)(hs:HS B F H L R)(hq:L[q]?=some p)(hx:ρ x=v)(ht:P.underlying t=some (.slice e))(hz:cW P e=some (Rp.sz α))
  (T:bU l.length (hi.map ρ)=some j) (U:bU 0 (lo.map ρ)=some i) (A:i<=j) (Z:j<=l.length):
  ∃r:Rs,AP P ρ ⟨d,.slice t x lo hi none,ty,pos,af,gd⟩ H (.val r.v,r.H)/\(∃a k,r.v= .slice a ((l.take j).drop i).length k/\r.H=H/\OS F (.slice a ((l.take j).drop i).length k) ((l.take j).drop i) p):=by
 obtain⟨a,k,E,N⟩:=os_cut (d:=d) (ty:=ty) (pos:=pos) (af:=af) (gd:=gd) h hs hq hx ht hz T U A Z
 exact⟨⟨_,H,[]⟩,E,a,k,V,V,N⟩
theorem rs_app{s0 x0:Operand}{st e:TypeId}{u:Value}{A:List α}{q E:Nat}{z:List Value}(h:OS F v l p)(hs:HS B F H L R)(hq:L[q]?=some p)(hx:ρ s0=v)(hy:ρ x0=u)(hu:Sv F H.get u A)(ht:P.underlying st=some (.slice e))
  (hz:cW P e=some (Rp.sz α)) (aa:eL P e=some E) (al:cy P e=some z) (ai:Nat.beq (eA z) (Rp.sz α)=true) (Z:Nat.ble E 4096=true) (ag:Nat.beq (Rp.sz α) 0=false) (T:l.length+A.length<=2147483648):
  ∃r:Rs,AP P ρ ⟨d,.call ⟨.builtin .append, #[s0,x0], #[st,st]⟩,ty,pos,af,gd⟩ H (.val r.v,r.H)/\(∃a k,r.v= .slice a (l++A).length k/\OS F (.slice a (l++A).length k) (l++A) r.p/\HS B F r.H (L.set q r.p) R/\Wr H r.H (p.map Prod.fst)):=by
 have hc:=hs.callOwn hq
 obtain⟨a,k,H1,p',h1,h2,U⟩:=os_app (d:=d) (ty:=ty) (pos:=pos) (af:=af) (gd:=gd) (q:=0) h hc V hx hy hu ht hz aa al ai Z ag T
 have h4:=hs.backOwn (b_:=[]) hq V (fun b N=>N) U
 exact⟨⟨_,H1,p'⟩,h1,a,k,V,h2,by simpa using h4,fun b N=>U.log b N⟩
theorem bW{t:TypeId}{E Z:Operand}{j q off n b o:Nat}{w:Value}{y:α}(y':α){cl:List Value}(h:OS F v l p)(hs:HS B F H L R)(U:L[q]?=some p)(ha:ρ E= .pointer (some ⟨b,o,none⟩))(A:b=sB v)(ho:o=sO v+j *Rp.sz α+off)(hx:ρ Z=w)(hn:cW P t=some n)(hc:w.cells.toList=cl)(hl:Nat.beq cl.length n=true)
  (hy:l[j]?=some y) (h1:ng Value.oneCell' cl=true) (hr: ∀cs,Rp.rep F cs y->off+cl.length<=cs.length/\Rp.rep F (be cs off cl) y'):
  ∃r:Rs,AP P ρ ⟨d,.store t E Z,ty,pos,af,gd⟩ H (.skip,r.H)/\(OS F v (l.set j y') r.p/\HS B F r.H (L.set q r.p) R/\Wr H r.H (p.map Prod.fst)):=by
 have T:=hs.callOwn U
 obtain⟨H1,p',g1,g2,N,_⟩:=os_st (d:=d) (ty:=ty) (pos:=pos) (af:=af) (gd:=gd) (q:=0) h T V ha A ho hx hn hc hl hy h1 hr
 have h4:=hs.backOwn (b_:=[]) U V (fun b A=>A) N
 exact⟨⟨.bool true,H1,p'⟩,g1,g2,by simpa using h4,fun b A=>N.log b A⟩
theorem rs_rec{t:TypeId}{T x0:Operand}{q n b o:Nat}{w:Value}{cl cs A:List Value}(hs:HS B F H L R)(hq:L[q]?=some [(b,.cells cs none false)])(ha:ρ T= .pointer (some ⟨b,o,none⟩))(hx:ρ x0=w)(hn:cW P t=some n)(hc:w.cells.toList=cl)(hl:Nat.beq cl.length n=true)
  (E:Nat.ble (o+cl.length) cs.length=true) (h1:ng Value.oneCell' cl=true) (N:fcL (be cs o cl) some=some A):
  ∃r:Rs,AP P ρ ⟨d,.store t T x0,ty,pos,af,gd⟩ H (.skip,r.H)/\(HS B F r.H (L.set q [(b,.cells A none false)]) R/\Wr H r.H [b]):=by
 have N:be cs o cl=A:=by rw[mN]at N;exact Option.some.inj N
 have Z:=hs.callOwn hq
 obtain⟨H1,g1,U⟩:=Z.st (i:=0) V E h1 N
 have h4:=hs.backOwn (b_:=[]) hq V (fun b E=>E) U
 exact⟨⟨.bool true,H1,[]⟩,ap_st ha hx hn hc hl g1,by simpa using h4,fun b E=>U.log b E⟩
end
theorem flat_sub{β:Type}{A L:List (List β)}(h:List.Sublist A L):List.Sublist A.flatten L.flatten:=by
 induction h with
 |slnil=>exact List.Sublist.refl _
 |cons a _ ih=>rw[a0N];exact ih.trans (List.sublist_append_right _ _)
 |cons_cons a _ ih=>rw[a0N,a0N];exact(List.Sublist.refl a).append ih
theorem HS.sub{B:Base}{F:Fz}{H:Heap}{L N R:List Fp}(h:HS B F H L R)(A:List.Sublist N L):HS B F H N R:=
 ⟨h.fz,fun p E b o T=>h.own p (E.imp (fun x=>A.subset x) id) b o T,((flat_sub (A.append (List.Sublist.refl R))).map _).nodup h.nd,h.n0,h.log,fun p E=>h.mine p (A.subset E)⟩
theorem HS.forget{B:Base}{F:Fz}{H:Heap}{L R:List Fp}(h:HS B F H L R):HS B F H [] R:=h.sub (List.nil_sublist _)
theorem HS.only{B:Base}{F:Fz}{H:Heap}{L R:List Fp}{p:Fp}(h:HS B F H L R){i:Nat}(hi:L[i]?=some p):HS B F H [p] R:=h.sub (List.singleton_sublist.2 (a0m hi))
section
variable {α:Type} [Rp α] {F:Fz} {B:Base} {H:Heap} {L R:List Fp} {v:Value} {l:List α} {p:Fp}
theorem OS.frz(h:OS F v l p)(hs:HS B F H L R){i:Nat}(hi:L[i]?=some p): ∃F',F.le F'/\HS B F' H (L.set i []) R/\SR F' v l/\∀b o,(b,o)∈p->F' b=some o:=by
 obtain⟨F',N,U,T⟩:=hs.freeze hi;refine⟨F',N,U,?_,T⟩;rcases h with⟨A,E,_⟩|⟨b,off,k,cs,aa,A,E,Z⟩
 ·exact .inl ⟨A,E⟩
 exact .inr ⟨b,off,k,_,A,T b _ (by rw[E];simp),Z.mono N⟩
end
theorem aO{β:Type}{l:List β}{j:Nat}{x:β}(h:j<l.length):l[j]?=some (l.getD j x):=by rw[a03,a06 h];rfl
theorem BS:(∀a b:Bool,((a&&b)=true)=(a=true/\b=true))/\(∀a b:Bool,((a||b)=true)=(a=true\/b=true))/\(∀a b:Bool,((a&&b)=false)=(a=true->b=false))/\(∀a b:Bool,((a||b)=false)=(a=false/\b=false))/\
  (∀a:Bool,((!a)=true)=(a=false))/\(∀a:Bool,((!a)=false)=(a=true))/\(∀(q:Prop) [Decidable q],(decide q=true)=q)/\(∀(q:Prop) [Decidable q],(decide q=false)= ¬q)/\
  (∀a b:Int,((a==b)=true)=(a=b))/\(∀a b:Int,((a==b)=false)=(a≠b))/\(∀a b:Int,((a !=b)=true)=(a≠b))/\(∀a b:Int,((a !=b)=false)=(a=b))/\
  (∀a b:List UInt8,((a==b)=true)=(a=b))/\(∀a b:List UInt8,((a==b)=false)=(a≠b))/\(∀a b:List UInt8,((a !=b)=true)=(a≠b))/\(∀a b:List UInt8,((a !=b)=false)=(a=b))/\
  (∀a b:Bool,((a==b)=true)=(a=b))/\(∀a b:Bool,((a==b)=false)=(a≠b))/\(∀a b:Bool,((a !=b)=true)=(a≠b))/\(∀a b:Bool,((a !=b)=false)=(a=b)):=by
 refine⟨?_,?_,?_,?_,?_,?_,?_,?_,?_,?_,?_,?_,?_,?_,?_,?_,?_,?_,?_,?_⟩<;>intros<;>simp
theorem BT:(∀a:Bool,(true&&a)=a)/\(∀a:Bool,(false&&a)=false)/\(∀a:Bool,(a&&true)=a)/\(∀a:Bool,(a&&false)=false)/\(∀a:Bool,(true||a)=true)/\(∀a:Bool,(false||a)=a)/\(∀a:Bool,(a||true)=true)/\(∀a:Bool,(a||false)=a)/\(!true)=false/\(!false)=true:=by simp
theorem Lr{lo hi:Nat}{ex:List Nat}{f:Fn}:Leaves lo hi ex f f:= .refl
theorem Lu{lo hi:Nat}{ex:List Nat}{f A:Fn}{i:Nat}{v:Value}(E:inR lo hi ex i=true)(h:Leaves lo hi ex f A):Leaves lo hi ex f (upd A i v):= .upd E h
section
variable {P:Program} {G:Nat} {K:bM} {sz:Nat} {Q:Ex->Fn->Heap->Prop} {ops:Array Oper} {D:List (Nat×ID)} {i:Nat} {os:List Oper} {k:List Fr} {f:Fn} {H H1:Heap} {d:Tmp} {ty:TypeId} {pos:String} {af:Array Edge} {x:Operand}
theorem wm(v:Value)(N:cJ f x=v)(E:(Op.move x).operands.toList.all (bo G)=true)(A:Nat.ble (d+1) sz=true)(h:WO P G K sz ops os k (upd f d v) H Q):WO P G K sz ops (⟨some d,.move x,ty,pos,af,none⟩::os) k f H Q:=cd (ap_move N) E A h
theorem wa(v:Value)(N:cJ f x=v)(E:(Op.assign x).operands.toList.all (bo G)=true)(A:Nat.ble (d+1) sz=true)(h:WO P G K sz ops os k (upd f d v) H Q):WO P G K sz ops (⟨some d,.assign x,ty,pos,af,none⟩::os) k f H Q:=cd (lR N) E A h
theorem fm(v:Value)(N:cJ f x=v)(E:(Op.move x).operands.toList.all (bo G)=true)(A:Nat.ble (d+1) sz=true)(h:WF2 P G K sz ops ((i,.v)::D) (i+1) os k (upd f d v) H Q):WF2 P G K sz ops D i (⟨some d,.move x,ty,pos,af,none⟩::os) k f H Q:=bj (ap_move N) E A (did_v V) (jg _) h
theorem fa(v:Value)(N:cJ f x=v)(E:(Op.assign x).operands.toList.all (bo G)=true)(A:Nat.ble (d+1) sz=true)(h:WF2 P G K sz ops ((i,.v)::D) (i+1) os k (upd f d v) H Q):WF2 P G K sz ops D i (⟨some d,.assign x,ty,pos,af,none⟩::os) k f H Q:=bj (lR N) E A (did_v V) (jg _) h
end
section
variable {P:Program} {G:Nat} {K:bM} {sz:Nat} {Q:Ex->Fn->Heap->Prop} {ops:Array Oper} {D:List (Nat×ID)} {i:Nat} {os:List Oper} {k:List Fr} {f:Fn} {H:Heap} {v:Value}
 {d:Tmp} {op:Op} {ty:TypeId} {pos:String} {af:Array Edge}
def cB:ID->ID->Bool
 | .v,_=>true
 |_,.v=>true
 |_,.x _=>false
 | .x _,.a=>true
 | .x _,_=>false
 | .s _,_=>false
 |_,.s _=>false
 |_,_=>true
theorem cB_ok{j i:Nat}{e d:ID}(h:cB e d=true):cE ops j i e d:=by cases e<;>cases d<;>first|exact trivial|cases h
def okB(ops:Array Oper)(i:Nat)(d:ID):List (Nat×ID)->Bool
 | []=>true
 |(j,e)::D=>(cB e d||bn (cm ops) j i)&&okB ops i d D
theorem kb: ∀{D:List (Nat×ID)} {e:ID},okB ops i e D=true->okD ops i e D
 | [],_,_=>trivial
 |(j,g)::D,e,h=>by unfold okB at h;rw[a0a,a0C]at h;exact⟨h.1.elim (fun h=> .inr (cB_ok h)) .inl,kb h.2⟩
theorem wfv(A:AP P (cJ f) ⟨some d,op,ty,pos,af,none⟩ {H with log:=[]} (.val v,{H with log:=[]}))
  (h:WF2 P G K sz ops ((i,.v)::D) (i+1) os k (upd f d v) H Q) (T:aY op=true:=by rfl) (N:op.operands.toList.all (bo G)=true:=by rfl) (E:Nat.ble (d+1) sz=true:=by rfl):WF2 P G K sz ops D i (⟨some d,op,ty,pos,af,none⟩::os) k f H Q:=bj A N E (did_v T) (jg _) h
end
open Go
section
variable {I d_:Int->Value->Prop} {es:List (Value×Value)}
end
section
variable {P:Program} {ρ:Operand->Value} {d:Option Tmp} {ty:TypeId} {pos:String} {af:Array Edge} {gd:Option (Nat×Bool)} {B:Base} {F:Fz} {H:Heap} {L R:List Fp} {I:Int->Value->Prop} {es:List (Value×Value)}
end
end Go.R
end
