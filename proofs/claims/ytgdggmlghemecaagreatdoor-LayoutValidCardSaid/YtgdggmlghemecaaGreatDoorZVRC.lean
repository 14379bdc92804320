/-
Symbolic runs: heaps with owners, what cells stand for.
-/
import Derived.Test.YtgdggmlghemecaaGreatDoorZVR0
import Derived.Test.YtgdggmlghemecaaGreatDoorZVRB
namespace Go.R
abbrev gD{α:Type} [Inhabited α](l:List α)(i:Nat):α:=l.getD i default
end Go.R
noncomputable section
set_option linter.unusedVariables false
set_option linter.unusedSimpArgs false
namespace Go.R
abbrev Fn:=Nat->Value
def upd(f:Fn)(i:Nat)(v:Value):Fn:=fun j=>bif Nat.beq i j then v else f j
def updO(f:Fn)(d:Option Tmp)(v:Value):Fn:=match d with
 |some d=>upd f d v
 |none=>f
def gQ(f:Fn):List (Nat×Value)->Fn
 | []=>f
 |(i,v)::l=>upd (gQ f l) i v
def aB(f:Fn):List (Nat×Value)->Prop
 | []=>True
 |(i,v)::l=>f i=v/\aB f l
def cJ(f:Fn):Operand->Value
 | .tmp t=>f t
 | .const v=>v
 | .global g=> .pointer (some ⟨g,0,none⟩)
 | .func i=> .func (.func i) #[] #[]
def argF(l:List Value):Fn:=fun j=>l.getD j undef
theorem upd_self(f:Fn){i:Nat}{v:Value}(h:f i=v):upd f i v=f:=by
 funext j;unfold upd;cases E:Nat.beq i j with
 |true=>have:=a0c E;subst this;exact h.symm
 |false=>rfl
theorem e9{f:Fn}: ∀{l:List (Nat×Value)},aB f l->gQ f l=f
 | [],_=>rfl
 |(i,v)::l,h=>by unfold gQ;rw[e9 h.2];exact upd_self f h.1
theorem lget_lset_fn(t:Tr Value)(d:Nat)(v:Value):cS (lset t d v)=upd (cS t) d v:=by
 funext j;rw[gr];unfold upd;by_cases h:d=j
 ·subst h;rw[if_pos V,a15];rfl
 rw[if_neg h];cases E:Nat.beq d j with
 |true=>exact absurd (a0c E) h
 |false=>rfl
theorem ew(t:Tr Value):cI t=cJ (cS t):=by funext x;cases x<;>rfl
theorem argTmps_fn(args:List Value):cS (fO 0 args .nil)=argF args:=by
 funext j;rw[ir];unfold argF;by_cases h:j<args.length
 ·rw[if_pos M];rfl
 rw[if_neg M,a02,a0J M];rfl
inductive Fr where
 |seq (b:Code)
 |block (id:Nat)
section
variable {P:Program} {G:Nat} {K:bJ} {sz:Nat} {Q:Ex->Fn->Heap->Prop}
def runK(P:Program)(G:Nat)(K:bJ)(n:Nat):List Fr->Option (Ex×St)->Option (Ex×St)
 | [],r=>r
 | .seq b::k,r=>runK P G K n k (gx r (mH P G K n b))
 | .block id::k,r=>runK P G K n k (db id r)
theorem dW{n m:Nat}(h:n<=m): ∀(k:List Fr) (r r':Option (Ex×St)),(∀x,r=some x->r'=some x)->∀x,runK P G K n k r=some x->runK P G K m k r'=some x
 | [],r,r',hr,x,hx=>hr x hx
 | .seq b::k,r,r',hr,x,hx=>dW h k _ _ (fun _ E=>gM hr (fun s y E=>iT h b s y E) E) x hx
 | .block id::k,r,r',hr,x,hx=>dW h k _ _ (fun _ E=>jH hr E) x hx
structure WK(P:Program)(G:Nat)(K:bJ)(sz:Nat)(c:Code)(k:List Fr)(f:Fn)(H:Heap)(Q:Ex->Fn->Heap->Prop):Prop where
 out: ∀t,cS t=f->∃n e s',runK P G K (n+1) k (mH P G K (n+1) c ⟨t,sz,H⟩)=some (e,s')/\Q e (cS s'.tmps) s'.heap
structure WO(P:Program)(G:Nat)(K:bJ)(sz:Nat)(ops:Array Oper)(os:List Oper)(k:List Fr)(f:Fn)(H:Heap)(Q:Ex->Fn->Heap->Prop):Prop where
 out: ∀t,cS t=f->∃n e s',runK P G K (n+1) k (dT (fZ P G (call P G K n) ops os ⟨t,sz,H⟩))=some (e,s')/\Q e (cS s'.tmps) s'.heap
structure C(P:Program)(G:Nat)(K:bJ)(f:FuncId)(args:List Value)(H:Heap)(R:Value->Heap->Prop):Prop where
 out: ∃n v H',call P G K n f args H=some (v,H')/\R v H'
theorem C.mono{f:FuncId}{args:List Value}{H:Heap}{R E:Value->Heap->Prop}(h:C P G K f args H R)(U: ∀v H',R v H'->E v H'):C P G K f args H E:=by obtain⟨n,v,H',N,T⟩:=h.out;exact⟨n,v,H',N,U _ _ T⟩
variable {c:Code} {k:List Fr} {f:Fn} {H:Heap}
theorem aP(h:Q .normal f H):WK P G K sz .skip [] f H Q:=⟨fun t E=>⟨0,.normal,⟨t,sz,H⟩,V,by rw[E];exact h⟩⟩
theorem wk_skip_seq{b:Code}(h:WK P G K sz b k f H Q):WK P G K sz .skip (.seq b::k) f H Q:=⟨h.out⟩
theorem mX{id:Nat}(h:WK P G K sz .skip k f H Q):WK P G K sz .skip (.block id::k) f H Q:=⟨h.out⟩
theorem wk_seq{a b:Code}(h:WK P G K sz a (.seq b::k) f H Q):WK P G K sz (.seq a b) k f H Q:=⟨h.out⟩
theorem wk_block{id:Nat}{b:Code}(h:WK P G K sz b (.block id::k) f H Q):WK P G K sz (.block id b) k f H Q:=⟨h.out⟩
theorem wk_loop{b:Code}(h:WK P G K sz b (.seq (.loop b)::k) f H Q):WK P G K sz (.loop b) k f H Q:=⟨fun t U=>by
 obtain⟨n,e,s',N,T⟩:=h.out t U;refine⟨n+1,e,s',?_,T⟩;refine dW (Nat.le_succ (n+1)) k _ _ (fun x Z=>?_) _ N;show gx (mH P G K (n+2) b ⟨t,sz,H⟩) (mH P G K (n+1) (.loop b))=some x;exact gM (fun y E=>iS _ _ _ _ E) (fun _ _ E=>E) Z⟩
theorem wk_exit_seq{id:Nat}{b:Code}(h:WK P G K sz (.exit id) k f H Q):WK P G K sz (.exit id) (.seq b::k) f H Q:=⟨h.out⟩
theorem mY{id:Nat}(h:WK P G K sz .skip k f H Q):WK P G K sz (.exit id) (.block id::k) f H Q:=⟨fun t T=>by
 obtain⟨n,e,U,E,N⟩:=h.out t T;refine⟨n,e,U,?_,N⟩;show runK P G K (n+1) k (db id (some (.exit id,⟨t,sz,H⟩)))=_;unfold db;simp only[a15,cond_true];exact E⟩
theorem jQ{id E:Nat}(N:Nat.beq id E=false)(h:WK P G K sz (.exit id) k f H Q):WK P G K sz (.exit id) (.block E::k) f H Q:=⟨fun t Z=>by
 obtain⟨n,e,s',T,U⟩:=h.out t Z;refine⟨n,e,s',?_,U⟩;show runK P G K (n+1) k (db E (some (.exit id,⟨t,sz,H⟩)))=_;unfold db;simp only[N,cond_false];exact T⟩
theorem j4{n:Nat}{s:St}: ∀k:List Fr,runK P G K n k (some (.ret,s))=some (.ret,s)
 | []=>rfl
 | .seq _::k=>j4 k
 | .block _::k=>j4 k
theorem aj(h:Q .ret f H):WK P G K sz .ret k f H Q:=⟨fun t E=>⟨0,.ret,⟨t,sz,H⟩,j4 k,by rw[E];exact h⟩⟩
theorem wk_cond{x:Operand}{a b:Code}{v:Bool}(hx:cJ f x= .bool v)(ho:bo G x=true)(ht:v=true->WK P G K sz a k f H Q)(he:v=false->WK P G K sz b k f H Q):WK P G K sz (.cond x a b) k f H Q:=⟨fun t U=>by
 have E: ∀n,mH P G K (n+1) (.cond x a b) ⟨t,sz,H⟩=bif v then mH P G K (n+1) a ⟨t,sz,H⟩ else mH P G K (n+1) b ⟨t,sz,H⟩:=by intro n;show(bif bo G x then mJ (cI t x) _ _ else none)=_;rw[ho,ew,U,hx];rfl
 cases v with
 |true=>
  obtain⟨n,e,Z,N,T⟩:=(ht V).out t U
  exact⟨n,e,Z,by rw[E];exact N,T⟩
 |false=>
  obtain⟨n,e,Z,N,T⟩:=(he V).out t U
  exact⟨n,e,Z,by rw[E];exact N,T⟩⟩
theorem wk_true{x:Operand}{a b:Code}{v:Bool}(T:cJ f x= .bool v)(N:v=true)(E:bo G x=true)(h:WK P G K sz a k f H Q):WK P G K sz (.cond x a b) k f H Q:=
 wk_cond T E (fun _=>h) (fun e=>by rw[N]at e;cases e)
theorem wk_false{x:Operand}{a b:Code}{v:Bool}(T:cJ f x= .bool v)(N:v=false)(E:bo G x=true)(h:WK P G K sz b k f H Q):WK P G K sz (.cond x a b) k f H Q:=
 wk_cond T E (fun e=>by rw[N]at e;cases e) (fun _=>h)
theorem ab{id:Nat}{ops:Array Oper}(h:WO P G K sz ops ops.toList k f H Q):WK P G K sz (.region id ops false) k f H Q:=⟨h.out⟩
theorem iy{ops:Array Oper}(h:WK P G K sz .skip k f H Q):WO P G K sz ops [] k f H Q:=⟨h.out⟩
theorem au(l:List (Nat×Value))(E:aB f l)(h: ∀g,WK P G K sz c k (gQ g l) H Q):WK P G K sz c k f H Q:=by have:=h f;rwa [e9 E]at this
structure AP(P:Program)(ρ:Operand->Value)(o:Oper)(H:Heap)(r:AN×Heap):Prop where
 eq:aop P ρ o H=some r
def dstOK(d:Option Tmp)(sz:Nat):Bool:=match d with
 |some d=>Nat.ble (d+1) sz
 |none=>true
theorem jB{s:St}{d:Option Tmp}{v:Value}(T:dstOK d s.size=true): ∃N,s.put d v=some {s with tmps:=N}/\cS N=updO (cS s.tmps) d v:=by
 unfold St.put;cases d with
 |none=>exact⟨s.tmps,V,V⟩
 |some d=>
  have E:Nat.ble (d+1) s.size=true:=T
  simp only[E,cond_true]
  exact⟨lset s.tmps d v,V,lget_lset_fn _ _ _⟩
section
variable {ops:Array Oper} {o:Oper} {os:List Oper} {v:Value} {H1:Heap}
theorem np{t:Tr Value}(hg:o.guard=none)(ho:o.op.operands.toList.all (bo G)=true)(U:aop P (cJ (cS t)) o H=some (.val v,H1))(Z:dstOK o.dst sz=true):
  ∃E,(∀cf,step P G cf ops o ⟨t,sz,H⟩=some ⟨E,sz,H1⟩)/\cS E=updO (cS t) o.dst v:=by
 obtain⟨E,N,T⟩:=jB (s:=⟨t,sz,H1⟩) (v:=v) Z
 refine⟨E,fun cf=>?_,T⟩
 unfold step bf
 simp only[hg,cond_true,ho,ew,U]
 exact N
theorem step_skip{t:Tr Value}(hg:o.guard=none)(ho:o.op.operands.toList.all (bo G)=true)(U:aop P (cJ (cS t)) o H=some (.skip,H1))(Z:dstOK o.dst sz=true):
  ∃E,(∀cf,step P G cf ops o ⟨t,sz,H⟩=some ⟨E,sz,H1⟩)/\cS E=updO (cS t) o.dst undef:=by
 obtain⟨E,N,T⟩:=jB (s:=⟨t,sz,H1⟩) (v:=undef) Z
 refine⟨E,fun cf=>?_,T⟩
 unfold step bf
 simp only[hg,cond_true,ho,ew,U]
 exact N
theorem cP{d:Tmp}{op:Op}{ty:TypeId}{pos:String}{af:Array Edge}(ha:AP P (cJ f) ⟨some d,op,ty,pos,af,none⟩ H (.val v,H1))(ho:op.operands.toList.all (bo G)=true)(hd:Nat.ble (d+1) sz=true)
  (h:WO P G K sz ops os k (upd f d v) H1 Q):WO P G K sz ops (⟨some d,op,ty,pos,af,none⟩::os) k f H Q:=⟨fun t E=>by
 obtain⟨t',N,T⟩:=np (P:=P) (G:=G) (ops:=ops) (t:=t) (o:=⟨some d,op,ty,pos,af,none⟩) V ho (by rw[E];exact ha.eq) hd
 obtain⟨n,e,s',U,Z⟩:=h.out t' (by rw[T,E];rfl)
 refine⟨n,e,s',?_,Z⟩
 rw[bY,N]
 exact U⟩
theorem wo_skip{op:Op}{ty:TypeId}{pos:String}{af:Array Edge}(ha:AP P (cJ f) ⟨none,op,ty,pos,af,none⟩ H (.skip,H1))(ho:op.operands.toList.all (bo G)=true)
  (h:WO P G K sz ops os k f H1 Q):WO P G K sz ops (⟨none,op,ty,pos,af,none⟩::os) k f H Q:=⟨fun t E=>by
 obtain⟨t',N,T⟩:=step_skip (P:=P) (G:=G) (ops:=ops) (t:=t) (sz:=sz) (o:=⟨none,op,ty,pos,af,none⟩) V ho (by rw[E];exact ha.eq) V
 obtain⟨n,e,s',U,Z⟩:=h.out t' (by rw[T,E];rfl)
 refine⟨n,e,s',?_,Z⟩
 rw[bY,N]
 exact U⟩
theorem wo_callG{d:Option Tmp}{op:Op}{ty:TypeId}{pos:String}{af:Array Edge}{g:FuncId}{args:List Value}{R:Value->Heap->Prop}(ha:AP P (cJ f) ⟨d,op,ty,pos,af,none⟩ H (.enter g args,H1))(ho:op.operands.toList.all (bo G)=true)(hd:dstOK d sz=true)
  (hc:C P G K g args H1 R) (h: ∀v E,R v E->WO P G K sz ops os k (updO f d v) E Q):WO P G K sz ops (⟨d,op,ty,pos,af,none⟩::os) k f H Q:=⟨fun t ht=>by
 obtain⟨T,v,E,ad,hr⟩:=hc.out
 have h0:=h v E hr
 obtain⟨t',h1,h2⟩:=jB (s:=⟨t,sz,E⟩) (v:=v) hd
 obtain⟨N,e,s',h3,h4⟩:=h0.out t' (by rw[h2,ht])
 refine⟨Nat.max T N,e,s',?_,h4⟩
 have ag:step P G (call P G K (Nat.max T N)) ops ⟨d,op,ty,pos,af,none⟩ ⟨t,sz,H⟩=some ⟨t',sz,E⟩:=by unfold step bf;simp only[cond_true,ho,ew,ht,ha.eq,fo (a25 T N) _ _ _ _ ad];exact h1
 rw[bY,ag]
 refine dW (a1B (a1w T N)) k _ _ (fun x U=>?_) _ h3
 simp only
 cases Z:fZ P G (call P G K N) ops os ⟨t',sz,E⟩ with
 |none=>rw[Z]at U;cases U
 |some y=>rw[gZ (fo (a1w T N)) _ _ _ Z];rw[Z]at U;exact U⟩
theorem cu{d:Tmp}{op:Op}{ty:TypeId}{pos:String}{af:Array Edge}{g:FuncId}{args:List Value}{R:Value->Heap->Prop}(N:AP P (cJ f) ⟨some d,op,ty,pos,af,none⟩ H (.enter g args,H1))(U:op.operands.toList.all (bo G)=true)(T:Nat.ble (d+1) sz=true)
  (hc:C P G K g args H1 R) (h: ∀v E,R v E->WO P G K sz ops os k (upd f d v) E Q):WO P G K sz ops (⟨some d,op,ty,pos,af,none⟩::os) k f H Q:=wo_callG N U T hc h
end
theorem ak{b:Code}(I:Nat->Fn->Heap->Prop)(m:Nat)(h0:I m f H)
  (step: ∀m f H,I m f H->(∀N E H',N<m->I N E H'->WK P G K sz (.loop b) k E H' Q)->WK P G K sz b (.seq (.loop b)::k) f H Q):WK P G K sz (.loop b) k f H Q:=by
 have aa: ∀n m,m<=n->∀f H,I m f H->WK P G K sz (.loop b) k f H Q:=by
  intro n;induction n with
  |zero=>
   intro m hm f H T
   refine wk_loop (step m f H T fun N E H' Z _=>?_)
   omega
  |succ n ih=>
   intro m hm f H T
   exact wk_loop (step m f H T fun N E H' Z U=>ih N M E H' U)
 exact aa m m (a0d _) f H h0
def cm(P:Program)(f:Fn)(H:Heap):List ResultVar->Option (List Value)
 | []=>some []
 | .tmp t::rs=>
  match cm P f H rs with
  |some l=>some (f t::l)
  |none=>none
 | .cell a t::rs=>
  match f a with
  | .pointer (some p)=>
   match H.loadV P t p,cm P f H rs with
   |some v,some l=>some (v::l)
   |_,_=>none
  |_=>none
theorem hN(s:St): ∀rs,cM P s rs=cm P (cS s.tmps) s.heap rs
 | []=>rfl
 | .tmp t::rs=>by unfold cM cm;rw[hN s rs];cases cm P (cS s.tmps) s.heap rs<;>rfl
 | .cell a t::rs=>by
  unfold cM cm;cases cS s.tmps a with
  |pointer p=>cases p with
   |none=>rfl
   |some p=>simp only[hN s rs];cases s.heap.loadV P t p<;>cases cm P (cS s.tmps) s.heap rs<;>rfl
  |_=>rfl
theorem aC{E:FuncId}{fn:Func}{args:List Value}{R:Value->Heap->Prop}(U:P.funcs[E]?=some fn)(hc:fn.body=some c)(hK:K E args H=none)
  (h:WK P G K (Nat.max args.length fn.ntmps) c [] (argF args) H fun e f' H'=>(e= .normal\/e= .ret)/\∃l,cm P f' H' fn.results.toList=some l/\R (er l) H'):C P G K E args H R:=by
 obtain⟨n,e,Z,h1,he,l,N,hr⟩:=h.out (fO 0 args .nil) (argTmps_fn args)
 refine⟨n+1,er l,Z.heap,?_,hr⟩
 show lR K (nQ P (mH P G K (n+1))) E args H=_
 have T:mH P G K (n+1) c ⟨fO 0 args .nil,Nat.max args.length fn.ntmps,H⟩=some (e,Z):=h1
 unfold lR nQ
 rw[hK]
 simp only[U,hc,T]
 rw[←hN]at N
 rcases he with rfl|rfl
 ·simp only[N]
 simp only[N]
end
section
variable {P:Program} {ρ:Operand->Value} {d:Option Tmp} {ty:TypeId} {pos:String} {af:Array Edge} {gd:Option (Nat×Bool)} {H:Heap}
theorem ap_move{x:Operand}{v:Value}(h:ρ x=v):AP P ρ ⟨d,.move x,ty,pos,af,gd⟩ H (.val v,H):=by subst h;exact⟨V⟩
theorem lG{x:Operand}{v:Value}(h:ρ x=v):AP P ρ ⟨d,.assign x,ty,pos,af,gd⟩ H (.val v,H):=by subst h;exact⟨V⟩
theorem ap_int{op:BinOp}{t yt:TypeId}{x y:Operand}{k E:IntKind}{a b:Int}{v:Value}(T:ρ x= .int k a)(U:ρ y= .int E b)
  (N:(bif lm op then shBin op k a b else bif mw k E then mA op k a b else none)=some v):AP P ρ ⟨d,.binOp op t x y yt,ty,pos,af,gd⟩ H (.val v,H):=by
 refine⟨?_⟩
 show aBin P ρ _ op t (ρ x) y H=_
 rw[T]
 show binInt op k a (ρ y) H=_
 rw[U]
 show ovl _ H=_
 rw[N];rfl
theorem ap_str{op:BinOp}{t yt:TypeId}{x y:Operand}{a b:ByteArray}{v:Value}(N:ρ x= .string a)(T:ρ y= .string b)(E:strOp op a b=some v):
  AP P ρ ⟨d,.binOp op t x y yt,ty,pos,af,gd⟩ H (.val v,H):=by
 refine⟨?_⟩
 show aBin P ρ _ op t (ρ x) y H=_
 rw[N]
 show binStr op a (ρ y) H=_
 rw[T]
 show ovl _ H=_
 rw[E];rfl
theorem ap_not{t:TypeId}{x:Operand}{b:Bool}(E:ρ x= .bool b):AP P ρ ⟨d,.unOp .not t x,ty,pos,af,gd⟩ H (.val (.bool (!b)),H):=by refine⟨?_⟩;show aUn P ρ _ .not (ρ x) H=_;rw[E];rfl
theorem ap_conv{s t:TypeId}{x:Operand}{k E:IntKind}{n:Int}(T:ρ x= .int k n){u:TypeDesc}(hs:P.underlying s=some u)(N:P.underlying t=some (.int E)):
  AP P ρ ⟨d,.convert s t x,ty,pos,af,gd⟩ H (.val (.int E (E.wrap n)),H):=by
 refine⟨?_⟩
 show fQ P ρ _ s t (ρ x) H=_
 rw[T]
 show ovl (nM P s t n) H=_
 unfold nM
 rw[hs,N];rfl
theorem ap_neg{t:TypeId}{x:Operand}{k:IntKind}{n:Int}(E:ρ x= .int k n):AP P ρ ⟨d,.unOp .neg t x,ty,pos,af,gd⟩ H (.val (.int k (k.wrap (0-n))),H):=by
 refine⟨?_⟩;show aUn P ρ _ .neg (ρ x) H=_;rw[E];show bG P ρ _ H=_;unfold bG;have N:((Op.unOp .neg t x).operands.toList.all fun x=>jT (ρ x))=true:=by simp[Op.operands,E,jT,noA0]
 simp only[N,cond_true];show(match aJ P (execOp ρ ⟨d,.unOp .neg t x,ty,pos,af,gd⟩) with|some (.value v)=>bif noA2 v then some (AN.val v,H) else none|_=>none)=_;have T:aJ P (execOp ρ ⟨d,.unOp .neg t x,ty,pos,af,gd⟩)=some (.value (.int k (k.wrap (0-n)))):=by unfold execOp;simp only[E];rfl
 rw[T];rfl
theorem ap_cpl{t:TypeId}{x:Operand}{k:IntKind}{n:Int}(E:ρ x= .int k n):AP P ρ ⟨d,.unOp .xor t x,ty,pos,af,gd⟩ H (.val (.int k (bits .xor k (if k.signed then-1 else k.max) n)),H):=by
 refine⟨?_⟩;show aUn P ρ _ .xor (ρ x) H=_;rw[E];show bG P ρ _ H=_;unfold bG;have N:((Op.unOp .xor t x).operands.toList.all fun x=>jT (ρ x))=true:=by simp[Op.operands,E,jT,noA0]
 simp only[N,cond_true];have T:aJ P (execOp ρ ⟨d,.unOp .xor t x,ty,pos,af,gd⟩)=some (.value (.int k (bits .xor k (if k.signed then-1 else k.max) n))):=by unfold execOp;simp only[E];rfl
 rw[T];rfl
theorem ap_shl{t yt:TypeId}{x y:Operand}{k U:IntKind}{a b:Int}(N:ρ x= .int k a)(T:ρ y= .int U b)(E:0<=b):
  AP P ρ ⟨d,.binOp .shl t x y yt,ty,pos,af,gd⟩ H (.val (.int k (k.wrap (a *2^(Nat.min b.toNat k.bits)))),H):=by
 refine⟨?_⟩
 obtain⟨n,rfl⟩:=a1c E
 exact(ap_int N T V).eq
theorem ap_shr{t yt:TypeId}{x y:Operand}{k U:IntKind}{a b:Int}(N:ρ x= .int k a)(T:ρ y= .int U b)(E:0<=b):
  AP P ρ ⟨d,.binOp .shr t x y yt,ty,pos,af,gd⟩ H (.val (.int k (a.fdiv (2^(Nat.min b.toNat k.bits)))),H):=by
 refine⟨?_⟩
 obtain⟨n,rfl⟩:=a1c E
 exact(ap_int N T V).eq
theorem nY{t:TypeId}{n sz:Nat}{z:List Value}{E:Array (Nat×Operand)}{cells:Array Value}(hs:dV P t=some (sz,z))(T:Nat.ble (n *sz) 16777216=true)
  (N:Instr.fill (fun i=>some (i *sz,sz)) ⟨cp n z⟩ (dF (fun p=>(p.1,ρ p.2)) E.toList)=some cells):
  AP P ρ ⟨d,.buildSlice t n E,ty,pos,af,gd⟩ H (.val (.slice (some ⟨H.next,0,none⟩) n n),H.push (.cells cells.toList none false)):=by
 refine⟨?_⟩
 show bK P t n (dF (fun p=>(p.1,ρ p.2)) E.toList) H=_
 unfold bK
 rw[hs]
 simp only[T,cond_true,N]
 rfl
theorem jN{t e:TypeId}{x i:Operand}{b o n k sz:Nat}{ki:IntKind}{j:Int}(hx:ρ x= .slice (some ⟨b,o,none⟩) n k)(hi:ρ i= .int ki j)(Z:P.underlying t=some (.slice e))(hs:cZ P e=some sz)
  (E:0<=j) (hj:j<n) (U:n<=k):AP P ρ ⟨d,.indexAddr t x i,ty,pos,af,gd⟩ H (.val (.pointer (some ⟨b,o+j.toNat *sz,none⟩)),H):=by
 refine⟨?_⟩
 obtain⟨m,rfl⟩:=a1c E
 show ovl (di P t (ρ x) (ρ i)) H=_
 rw[hx,hi]
 unfold di
 rw[Z]
 show ovl (match cZ P e with|some sz=>bif Nat.ble (m+1) n&&Nat.ble n k then some (.pointer (some ⟨b,o+m *sz,none⟩)) else none|none=>none) H=_
 rw[hs]
 have N:Nat.ble (m+1) n=true:=a0x M
 have T:Nat.ble n k=true:=a0x U
 simp only[N,T,a1s,cond_true]
 rfl
theorem ap_load1{t:TypeId}{x:Operand}{b o:Nat}{cs:List Value}{E:Option Nat}{ro:Bool}{v:Value}(Z:ρ x= .pointer (some ⟨b,o,none⟩))(N:eX P t=some false)(T:H.get b=some (.cells cs E ro))(U:cs[o]?=some v):
  AP P ρ ⟨d,.load t x,ty,pos,af,gd⟩ H (.val v,H):=by
 refine⟨?_⟩
 show d9 P t (ρ x) H=_
 rw[Z]
 show ovl (H.loadV P t ⟨b,o,none⟩) H=_
 unfold Heap.loadV
 rw[N]
 simp only
 unfold Heap.cellAt
 simp only[T,ga,U]
 rfl
theorem ap_loadN{t:TypeId}{x:Operand}{b o n:Nat}{cs l:List Value}{E:Option Nat}{ro:Bool}(hx:ρ x= .pointer (some ⟨b,o,none⟩))(N:eX P t=some true)(hs:cZ P t=some n)(T:H.get b=some (.cells cs E ro))(U:(cs.drop o).take n=l)(Z:l.length=n):
  AP P ρ ⟨d,.load t x,ty,pos,af,gd⟩ H (.val (.agg ⟨l⟩),H):=by
 refine⟨?_⟩
 show d9 P t (ρ x) H=_
 rw[hx]
 show ovl (H.loadV P t ⟨b,o,none⟩) H=_
 unfold Heap.loadV
 rw[N]
 simp only[hs]
 unfold Heap.loadN
 simp only[T,bS,bU,bA,U,Z,a15,cond_true]
 rfl
structure Keeps(H H':Heap):Prop where
 next:H.next<=H'.next
 get: ∀b,b<H.next->H'.get b=H.get b
 log: ∃d,H'.log=d++H.log/\∀b,b∈d->H.next<=b
theorem appL_nil(l:List Value):appL l []=l:=by rw[dO];simp
theorem aO{args:Array Operand}{E:Array TypeId}{i:FuncId}{fn:Func}{f:Fn}{l:List Value}(T:P.funcs[i]?=some fn)(N:(fn.body.isSome&& !(fn.name== "runtime.NumGoroutine"))=true)(U:dF (cJ f) args.toList=l):
  AP P (cJ f) ⟨d,.call ⟨.value (.func i),args,E⟩,ty,pos,af,gd⟩ H (.enter i l,H):=by
 refine⟨?_⟩
 show fF (fS P (.func (.func i) #[] #[]) (dF (cJ f) args.toList)) H=_
 unfold fS
 simp only[T,N,cond_true,U]
 show fF (some (.enter i (appL [] (appL l [])))) H=_
 rw[appL_nil]
 rfl
end
def gA:Inf->Bool
 | .x w=>isNilL w
 |_=>true
def vkAt(ops:Array Oper)(j:Nat):Bool:=match ops[j]? with
 |some o=>aT o.op
 |none=>false
def FsOK(ops:Array Oper)(wr:List Nat)(i:Nat)(fs:List (Nat×Inf)):Prop:= ∀j g,(j,g)∈fs->j<i/\(gA g=true\/j∈wr)/\(vkAt ops j=true->g= .v)
theorem nU: ∀{f g:Inf},gA f=true->gA g=true->dg f g=true
 | .v,_,_,_=>rfl
 | .a b,.v,_,_=>rfl
 | .a b,.a c,_,_=>rfl
 | .a b,.l c,_,_=>rfl
 | .a b,.x w,_,h=>by cases w with
  |nil=>rfl
  |cons _ _=>cases h
 | .l b,.v,_,_=>rfl
 | .l b,.a c,_,_=>rfl
 | .l b,.l c,_,_=>rfl
 | .l b,.x w,_,h=>by cases w with
  |nil=>rfl
  |cons _ _=>cases h
 | .x w,.v,_,_=>rfl
 | .x w,.a c,_,_=>rfl
 | .x w,.l c,h,_=>by cases w with
  |nil=>rfl
  |cons _ _=>cases h
 | .x w,.x u,h,h'=>by simp only[gA]at h h';simp only[dg,h,h',a1s]
theorem below_nil{n:Nat}: ∀{l:List Nat},(∀b,b∈l->n<=b)->dD n l=[]
 | [],_=>rfl
 |c::l,h=>by have E:Nat.ble n c=true:=a0x (h c (a0n ..));unfold dD;rw[E];exact below_nil fun b N=>h b (a0f _ N)
theorem infOf_benign{ops:Array Oper}{o:Oper}{s:St}{n:Nat}{log:List Nat}(h:dD n log=[]):gA (d8 ops o s n log)=true:=by
 unfold d8;rw[h];cases (!bf ops o s.tmps||aT o.op) with
 |true=>rfl
 |false=>
  simp only[cond_false]
  cases dJ o.op with
  |true=>rfl
  |false=>
   simp only[cond_false]
   split
   ·split<;>rfl
   ·split<;>rfl
   ·split<;>rfl
   rfl
theorem infOf_value{ops:Array Oper}{o:Oper}{s:St}{n:Nat}{log:List Nat}(h:aT o.op=true):d8 ops o s n log= .v:=by unfold d8;rw[h,Bool.or_true];rfl
theorem jO{ops:Array Oper}{l:List Nat}{i:Nat}{f:Inf}: ∀{fs:List (Nat×Inf)},(∀j g,(j,g)∈fs->(bn l j i||dg g f)=true)->cj ops l i f fs=true
 | [],_=>rfl
 |(j,g)::fs,h=>by unfold cj;rw[←Bool.or_assoc,h j g (a0n ..),jO fun j g E=>h j g (a0f _ E)];rfl
section
variable {P:Program} {G:Nat} {K:bJ} {sz:Nat} {Q:Ex->Fn->Heap->Prop} {ops:Array Oper} {wr:List Nat} {i:Nat} {os:List Oper} {k:List Fr} {f:Fn} {H H1:Heap} {v:Value}
 {d:Tmp} {op:Op} {ty:TypeId} {pos:String} {af:Array Edge}
structure WD(P:Program)(G:Nat)(K:bJ)(sz:Nat)(ops:Array Oper)(wr:List Nat)(i:Nat)(os:List Oper)(k:List Fr)(f:Fn)(H:Heap)(Q:Ex->Fn->Heap->Prop):Prop where
 out: ∀t fs,cS t=f->FsOK ops wr i fs->∃n e s',runK P G K (n+1) k (dT (bw P G (call P G K n) ops i fs os ⟨t,sz,H⟩))=some (e,s')/\Q e (cS s'.tmps) s'.heap
end
def cO(ops:Array Oper)(f:Fn)(j:Nat):Option Bool:=
 match (ops[j]?).bind (·.dst) with
 |some d=>
  match f d with
  | .bool b=>some b
  |_=>none
 |none=>none
theorem aop_guard{P:Program}{ρ:Operand->Value}{d:Option Tmp}{op:Op}{ty:TypeId}{pos:String}{af:Array Edge}(g E:Option (Nat×Bool))(H:Heap):
  aop P ρ ⟨d,op,ty,pos,af,g⟩ H=aop P ρ ⟨d,op,ty,pos,af,E⟩ H:=by
 cases op<;>rfl
section
variable {P:Program} {G:Nat} {K:bJ} {sz:Nat} {Q:Ex->Fn->Heap->Prop} {ops:Array Oper} {wr:List Nat} {i j:Nat} {os:List Oper} {k:List Fr} {f:Fn} {H H1:Heap} {v want:Bool}
 {d:Option Tmp} {op:Op} {ty:TypeId} {pos:String} {af:Array Edge}
theorem iA{t:Tr Value}(N:cS t=f)(T:cO ops f j=some v)(o:Oper)(E:o.guard=some (j,want)):bf ops o t=(v==want):=by
 unfold bf;rw[E];have:lU ops t j=some v:=by rw[←T,←N];rfl
 simp only[this];cases v<;>cases want<;>rfl
theorem mn{cf:cr}{t:Tr Value}(T:cS t=f)(Z:cO ops f j=some v)(U:v=want):
  step P G cf ops ⟨d,op,ty,pos,af,some (j,want)⟩ ⟨t,sz,H⟩=step P G cf ops ⟨d,op,ty,pos,af,none⟩ ⟨t,sz,H⟩:=by
 unfold step
 rw[iA T Z _ V,U]
 have E:(want==want)=true:=by cases want<;>rfl
 have N:bf ops ⟨d,op,ty,pos,af,none⟩ t=true:=rfl
 simp only[E,N,cond_true,aop_guard (some (j,want)) none]
theorem nq{cf:cr}{t:Tr Value}(N:cS t=f)(U:cO ops f j=some v)(T:v= !want):
  step P G cf ops ⟨d,op,ty,pos,af,some (j,want)⟩ ⟨t,sz,H⟩=St.put ⟨t,sz,H⟩ d undef:=by
 unfold step
 rw[iA N U _ V,T]
 have E:((!want)==want)=false:=by cases want<;>rfl
 simp only[E,cond_false]
theorem iZ(Z:cO ops f j=some v)(U:v=want)(h:WO P G K sz ops (⟨d,op,ty,pos,af,none⟩::os) k f H Q):WO P G K sz ops (⟨d,op,ty,pos,af,some (j,want)⟩::os) k f H Q:=⟨fun t N=>by
 obtain⟨n,e,s',E,T⟩:=h.out t N;refine⟨n,e,s',?_,T⟩;rw[bY]at E⊢;rw[mn N Z U];exact E⟩
theorem wo_gf{d:Tmp}(hy:cO ops f j=some v)(hv:v= !want)(hd:Nat.ble (d+1) sz=true)(h:WO P G K sz ops os k (upd f d undef) H Q):WO P G K sz ops (⟨some d,op,ty,pos,af,some (j,want)⟩::os) k f H Q:=⟨fun t E=>by
 obtain⟨t',U,Z⟩:=jB (s:=⟨t,sz,H⟩) (d:=some d) (v:=undef) hd;obtain⟨n,e,s',N,T⟩:=h.out t' (by rw[Z,E];rfl);refine⟨n,e,s',?_,T⟩;rw[bY,nq E hy hv,U];exact N⟩
theorem lX{d:Tmp}(T:cO ops f j=some v)(N:v=false)(E:Nat.ble (d+1) sz=true)(h:WO P G K sz ops os k (upd f d undef) H Q):WO P G K sz ops (⟨some d,op,ty,pos,af,some (j,true)⟩::os) k f H Q:=wo_gf T N E h
theorem wo_gf0{d:Tmp}(T:cO ops f j=some v)(N:v=true)(E:Nat.ble (d+1) sz=true)(h:WO P G K sz ops os k (upd f d undef) H Q):WO P G K sz ops (⟨some d,op,ty,pos,af,some (j,false)⟩::os) k f H Q:=wo_gf T N E h
theorem wo_gn{d:Tmp}(hy:cO ops f j=none)(hd:Nat.ble (d+1) sz=true)(h:WO P G K sz ops os k (upd f d undef) H Q):WO P G K sz ops (⟨some d,op,ty,pos,af,some (j,want)⟩::os) k f H Q:=⟨fun t N=>by
 obtain⟨t',Z,h4⟩:=jB (s:=⟨t,sz,H⟩) (d:=some d) (v:=undef) hd;obtain⟨n,e,s',T,U⟩:=h.out t' (by rw[h4,N];rfl);refine⟨n,e,s',?_,U⟩;have hw:bf ops ⟨some d,op,ty,pos,af,some (j,want)⟩ t=false:=by
  unfold bf;have:lU ops t j=none:=by rw[←hy,←N];rfl
  simp only[this];cases want<;>rfl
 have E:step P G (call P G K n) ops ⟨some d,op,ty,pos,af,some (j,want)⟩ ⟨t,sz,H⟩=St.put ⟨t,sz,H⟩ (some d) undef:=by unfold step;simp only[hw,cond_false]
 rw[bY,E,Z];exact T⟩
theorem wo_gsT{d:Tmp}(E:cO ops f j=some v)(U:Nat.ble (d+1) sz=true)(N:v=true->WO P G K sz ops (⟨some d,op,ty,pos,af,none⟩::os) k f H Q)(T:v=false->WO P G K sz ops os k (upd f d undef) H Q):
  WO P G K sz ops (⟨some d,op,ty,pos,af,some (j,true)⟩::os) k f H Q:=by
 cases v with
 |true=>exact iZ E V (N V)
 |false=>exact wo_gf E V U (T V)
theorem wo_gsF{d:Tmp}(E:cO ops f j=some v)(U:Nat.ble (d+1) sz=true)(N:v=false->WO P G K sz ops (⟨some d,op,ty,pos,af,none⟩::os) k f H Q)(T:v=true->WO P G K sz ops os k (upd f d undef) H Q):
  WO P G K sz ops (⟨some d,op,ty,pos,af,some (j,false)⟩::os) k f H Q:=by
 cases v with
 |true=>exact wo_gf E V U (T V)
 |false=>exact iZ E V (N V)
end
section
variable {P:Program} {ρ:Operand->Value} {d:Option Tmp} {ty:TypeId} {pos:String} {af:Array Edge} {gd:Option (Nat×Bool)} {H:Heap}
theorem nW{c a b:Operand}{t:Bool}{v:Value}(hc:ρ c= .bool t)(E:t=true)(N:ρ a=v):AP P ρ ⟨d,.pick c a b,ty,pos,af,gd⟩ H (.val v,H):=by refine⟨?_⟩;show gq ρ c a b H=_;unfold gq;rw[hc,E,←N];rfl
theorem ap_pickF{c a b:Operand}{t:Bool}{v:Value}(hc:ρ c= .bool t)(E:t=false)(N:ρ b=v):AP P ρ ⟨d,.pick c a b,ty,pos,af,gd⟩ H (.val v,H):=by refine⟨?_⟩;show gq ρ c a b H=_;unfold gq;rw[hc,E,←N];rfl
def d4(op:BinOp)(t:TypeId)(x y:Operand)(a b:Bool):Sem Next:=
 ((eqGuard op t x y (.bool a) (.bool b))>>=fun _=>binOp op t (.bool a) (.bool b))>>=fun r=>Pure.pure (Next.value r)
theorem ap_boolEq{t yt:TypeId}{x y:Operand}{a b:Bool}(N:ρ x= .bool a)(T:ρ y= .bool b)(E: ∀a b:Bool,aJ P (d4 .eql t x y a b)=some (.value (.bool (a==b)))):AP P ρ ⟨d,.binOp .eql t x y yt,ty,pos,af,gd⟩ H (.val (.bool (a==b)),H):=by
 refine⟨?_⟩;show aBin P ρ _ .eql t (ρ x) y H=_;rw[N];show bG P ρ _ H=_;unfold bG;have U:((Op.binOp .eql t x y yt).operands.toList.all fun x=>jT (ρ x))=true:=by simp[Op.operands,N,T,jT,noA0]
 simp only[U,cond_true];have Z:aJ P (execOp ρ ⟨d,.binOp .eql t x y yt,ty,pos,af,gd⟩)=some (.value (.bool (a==b))):=by rw[←E a b];unfold execOp d4;simp only[N,T]
 rw[Z];rfl
end
open Go.RowKit
abbrev Fz:=Nat->Option AObj
abbrev Fp:=List (Nat×AObj)
def Fz.le(F F':Fz):Prop:= ∀b o,F b=some o->F' b=some o
theorem Fz.le_refl(F:Fz):F.le F:=fun _ _ h=>h
theorem Fz.le_trans{A B C:Fz}(h:A.le B)(k:B.le C):A.le C:=fun b o x=>k b o (h b o x)
def Fz.add(F:Fz)(b:Nat)(o:AObj):Fz:=fun j=>bif Nat.beq b j then some o else F j
def Fz.addL(F:Fz):Fp->Fz
 | []=>F
 |(b,o)::p=>(F.addL p).add b o
abbrev in64(n:Int):Prop:= -9223372036854775808<=n/\n<9223372036854775808
structure Base where
 n0:Nat
 W:List Nat
 lg:List Nat
def Base.of(H:Heap)(W:List Nat):Base:=⟨H.next,W,H.log⟩
structure HS(B:Base)(F:Fz)(H:Heap)(L R:List Fp):Prop where
 fz: ∀b o,F b=some o->H.get b=some o/\b<H.next
 own: ∀p,p∈L\/p∈R->∀b o,(b,o)∈p->H.get b=some o/\b<H.next/\F b=none
 nd:((L++R).flatten.map Prod.fst).Nodup
 n0:B.n0<=H.next
 log: ∀b,b∈H.log->b∈B.lg\/B.n0<=b\/b∈B.W
 mine: ∀p,p∈L->∀b o,(b,o)∈p->B.n0<=b\/b∈B.W
theorem fk{α:Type}: ∀(L:List (List α)) (i:Nat) (p:List α),L[i]?=some p->∃A C,L=A++p::C/\∀q,L.set i q=A++q::C
 | [],_,_,h=>by simp at h
 |x::L,0,p,h=>by simp at h;subst h;exact⟨[],L,V,fun _=>rfl⟩
 |x::L,i+1,p,h=>by obtain⟨A,C,E,N⟩:=fk L i p (by simpa using h);exact⟨x::A,C,by rw[E];rfl,fun q=>by rw[a26,N];rfl⟩
theorem iR{α:Type}(L:List (List α))(i:Nat)(p q:List α)(h:L[i]?=some p): ∃A C,L=A++p::C/\L.set i q=A++q::C:=by obtain⟨A,C,E,N⟩:=fk L i p h;exact⟨A,C,E,N q⟩
section
variable {B:Base} {F F':Fz} {H H':Heap} {L R:List Fp}
theorem HS.relog(h:HS B F H L R){l:List Nat}(E: ∀b,b∈l->b∈B.lg\/B.n0<=b\/b∈B.W):HS B F {H with log:=l} L R:=⟨h.fz,h.own,h.nd,h.n0,E,h.mine⟩
theorem HS.log0(h:HS B F H L R):HS B F {H with log:=[]} L R:=h.relog fun b E=>by simp at E
theorem HS.turn(h:HS B F H L R){i:Nat}{p q:Fp}(hi:L[i]?=some p)(hn:H.next<=H'.next)
  (aw: ∀b,b<H.next->(∀o,(b,o)∉p)->H'.get b=H.get b)
  (hq: ∀b o,(b,o)∈q->H'.get b=some o/\b<H'.next/\(H.next<=b\/∃U,(b,U)∈p)) (a9:(q.map Prod.fst).Nodup)
  (a7: ∀b,b∈H'.log->b∈H.log\/H.next<=b\/∃o,(b,o)∈p):HS B F H' (L.set i q) R:=by
 obtain⟨A,C,e1,e2⟩:=iR L i p q hi
 have ap:p∈L:=a0r hi
 have T:=h.nd
 rw[e1]at T
 have ax: ∀x,x∈L.set i q\/x∈R->x=q\/((x∈L\/x∈R)/\∀b o U,(b,o)∈x->(b,U)∉p):=by
  intro x E;have ay: ∀x,x∈A\/x∈C\/x∈R->∀b o U,(b,o)∈x->(b,U)∉p:=by
   intro x E b o U N ag;simp only[a0l,a0Z,a0R,a0Q,a12,a1p,a07]at T;have ai:b∈p.map Prod.fst:=a0u.2 ⟨_,ag,V⟩;have a5:b∈x.map Prod.fst:=a0u.2 ⟨_,N,V⟩;rcases E with E|E|E
   ·have:b∈A.flatten.map Prod.fst:=a0u.2 ⟨(b,o),a0S.2 ⟨x,E,N⟩,V⟩;exact T.2.2 b this b (.inl ai) V
   ·have:b∈C.flatten.map Prod.fst:=a0u.2 ⟨(b,o),a0S.2 ⟨x,E,N⟩,V⟩;exact T.2.1.2.2 b ai b (.inl this) V
   have:b∈R.flatten.map Prod.fst:=a0u.2 ⟨(b,o),a0S.2 ⟨x,E,N⟩,V⟩;exact T.2.1.2.2 b ai b (.inr this) V
  rw[e2]at E;rcases E with E|E
  ·rcases a07.1 E with E|E
   ·exact .inr ⟨.inl (by rw[e1];exact a07.2 (.inl E)),ay x (.inl E)⟩
   rcases a0v.1 E with rfl|E
   ·exact .inl V
   exact .inr ⟨.inl (by rw[e1];exact a07.2 (.inr (a0f _ E))),ay x (.inr (.inl E))⟩
  exact .inr ⟨.inr E,ay x (.inr (.inr E))⟩
 have a2: ∀b o,(b,o)∈p->F b=none/\b<H.next:=fun b o N=>⟨(h.own p (.inl ap) b o N).2.2,(h.own p (.inl ap) b o N).2.1⟩
 refine⟨fun b o N=>?_,fun x E b o N=>?_,?_,a0e h.n0 hn,fun b N=>?_,fun x E b o N=>?_⟩
 ·obtain⟨Z,h2⟩:=h.fz b o N;refine⟨?_,a0V h2 hn⟩;rw[aw b h2 fun U ao=>by rw[(a2 b U ao).1]at N;cases N];exact Z
 ·rcases ax x E with rfl|⟨a5,hne⟩
  ·obtain⟨Z,h2,h3⟩:=hq b o N;refine⟨Z,h2,?_⟩;rcases h3 with h3|⟨U,ao⟩
   ·cases hf:F b with
    |none=>rfl
    |some z=>have:=(h.fz b z hf).2;omega
   exact(a2 b U ao).1
  obtain⟨Z,h2,h3⟩:=h.own x a5 b o N;exact⟨by rw[aw b h2 fun U=>hne b o U N];exact Z,a0V h2 hn,h3⟩
 ·rw[e2];have a3: ∀x,x∈A\/x∈C\/x∈R->∀b,b∈x.map Prod.fst->b<H.next/\∀U,(b,U)∉p:=by
   intro x E b N;obtain⟨⟨b',o⟩,ag,rfl⟩:=a0u.1 N;have a6:x∈L.set i q\/x∈R:=by
    rw[e2];rcases E with E|E|E
    ·exact .inl (a07.2 (.inl E))
    ·exact .inl (a07.2 (.inr (a0f _ E)))
    exact .inr E
   have bb:x∈L\/x∈R:=by
    rw[e1];rcases E with E|E|E
    ·exact .inl (a07.2 (.inl E))
    ·exact .inl (a07.2 (.inr (a0f _ E)))
    exact .inr E
   refine⟨(h.own x bb b' o ag).2.1,fun U ao=>?_⟩;have an:=T;simp only[a0l,a0Z,a0R,a0Q,a12,a1p,a07]at an;have ai:b'∈p.map Prod.fst:=a0u.2 ⟨_,ao,V⟩;rcases E with E|E|E
   ·exact an.2.2 b' (a0u.2 ⟨(b',o),a0S.2 ⟨x,E,ag⟩,V⟩) b' (.inl ai) V
   ·exact an.2.1.2.2 b' ai b' (.inl (a0u.2 ⟨(b',o),a0S.2 ⟨x,E,ag⟩,V⟩)) V
   exact an.2.1.2.2 b' ai b' (.inr (a0u.2 ⟨(b',o),a0S.2 ⟨x,E,ag⟩,V⟩)) V
  have av: ∀(c_:List Fp) b,b∈c_.flatten.map Prod.fst->∃x,x∈c_/\b∈x.map Prod.fst:=by intro c_ b N;obtain⟨y,hy,rfl⟩:=a0u.1 N;obtain⟨x,E,bk⟩:=a0S.1 hy;exact⟨x,E,a0u.2 ⟨y,bk,V⟩⟩
  have a4: ∀b,b∈q.map Prod.fst->H.next<=b\/∃U,(b,U)∈p:=by intro b N;obtain⟨⟨b',o⟩,ag,rfl⟩:=a0u.1 N;exact(hq b' o ag).2.2
  simp only[a0l,a0Z,a0R,a0Q,a12,a1p,a07]at T⊢;obtain⟨n1,⟨n2,⟨n3,n4,n5⟩,n6⟩,n7⟩:=T;refine⟨n1,⟨a9,⟨n3,n4,n5⟩,fun a ha b N ar=>?_⟩,fun a ha b N ar=>?_⟩
  ·subst ar;have E: ∃x,(x∈A\/x∈C\/x∈R)/\a∈x.map Prod.fst:=by
    rcases N with N|N
    ·obtain⟨x,E,Z⟩:=av C a N;exact⟨x,.inr (.inl E),Z⟩
    obtain⟨x,E,Z⟩:=av R a N;exact⟨x,.inr (.inr E),Z⟩
   obtain⟨x,E,Z⟩:=E;obtain⟨h2,h3⟩:=a3 x E a Z;rcases a4 a ha with h4|⟨U,h4⟩
   ·omega
   exact h3 U h4
  subst ar;rcases N with N|N
  ·obtain⟨x,E,Z⟩:=av A a ha;obtain⟨h2,h3⟩:=a3 x (.inl E) a Z;rcases a4 a N with h4|⟨U,h4⟩
   ·omega
   exact h3 U h4
  exact n7 a ha a (.inr N) V
 ·rcases a7 b N with Z|Z|⟨o,Z⟩
  ·exact h.log b Z
  ·exact .inr (.inl (a0e h.n0 Z))
  exact .inr (h.mine p ap b o Z)
 have a6:=ax x (.inl E)
 rcases a6 with rfl|⟨_,_⟩
 ·rcases (hq b o N).2.2 with h3|⟨U,h3⟩
  ·exact .inl (a0e h.n0 h3)
  exact h.mine p ap b U h3
 rw[e2]at E
 rcases a07.1 E with E|E
 ·exact h.mine x (by rw[e1];exact a07.2 (.inl E)) b o N
 rcases a0v.1 E with rfl|E
 ·rcases (hq b o N).2.2 with h3|⟨U,h3⟩
  ·exact .inl (a0e h.n0 h3)
  exact h.mine p ap b U h3
 exact h.mine x (by rw[e1];exact a07.2 (.inr (a0f _ E))) b o N
theorem HS.cons(h:HS B F H L R):HS B F H ([]::L) R:=
 ⟨h.fz,fun p E b o N=>by
  rcases E with E|E
  ·rcases a0v.1 E with rfl|E
   ·simp at N
   exact h.own p (.inl E) b o N
  ·exact h.own p (.inr E) b o N,by simpa using h.nd,h.n0,h.log,fun p E b o N=>by
  rcases a0v.1 E with rfl|E
  ·simp at N
  exact h.mine p E b o N⟩
theorem HS.snoc(h:HS B F H L R):HS B F H (L++[[]]) R:=
 ⟨h.fz,fun p E b o N=>by
  rcases E with E|E
  ·rcases a07.1 E with E|E
   ·exact h.own p (.inl E) b o N
   simp at E;subst E;simp at N
  ·exact h.own p (.inr E) b o N,by simpa using h.nd,h.n0,h.log,fun p E b o N=>by
  rcases a07.1 E with E|E
  ·exact h.mine p E b o N
  simp at E;subst E;simp at N⟩
theorem HS.push(h:HS B F H L R)(o:AObj):HS B F (H.push o) (L++[[(H.next,o)]]) R:=by
 have N:=(h.snoc).turn (H':=H.push o) (i:=L.length) (p:=[]) (q:=[(H.next,o)]) (by simp) (by simp)
  (fun b E _=>Heap.get_push_ne _ _ M) (fun b T E=>by
   simp at E;obtain⟨rfl,rfl⟩:=E;exact⟨Heap.get_push_same _ _,by simp,.inl (a0d _)⟩) (by simp) (fun b E=> .inl (by simpa using E))
 simpa using N
theorem HS.put(h:HS B F H L R){i b:Nat}{o T:AObj}(hi:L[i]?=some [(b,o)]):HS B F (H.put b T) (L.set i [(b,T)]) R:=
 h.turn hi (by simp) (fun c _ N=>Heap.get_put_ne _ _ fun e=>N o (by simp[e])) (fun c U E=>by
  simp at E;obtain⟨rfl,rfl⟩:=E;have:=(h.own _ (.inl (a0r hi)) c o (by simp)).2.1;exact⟨Heap.get_put_same _ _ _,by simpa using this,.inr ⟨o,by simp⟩⟩) (by simp) (fun c hc=>by
  rw[Heap.log_put]at hc;rcases a0v.1 hc with rfl|hc
  ·exact .inr (.inr ⟨o,by simp⟩)
  exact .inl hc)
theorem HS.get(h:HS B F H L R){i b:Nat}{p:Fp}{o:AObj}(hi:L[i]?=some p)(E:(b,o)∈p):H.get b=some o:=(h.own p (.inl (a0r hi)) b o E).1
theorem HS.drop(h:HS B F H L R){i:Nat}{p:Fp}(hi:L[i]?=some p):HS B F H (L.set i []) R:=
 h.turn hi (a0d _) (fun _ _ _=>rfl) (fun b o E=>by simp at E) (by simp) (fun b E=> .inl E)
theorem addL_get{p:Fp}: ∀{b:Nat} {o:AObj},(F.addL p) b=some o->F b=some o\/(b,o)∈p:=by
 induction p with
 |nil=>intro b o h;exact .inl h
 |cons x p ih=>
  obtain⟨N,T⟩:=x
  intro b o h
  simp only[Fz.addL,Fz.add]at h
  cases E:Nat.beq N b with
  |true=>
   rw[E]at h;simp only[cond_true,a00]at h;subst h
   have:=a0c E;subst this
   exact .inr (by simp)
  |false=>
   rw[E]at h
   rcases ih h with h1|h1
   ·exact .inl h1
   exact .inr (a0f _ h1)
theorem addL_of{p:Fp}: ∀{b:Nat} {o:AObj},(p.map Prod.fst).Nodup->(b,o)∈p->(F.addL p) b=some o:=by
 induction p with
 |nil=>intro b o _ h;simp at h
 |cons x p ih=>
  obtain⟨N,Z⟩:=x
  intro b o E h
  simp only[a1K,List.nodup_cons]at E
  simp only[Fz.addL,Fz.add]
  rcases a0v.1 h with e|h
  ·injection e with e1 e2;subst e1 e2;rw[a15];rfl
  have T:Nat.beq N b=false:=by
   cases U:Nat.beq N b with
   |false=>rfl
   |true=>have:=a0c U;subst this;exact absurd (a0u.2 ⟨_,h,V⟩) E.1
  rw[T];exact ih E.2 h
theorem addL_le{p:Fp}(h: ∀b o,(b,o)∈p->F b=none):F.le (F.addL p):=by
 induction p with
 |nil=>exact F.le_refl
 |cons x p ih=>
  obtain⟨N,o0⟩:=x
  intro b o E
  have T:=ih (fun b o U=>h b o (a0f _ U)) b o E
  simp only[Fz.addL,Fz.add]
  cases Z:Nat.beq N b with
  |false=>exact T
  |true=>
   have:=a0c Z;subst this
   rw[h N o0 (by simp)]at E;cases E
theorem HS.nodup_of(h:HS B F H L R){p:Fp}(E:p∈L):(p.map Prod.fst).Nodup:=by have:=h.nd;obtain⟨A,C,rfl⟩:=List.append_of_mem E;simp only[a0l,a0Z,a0R,a0Q,a12,a1p]at this;exact this.2.1.1
theorem HS.freeze(h:HS B F H L R){i:Nat}{p:Fp}(hi:L[i]?=some p): ∃F',F.le F'/\HS B F' H (L.set i []) R/\∀b o,(b,o)∈p->F' b=some o:=by
 have ad:p∈L:=a0r hi;have ag:=addL_le (F:=F) (p:=p) fun b o N=>(h.own p (.inl ad) b o N).2.2
 have U:=h.drop hi;have ai:=h.nodup_of ad;refine⟨F.addL p,ag,⟨fun b o N=>?_,fun x E b o N=>?_,U.nd,U.n0,U.log,U.mine⟩,fun b o N=>addL_of ai N⟩
 ·rcases addL_get N with T|T
  ·exact h.fz b o T
  have:=h.own p (.inl ad) b o T;exact⟨this.1,this.2.1⟩
 obtain⟨T,h2,h3⟩:=U.own x E b o N;refine⟨T,h2,?_⟩;cases hq:F.addL p b with
 |none=>rfl
 |some z=>
  exfalso
  rcases addL_get hq with h4|h4
  ·rw[h3]at h4;cases h4
  ·--disjoint
   obtain⟨A,C,e1,e2⟩:=iR L i p [] hi;have Z:=h.nd;rw[e1]at Z;simp only[a0l,a0Z,a0R,a0Q,a12,a1p,a07]at Z;have aa:b∈p.map Prod.fst:=a0u.2 ⟨_,h4,V⟩;rcases E with E|E
   ·rw[e2]at E;rcases a07.1 E with E|E
    ·exact Z.2.2 b (a0u.2 ⟨(b,o),a0S.2 ⟨x,E,N⟩,V⟩) b (.inl aa) V
    rcases a0v.1 E with rfl|E
    ·simp at N
    exact Z.2.1.2.2 b aa b (.inl (a0u.2 ⟨(b,o),a0S.2 ⟨x,E,N⟩,V⟩)) V
   exact Z.2.1.2.2 b aa b (.inr (a0u.2 ⟨(b,o),a0S.2 ⟨x,E,N⟩,V⟩)) V
theorem HS.call(h:HS B F H L R):HS (.of H []) F H [] (L++R):=
 ⟨h.fz,fun p E b o N=>by
  rcases E with E|E
  ·simp at E
  exact h.own p (a07.1 E) b o N,by simpa using h.nd,a0d _,fun b N=> .inl N,fun p E=>by simp at E⟩
theorem HS.back{b_:List Fp}{U:Heap}(h:HS B F H L R)(Z:U=H)(k:HS (.of U []) F' H' b_ (L++R)):HS B F' H' (L++b_) R:=by
 subst Z;refine⟨k.fz,fun p E b o N=>k.own p ?_ b o N,?_,a0e h.n0 k.n0,fun b N=>?_,fun p E b o N=>?_⟩
 ·rcases E with E|E
  ·rcases a07.1 E with E|E
   ·exact .inr (a07.2 (.inl E))
   exact .inl E
  exact .inr (a07.2 (.inr E))
 ·have:=k.nd;have T:((L++b_++R).flatten.map Prod.fst).Perm ((b_++(L++R)).flatten.map Prod.fst):=by simp only[a0R,a12,a0l];exact a19 _ _ _
  exact T.nodup_iff.2 this
 ·rcases k.log b N with h1|h1|h1
  ·exact h.log b h1
  ·exact .inr (.inl (a0e h.n0 h1))
  simp[Base.of]at h1
 rcases a07.1 E with E|E
 ·exact h.mine p E b o N
 rcases k.mine p E b o N with h1|h1
 ·exact .inl (a0e h.n0 h1)
 simp[Base.of]at h1
theorem HS.callOwn(h:HS B F H L R){i:Nat}{p:Fp}(hi:L[i]?=some p):HS (.of H (p.map Prod.fst)) F H [p] (L.set i []++R):=by
 obtain⟨A,C,U,Z⟩:=iR L i p [] hi;have aa:p∈L:=a0r hi;refine⟨h.fz,fun x E b o N=>?_,?_,a0d _,fun b N=> .inl N,fun x E b o N=>?_⟩
 ·rcases E with E|E
  ·simp at E;subst E;exact h.own x (.inl aa) b o N
  rw[Z]at E;simp only[a0l,a0Z,a07,a0v]at E;rcases E with E|rfl|E|E
  ·exact h.own x (.inl (by rw[U];simp[E])) b o N
  ·simp at N
  ·exact h.own x (.inl (by rw[U];simp[E])) b o N
  exact h.own x (.inr E) b o N
 ·have:=h.nd;rw[U]at this;rw[Z];have T:(([p]++(A++[]::C++R)).flatten.map Prod.fst).Perm ((A++p::C++R).flatten.map Prod.fst):=by simp only[a0R,a0Q,List.flatten_nil,a0o,a18,a12,a0l];exact a19 _ _ _
  exact T.nodup_iff.2 this
 simp at E;subst E;exact .inr (a0u.2 ⟨_,N,V⟩)
theorem HS.backOwn{H0:Heap}{W:List Nat}{p q:Fp}{b_:List Fp}(h:HS B F H L R){i:Nat}(hi:L[i]?=some p)(hH:H0=H)(hW: ∀b,b∈W->b∈p.map Prod.fst)(k:HS (.of H0 W) F' H' (q::b_) (L.set i []++R)):HS B F' H' (L.set i q++b_) R:=by
 subst hH;obtain⟨A,C,e1,e2⟩:=fk L i p hi;have an:p∈L:=a0r hi;have Z: ∀b,b∈W->B.n0<=b\/b∈B.W:=fun b N=>by obtain⟨⟨b',o⟩,ai,rfl⟩:=a0u.1 (hW b N);exact h.mine p an b' o ai
 have al: ∀x,x∈A++q::C++b_\/x∈R->x∈q::b_\/x∈A++[]::C++R:=by
  intro x E;simp only[a0l,a0Z,a07,a0v]at E⊢;rcases E with(E|E|E|E)|E
  ·exact .inr (.inl E)
  ·exact .inl (.inl E)
  ·exact .inr (.inr (.inr (.inl E)))
  ·exact .inl (.inr E)
  exact .inr (.inr (.inr (.inr E)))
 have aa: ∀x,x∈q::b_->∀b o,(b,o)∈x->B.n0<=b\/b∈B.W:=fun x E b o N=>by
  rcases k.mine x E b o N with T|T
  ·exact .inl (a0e h.n0 T)
  exact Z b T
 rw[e2]at k⊢;refine⟨k.fz,fun x E b o N=>k.own x (al x E) b o N,?_,a0e h.n0 k.n0,fun b N=>?_,fun x E b o N=>?_⟩
 ·have:=k.nd;have U:((A++q::C++b_++R).flatten.map Prod.fst).Perm ((q::b_++(A++[]::C++R)).flatten.map Prod.fst):=by
   simp only[a0R,a0Q,a18,a12,a0l,a0Z];have T: ∀(a c m q r:List Nat),(a++(q++(c++(m++r)))).Perm (q++(m++(a++(c++r)))):=by intro a c m q r;refine List.Perm.trans (a19 a q _) (a0X q ?_);refine List.Perm.trans (a0X a (a19 c m r)) ?_;exact a19 a m _
   exact T _ _ _ _ _
  exact U.nodup_iff.2 this
 ·rcases k.log b N with T|T|T
  ·exact h.log b T
  ·exact .inr (.inl (a0e h.n0 T))
  exact .inr (Z b T)
 simp only[a0l,a0Z,a07,a0v]at E;rcases E with E|rfl|E|E
 ·exact h.mine x (by rw[e1];simp[E]) b o N
 ·exact aa x (by simp) b o N
 ·exact h.mine x (by rw[e1];simp[E]) b o N
 exact aa x (by simp[E]) b o N
end
class Rp(α:Type) where
 sz:Nat
 rep:Fz->List Value->α->Prop
 len: ∀{F:Fz} {cs:List Value} {x:α},rep F cs x->cs.length=sz
 one: ∀{F:Fz} {cs:List Value} {x:α},rep F cs x->mU Value.oneCell' cs=true
 mono: ∀{F F':Fz} {cs:List Value} {x:α},F.le F'->rep F cs x->rep F' cs x
def RL{α:Type} [Rp α](F:Fz):List Value->List α->Prop
 |cs,[]=>cs=[]
 |cs,x::l=> ∃c r,cs=c++r/\Rp.rep F c x/\RL F r l
theorem allL_app{p:Value->Bool}(a b:List Value):mU p (a++b)=(mU p a&&mU p b):=by simp only[od,a2q]
section
variable {α:Type} [Rp α] {F F':Fz}
theorem RL.length: ∀{l:List α} {cs:List Value},RL F cs l->cs.length=l.length *Rp.sz α
 | [],cs,h=>by simp only[RL]at h;subst h;simp
 |x::l,cs,h=>by obtain⟨c,r,rfl,E,N⟩:=h;rw[a01,Rp.len E,RL.length N,a05,a1t,Nat.add_comm]
theorem RL.mono(E:F.le F'): ∀{l:List α} {cs:List Value},RL F cs l->RL F' cs l
 | [],_,h=>h
 |_::_,_,⟨c,r,e,h1,h2⟩=>⟨c,r,e,Rp.mono E h1,RL.mono E h2⟩
theorem RL.one: ∀{l:List α} {cs:List Value},RL F cs l->mU Value.oneCell' cs=true
 | [],cs,h=>by simp only[RL]at h;subst h;rfl
 |x::l,cs,h=>by obtain⟨c,r,rfl,E,N⟩:=h;rw[allL_app,Rp.one E,RL.one N];rfl
theorem RL.append: ∀{l m:List α} {cs E:List Value},RL F cs l->RL F E m->RL F (cs++E) (l++m)
 | [],_,cs,_,h,k=>by simp only[RL]at h;subst h;exact k
 |_::_,_,_,_,⟨c,r,e,h1,h2⟩,k=>⟨c,_,by rw[e,a0l],h1,RL.append h2 k⟩
theorem RL.take: ∀{l:List α} {cs:List Value} (n:Nat),RL F cs l->RL F (cs.take (n *Rp.sz α)) (l.take n)
 |l,cs,0,h=>by simp[RL]
 | [],cs,n+1,h=>by simp only[RL]at h;subst h;simp[RL]
 |x::l,cs,n+1,h=>by
  obtain⟨c,r,rfl,E,U⟩:=h;refine⟨c,r.take (n *Rp.sz α),?_,E,RL.take n U⟩;rw[a2i,Rp.len E];have N:List.take ((n+1) *Rp.sz α) c=c:=a0i (by rw[Rp.len E,a1t];omega);have T:(n+1) *Rp.sz α-Rp.sz α=n *Rp.sz α:=by rw[a1t];omega
  rw[N,T]
theorem RL.drop: ∀{l:List α} {cs:List Value} (n:Nat),RL F cs l->RL F (cs.drop (n *Rp.sz α)) (l.drop n)
 |l,cs,0,h=>by simpa using h
 | [],cs,n+1,h=>by simp only[RL]at h;subst h;simp[RL]
 |x::l,cs,n+1,h=>by
  obtain⟨c,r,rfl,E,U⟩:=h;have:=RL.drop n U;rw[List.drop_append,Rp.len E];have N:List.drop ((n+1) *Rp.sz α) c=[]:=a1P (by rw[Rp.len E,a1t];omega);have T:(n+1) *Rp.sz α-Rp.sz α=n *Rp.sz α:=by rw[a1t];omega
  rw[N,T];exact this
theorem RL.head{l:List α}{x:α}{cs:List Value}(h:RL F cs (x::l)):Rp.rep F (cs.take (Rp.sz α)) x:=by obtain⟨c,r,rfl,E,_⟩:=h;rw[a2i,Rp.len E,a1S,List.take_zero,a0o,a0i (by rw[Rp.len E];omega)];exact E
theorem RL.at{l:List α}{cs:List Value}{j:Nat}{x:α}(h:RL F cs l)(N:l[j]?=some x):Rp.rep F ((cs.drop (j *Rp.sz α)).take (Rp.sz α)) x:=by
 have E:=h.drop j;have U:=(a0w.1 N).1;have T:l.drop j=x::l.drop (j+1):=by rw[a1f U];congr 1;exact(a0w.1 N).2
 rw[T]at E;exact E.head
theorem kJ(cs E:List Value)(o:Nat)(h:o+E.length<=cs.length):bc cs o E=cs.take o++E++cs.drop (o+E.length):=by
 apply a1o;intro i;rw[bp cs o E i h];simp only[a0l,a2k,a0p,a0z,a0L];have e:min o cs.length=o:=M
 rw[e];by_cases N:i<o
 ·rw[if_pos N,if_neg M];simp[N]
 rw[if_neg N];by_cases T:i<o+E.length
 ·rw[if_pos M,if_pos M]
 rw[if_neg M,if_neg M];congr 1;omega
theorem RL.set{l:List α}{cs c:List Value}{j:Nat}{x:α}(h:RL F cs l)(E:j<l.length)(hc:Rp.rep F c x):RL F (bc cs (j *Rp.sz α) c) (l.set j x):=by
 have T:=h.length;have N:j *Rp.sz α+Rp.sz α<=cs.length:=by rw[T,←a1t];exact a0C _ E
 rw[kJ _ _ _ (by rw[Rp.len hc];exact N),List.set_eq_take_append_cons_drop,if_pos E,Rp.len hc,a0l];refine(h.take j).append ?_;refine⟨c,_,V,hc,?_⟩;have:=h.drop (j+1);rw[a1t]at this;exact this
theorem RL.replicate{z:List Value}{x:α}(h:Rp.rep F z x): ∀n,RL F (cp n z) (List.replicate n x)
 |0=>rfl
 |n+1=>⟨z,cp n z,V,h,RL.replicate h n⟩
def Sl(F:Fz)(o:AObj)(off k:Nat)(l:List α):Prop:= ∃cs E N,o= .cells cs E N/\(N=false->off+k *Rp.sz α<=cs.length)/\l.length<=k/\RL F ((cs.drop off).take (l.length *Rp.sz α)) l/\(E=none\/E=some (Rp.sz α))
def Sv(F:Fz)(get:Nat->Option AObj)(v:Value)(l:List α):Prop:=
 (v= .slice none 0 0/\l=[])\/∃b off k o,v= .slice (some ⟨b,off,none⟩) l.length k/\get b=some o/\Sl F o off k l
def SR(F:Fz)(v:Value)(l:List α):Prop:=Sv F F v l
def OS(F:Fz)(v:Value)(l:List α)(p:Fp):Prop:=
 (v= .slice none 0 0/\l=[]/\p=[])\/∃b off k cs E,v= .slice (some ⟨b,off,none⟩) l.length k/\p=[(b,.cells cs E false)]/\Sl F (.cells cs E false) off k l
theorem Sl.mono(hF:F.le F'){o:AObj}{off k:Nat}{l:List α}(h:Sl F o off k l):Sl F' o off k l:=by obtain⟨cs,E,ro,N,T,U,Z,h5⟩:=h;exact⟨cs,E,ro,N,T,U,Z.mono hF,h5⟩
theorem SR.mono(E:F.le F'){v:Value}{l:List α}(h:SR F v l):SR F' v l:=by
 rcases h with h|⟨b,off,k,o,h1,h2,h3⟩
 ·exact .inl h
 exact .inr ⟨b,off,k,o,h1,E _ _ h2,h3.mono E⟩
theorem OS.mono(E:F.le F'){v:Value}{l:List α}{p:Fp}(h:OS F v l p):OS F' v l p:=by
 rcases h with h|⟨b,off,k,cs,opn,h1,h2,h3⟩
 ·exact .inl h
 exact .inr ⟨b,off,k,cs,opn,h1,h2,h3.mono E⟩
theorem SR.nil:SR F (.slice none 0 0) ([]:List α):= .inl ⟨V,V⟩
theorem OS.nil:OS F (.slice none 0 0) ([]:List α) []:= .inl ⟨V,V,V⟩
variable {B:Base} {H:Heap} {L R:List Fp} {v:Value} {l:List α} {p:Fp}
theorem SR.sv(h:SR F v l)(hs:HS B F H L R):Sv F H.get v l:=by
 rcases h with h|⟨b,off,k,o,h1,h2,h3⟩
 ·exact .inl h
 exact .inr ⟨b,off,k,o,h1,(hs.fz b o h2).1,h3⟩
theorem OS.sv(h:OS F v l p)(hs:HS B F H L R){i:Nat}(hi:L[i]?=some p):Sv F H.get v l:=by
 rcases h with⟨E,N,_⟩|⟨b,off,k,cs,U,E,N,T⟩
 ·exact .inl ⟨E,N⟩
 exact .inr ⟨b,off,k,_,E,hs.get hi (by rw[N];simp),T⟩
def sB:Value->Nat
 | .slice (some a) _ _=>a.block
 |_=>0
def sO:Value->Nat
 | .slice (some a) _ _=>a.off
 |_=>0
def HC(get:Nat->Option AObj)(b o:Nat)(cs:List Value):Prop:= ∃all E N,get b=some (.cells all E N)/\(all.drop o).take cs.length=cs
theorem Sv.at{get:Nat->Option AObj}(h:Sv F get v l){j:Nat}{x:α}(E:l[j]?=some x): ∃cs,Rp.rep F cs x/\HC get (sB v) (sO v+j *Rp.sz α) cs:=by
 rcases h with⟨_,rfl⟩|⟨b,off,k,o,rfl,U,cs,T,ro,rfl,h3,h4,Z,h6⟩
 ·simp at E
 have hj:=(a0w.1 E).1;have N:=Z.at E;refine⟨_,N,cs,T,ro,U,?_⟩;rw[Rp.len N];show(cs.drop (off+j *Rp.sz α)).take (Rp.sz α)=(((cs.drop off).take (l.length *Rp.sz α)).drop (j *Rp.sz α)).take (Rp.sz α);rw[a2x,a2z,List.drop_drop];congr 1;have:Rp.sz α<=l.length *Rp.sz α-j *Rp.sz α:=by have:=a0C (Rp.sz α) (show j+1<=l.length from hj);rw[a1t]at this;omega
 omega
theorem HC.get{get:Nat->Option AObj}{b o:Nat}{cs:List Value}(h:HC get b o cs){i:Nat}{v:Value}(E:cs[i]?=some v): ∃all N T,get b=some (.cells all N T)/\all[o+i]?=some v:=by
 obtain⟨all,N,T,U,Z⟩:=h;refine⟨all,N,T,U,?_⟩;rw[←Z,a0z]at E;split at E
 ·rw[a0L]at E;exact E
 cases E
theorem HC.part{get:Nat->Option AObj}{b o:Nat}{cs:List Value}(h:HC get b o cs){i n:Nat}(hn:i+n<=cs.length): ∃all E T,get b=some (.cells all E T)/\(all.drop (o+i)).take n=(cs.drop i).take n/\((cs.drop i).take n).length=n:=by
 obtain⟨all,E,T,U,Z⟩:=h;refine⟨all,E,T,U,?_,by rw[a0p,a0H];omega⟩;have N:(((all.drop o).take cs.length).drop i).take n=(cs.drop i).take n:=by rw[Z]
 rw[a2x,a2z,List.drop_drop]at N;rw[show min n (cs.length-i)=n by omega]at N;exact N
theorem HC.same{get:Nat->Option AObj}{b:Nat}{cs:List Value}{E:Option Nat}{N:Bool}(h:get b=some (.cells cs E N)):HC get b 0 cs:=⟨cs,E,N,h,by simp⟩
instance :Rp Int where
 sz:=1
 rep _ cs n:=cs=[.int .i64 n]/\in64 n
 len:=by rintro F cs x ⟨rfl,_⟩;rfl
 one:=by rintro F cs x ⟨rfl,_⟩;rfl
 mono:=by intro F F' cs x _ h;exact h
instance :Rp Bool where
 sz:=1
 rep _ cs n:=cs=[.bool n]
 len:=by rintro F cs x rfl;rfl
 one:=by rintro F cs x rfl;rfl
 mono:=by intro F F' cs x _ h;exact h
structure Str where
 b:List UInt8
 deriving DecidableEq,Inhabited
instance :Rp Str where
 sz:=1
 rep _ cs s:=cs=[.string ⟨⟨s.b⟩⟩]
 len:=by rintro F cs x rfl;rfl
 one:=by rintro F cs x rfl;rfl
 mono:=by intro F F' cs x _ h;exact h
structure U64 where
 n:Int
 deriving DecidableEq,Inhabited
instance :Rp U64 where
 sz:=1
 rep _ cs s:=cs=[.int .u64 s.n]/\0<=s.n/\s.n<18446744073709551616
 len:=by rintro F cs x ⟨rfl,_⟩;rfl
 one:=by rintro F cs x ⟨rfl,_⟩;rfl
 mono:=by intro F F' cs x _ h;exact h
instance :Rp UInt8 where
 sz:=1
 rep _ cs s:=cs=[.int .u8 s.toNat]
 len:=by rintro F cs x rfl;rfl
 one:=by rintro F cs x rfl;rfl
 mono:=by intro F F' cs x _ h;exact h
theorem Sv.shape{get:Nat->Option AObj}{v:Value}{l:List α}(h:Sv F get v l): ∃a k,v= .slice a l.length k:=by
 rcases h with⟨rfl,rfl⟩|⟨b,off,k,o,rfl,_⟩
 ·exact⟨none,0,V⟩
 exact⟨_,k,V⟩
theorem OS.shape{v:Value}{l:List α}{p:Fp}(h:OS F v l p): ∃a k,v= .slice a l.length k:=by
 rcases h with⟨rfl,rfl,_⟩|⟨b,off,k,cs,E,rfl,_⟩
 ·exact⟨none,0,V⟩
 exact⟨_,k,V⟩
instance :Rp (List α) where
 sz:=1
 rep F cs l:= ∃a k,cs=[.slice a l.length k]/\SR F (.slice a l.length k) l
 len:=by rintro F cs x ⟨a,k,rfl,_⟩;rfl
 one:=by rintro F cs x ⟨a,k,rfl,h⟩;rfl
 mono:=by rintro F F' cs x hF ⟨a,k,rfl,h⟩;exact⟨a,k,V,h.mono hF⟩
end
section
variable {α:Type} [Rp α] {P:Program} {ρ:Operand->Value} {d:Option Tmp} {ty:TypeId} {pos:String} {af:Array Edge} {gd:Option (Nat×Bool)} {B:Base} {F:Fz} {H:Heap} {L R:List Fp} {v:Value} {l:List α} {p:Fp}
theorem nX{x:Operand}{t e:TypeId}(T:ρ x=v)(E:P.underlying t=some (.slice e))(h:Sv F H.get v l):
  AP P ρ ⟨d,.call ⟨.builtin .len, #[x], #[t]⟩,ty,pos,af,gd⟩ H (.val (.int .i64 l.length),H):=by
 refine⟨?_⟩
 obtain⟨a,k,N⟩:=h.shape
 show ovl (aLen P t (ρ x) H) H=_
 rw[T,N]
 unfold aLen
 rw[E];rfl
theorem ap_lenS{x:Operand}{t:TypeId}{s:List UInt8}(N:ρ x= .string ⟨⟨s⟩⟩)(E:P.underlying t=some .string):
  AP P ρ ⟨d,.call ⟨.builtin .len, #[x], #[t]⟩,ty,pos,af,gd⟩ H (.val (.int .i64 s.length),H):=by
 refine⟨?_⟩
 show ovl (aLen P t (ρ x) H) H=_
 rw[N]
 unfold aLen
 rw[E]
 show ovl (some (goInt (eB s))) H=_
 rw[bA];rfl
theorem ap_idxV{x i:Operand}{t e:TypeId}{ki:IntKind}{j:Int}(Z:ρ x=v)(hi:ρ i= .int ki j)(U:P.underlying t=some (.slice e))(hz:cZ P e=some (Rp.sz α))(h:Sv F H.get v l)(N:0<=j:=by first|(dsimp only;omega)|omega)(E:j<l.length:=by first|(dsimp only;omega)|omega):
  AP P ρ ⟨d,.indexAddr t x i,ty,pos,af,gd⟩ H (.val (.pointer (some ⟨sB v,sO v+j.toNat *Rp.sz α,none⟩)),H):=by
 rcases h with⟨_,rfl⟩|⟨b,off,k,o,rfl,h2,cs,ag,ro,rfl,h3,T,h5,h6⟩
 ·simp at E;omega
 exact jN Z hi U hz N E T
theorem gB{t:TypeId}{x:Operand}{b o E i:Nat}{cs:List Value}{w:Value}(hx:ρ x= .pointer (some ⟨b,E,none⟩))(U:eX P t=some false)(hc:HC H.get b o cs)(Z:E=o+i)(hv:cs[i]?=some w):
  AP P ρ ⟨d,.load t x,ty,pos,af,gd⟩ H (.val w,H):=by
 subst Z
 obtain⟨all,ag,ro,N,T⟩:=hc.get hv
 exact ap_load1 hx U N T
theorem mT{t:TypeId}{x:Operand}{b o N i n:Nat}{cs l:List Value}(hx:ρ x= .pointer (some ⟨b,N,none⟩))(ha:eX P t=some true)(hs:cZ P t=some n)(hc:HC H.get b o cs)(ho:N=o+i)(hn:Nat.ble (i+n) cs.length=true)(E:dU (dY cs i) n=l):
  AP P ρ ⟨d,.load t x,ty,pos,af,gd⟩ H (.val (.agg ⟨l⟩),H):=by
 subst ho
 obtain⟨all,al,ro,T,U,Z⟩:=hc.part (a0a hn)
 rw[bS,bU]at E
 exact ap_loadN hx ha hs T (U.trans E) (by rw[←E];exact Z)
theorem ap_fa{s:TypeId}{x:Operand}{f b o E:Nat}(N:ρ x= .pointer (some ⟨b,o,none⟩))(h:iW P s (.pointer (some ⟨b,o,none⟩)) f=some (.pointer (some ⟨b,E,none⟩))):
  AP P ρ ⟨d,.fieldAddr s x f,ty,pos,af,gd⟩ H (.val (.pointer (some ⟨b,E,none⟩)),H):=by
 refine⟨?_⟩
 show ovl (iW P s (ρ x) f) H=_
 rw[N,h];rfl
theorem ap_fv{t:TypeId}{x:Operand}{f:Nat}{u w:Value}(E:ρ x=u)(h:iw P t u f=some w):AP P ρ ⟨d,.field t x f,ty,pos,af,gd⟩ H (.val w,H):=by refine⟨?_⟩;show ovl (iw P t (ρ x) f) H=_;rw[E,h];rfl
theorem ap_ex{x:Operand}{i:Nat}{u w:Value}(E:ρ x=u)(h:gO u i=some w):AP P ρ ⟨d,.extract x i,ty,pos,af,gd⟩ H (.val w,H):=by refine⟨?_⟩;show ovl (gO (ρ x) i) H=_;rw[E,h];rfl
theorem ap_bld{t:TypeId}{E:Array (Nat×Operand)}{ps:Array (Nat×Value)}{z:List Value}{w:Value}(N:E.map (fun p=>(p.1,ρ p.2))=ps)(T:cy P t=some z)(h:aJ P (Instr.build t ps)=some w):
  AP P ρ ⟨d,.build t E,ty,pos,af,gd⟩ H (.val w,H):=by
 refine⟨?_⟩
 show ia P t (E.map fun p=>(p.1,ρ p.2)) H=_
 rw[N]
 unfold ia
 rw[T]
 show lift P (Instr.build t ps) H=_
 unfold lift
 rw[h]
theorem ap_alloc{e:TypeId}{z:List Value}(E:cy P e=some z):AP P ρ ⟨d,.alloc e,ty,pos,af,gd⟩ H (.val (.pointer (some ⟨H.next,0,none⟩)),H.push (.cells z none false)):=by refine⟨?_⟩;show eI P e H=_;unfold eI;rw[E];rfl
theorem ap_box{e:TypeId}{x:Operand}{cs:List Value}(E:(ρ x).cells.toList=cs):AP P ρ ⟨d,.box e x,ty,pos,af,gd⟩ H (.val (.pointer (some ⟨H.next,0,none⟩)),H.push (.cells cs none false)):=by subst E;exact⟨V⟩
theorem iE{b o:Nat}{cs E:List Value}{N:Option Nat}(U:H.get b=some (.cells cs N false))(Z:o+E.length<=cs.length)(T:mU Value.oneCell' E=true):H.storeL ⟨b,o,none⟩ E=some (H.put b (.cells (bc cs o E) N false)):=by unfold Heap.storeL;have:Nat.ble (Nat.add o (eB E)) (eB cs)=true:=a0x (by rw[bA,bA];exact Z);simp only[U,this,T,a1s,cond_true]
theorem ap_st{t:TypeId}{a x:Operand}{b o n:Nat}{u:Value}{cl:List Value}{H1:Heap}(N:ρ a= .pointer (some ⟨b,o,none⟩))(Z:ρ x=u)(U:cZ P t=some n)(hc:u.cells.toList=cl)(T:Nat.beq cl.length n=true)(E:H.storeL ⟨b,o,none⟩ cl=some H1):
  AP P ρ ⟨d,.store t a x,ty,pos,af,gd⟩ H (.skip,H1):=by
 refine⟨?_⟩
 show eW P t (ρ a) (ρ x) H=_
 rw[N,Z]
 unfold eW
 have:u.cells.size=cl.length:=by rw[←hc];simp
 rw[this,U]
 simp only[T,cond_true,hc,E]
 rfl
theorem HS.st(hs:HS B F H L R){i b o:Nat}{cs cl E:List Value}(hi:L[i]?=some [(b,.cells cs none false)])(U:Nat.ble (o+cl.length) cs.length=true)(N:mU Value.oneCell' cl=true)(T:bc cs o cl=E):
  ∃H1,H.storeL ⟨b,o,none⟩ cl=some H1/\HS B F H1 (L.set i [(b,.cells E none false)]) R:=by
 subst T
 exact⟨_,iE (hs.get hi (a08.2 V)) (a0a U) N,hs.put hi⟩
theorem HS.hc(hs:HS B F H L R){i b:Nat}{cs:List Value}(hi:L[i]?=some [(b,.cells cs none false)]):HC H.get b 0 cs:=HC.same (hs.get hi (a08.2 V))
theorem os_set(h:OS F v l p)(hs:HS B F H L R){i j:Nat}(hi:L[i]?=some p){x x':α}{off:Nat}{cl:List Value}(hx:l[j]?=some x)(h1:mU Value.oneCell' cl=true)
  (hr: ∀cs,Rp.rep F cs x->off+cl.length<=cs.length/\Rp.rep F (bc cs off cl) x'):
  ∃H1 p',H.storeL ⟨sB v,sO v+j *Rp.sz α+off,none⟩ cl=some H1/\OS F v (l.set j x') p'/\HS B F H1 (L.set i p') R/\∀b cs E,p=[(b,.cells cs E false)]->∃Z,p'=[(b,.cells Z E false)]:=by
 have hj:=(a0w.1 hx).1
 rcases h with⟨_,rfl,_⟩|⟨b,o,k,cs,E,rfl,rfl,a5,a4,a7,U,h3,h4,h5,h6⟩
 ·simp at hj
 injection U with e1 e2 e3
 subst e1 e2 e3
 replace h3:=h3 V
 have aa:=h5.at hx
 have an:=h5.length
 have ar:j *Rp.sz α+Rp.sz α<=l.length *Rp.sz α:=by rw[←a1t];exact a0C _ hj
 have a6:l.length *Rp.sz α<=k *Rp.sz α:=a0C _ h4
 obtain⟨N,g2⟩:=hr _ aa
 have T:=Rp.len aa
 have hb:o+j *Rp.sz α+off+cl.length<=cs.length:=by rw[T]at N;omega
 refine⟨_,_,iE (b:=b) (o:=o+j *Rp.sz α+off) (hs.get hi (a08.2 V)) hb h1,.inr ⟨b,o,k,_,E,by rw[a0h],V,_,_,_,V,?_,by rw[a0h];exact h4,?_,h6⟩,hs.put hi,?_⟩
 ·intro _;rw[bX _ _ _ hb];exact h3
 rotate_left
 ·intro b' Z a3 U;simp only[a2r,a04,AObj.cells.injEq,and_true]at U;obtain⟨rfl,rfl,rfl⟩:=U;exact⟨_,V⟩
 rw[a0h]
 have aw:((bc cs (o+j *Rp.sz α+off) cl).drop o).take (l.length *Rp.sz α)=bc ((cs.drop o).take (l.length *Rp.sz α)) (j *Rp.sz α) (bc ((((cs.drop o).take (l.length *Rp.sz α)).drop (j *Rp.sz α)).take (Rp.sz α)) off cl):=by
  have hA:(bc ((((cs.drop o).take (l.length *Rp.sz α)).drop (j *Rp.sz α)).take (Rp.sz α)) off cl).length=Rp.sz α:=by rw[bX _ _ _ N,T]
  have hB:((cs.drop o).take (l.length *Rp.sz α)).length=l.length *Rp.sz α:=an;apply a1o;intro q;rw[bp _ _ _ _ (by rw[hA,hB];exact ar),a0z,a0L,bp _ _ _ _ hb,hA];rw[T]at N;by_cases c1:q<l.length *Rp.sz α
  ·rw[if_pos c1];by_cases c2:o+j *Rp.sz α+off<=o+q/\o+q<o+j *Rp.sz α+off+cl.length
   ·rw[if_pos c2,if_pos M,bp _ _ _ _ (by rw[T];exact N),if_pos M];congr 1;omega
   rw[if_neg c2];by_cases c3:j *Rp.sz α<=q/\q<j *Rp.sz α+Rp.sz α
   ·rw[if_pos c3,bp _ _ _ _ (by rw[T];exact N),if_neg M,a0z,if_pos M,a0L,a0z,if_pos M,a0L];congr 1;omega
   rw[if_neg c3,a0z,if_pos c1,a0L]
  rw[if_neg c1,if_neg M,a0z,if_neg c1]
 rw[aw]
 exact h5.set hj g2
theorem Sv.first{x:Value}{E:List α}(h:Sv F H.get x E):lenA x=some E.length/\∃N,fl H (Rp.sz α) E.length x=some N/\RL F N E:=by
 rcases h with⟨rfl,rfl⟩|⟨b,off,k,o,rfl,U,cs,ad,ro,rfl,h3,h4,T,h6⟩
 ·exact⟨V,[],V,V⟩
 refine⟨V,?_⟩;unfold fl;cases Z:Nat.beq E.length 0 with
 |true=>
  have:=a0c Z
  have e:E=[]:=a0y this
  subst e
  exact⟨[],V,V⟩
 |false=>
  refine⟨_,?_,T⟩
  simp only[cond_false]
  unfold Heap.loadN
  have hl:=T.length
  simp only[U,bS,bU,bA,hl,a15,cond_true]
theorem os_append(h:OS F v l p)(hs:HS B F H L R){i:Nat}(hi:L[i]?=some p){x:Value}{N:List α}{T z:List Value}{types:Array TypeId}{st xt e:TypeId}{xd:TypeDesc}{ay:Nat}
  (h0:types[0]?=some st) (h1:types[1]?=some xt) (b2:P.underlying st=some (.slice e)) (b5:P.underlying xt=some xd) (b3: ∀k,xd≠ .int k) (hz:cZ P e=some (Rp.sz α)) (bk:eN P e=some ay) (b6:cy P e=some z)
  (a1:Nat.beq (eB z) (Rp.sz α)=true) (aA:Nat.ble ay 4096=true) (ag:Nat.beq (Rp.sz α) 0=false) (b4:lenA x=some N.length) (hf:fl H (Rp.sz α) N.length x=some T) (U:RL F T N) (aq:l.length+N.length<=2147483648):
  ∃a k H1 p',fV P types v x H=some (.slice a (l++N).length k,H1)/\OS F (.slice a (l++N).length k) (l++N) p'/\HS B F H1 (L.set i p') R:=by
 have ad:L.set i p=L:=by obtain⟨A,C,e1,e2⟩:=fk L i p hi;rw[e2 p,←e1]
 have ar:=U.one
 have Z:=U.length
 have cc:0<Rp.sz α:=by
  rcases a1R (Rp.sz α) with hq|hq
  ·rw[hq]at ag;cases ag
  exact hq
 have c0: ∀(Y:Option (Value×Heap)),(match xd with| .int _=>none|_=>Y)=Y:=by intro Y;cases xd<;>first|rfl|exact absurd V (b3 _)
 unfold fV
 simp only[h0,h1,b2,b5,hz,bk,b6,b4,hf]
 rcases h with⟨rfl,rfl,rfl⟩|⟨b,o,k,cs,ai,rfl,rfl,c7,c6,c8,he,h3,h4,h5,h6⟩
 ·cases hm:Nat.beq N.length 0 with
  |true=>
   have:N=[]:=a0y (a0c hm)
   subst this
   exact⟨none,0,H,[],V,.nil,by rw[ad];exact hs⟩
  |false=>
   have ap:Nat.ble N.length 2147483648=true:=a0x (by simp at aq;omega)
   simp only[cond_false,a1,ap,aA,ag,a1N,a1s,cond_true]
   refine⟨_,_,_,[(H.next,.cells T (some (Rp.sz α)) false)],V,.inr ⟨_,0,_,_,_,V,V,_,_,_,V,?_,by simp,?_,.inr V⟩,?_⟩
   ·intro _;show 0+N.length *Rp.sz α<=T.length;rw[Z];omega
   ·rw[a1j,a18,←Z,a0T];exact U
   refine hs.turn hi (H':=aQ H T (some (Rp.sz α))) (by simp[aQ]) (fun b E _=>Heap.get_push_ne _ _ M) (fun b o E=>?_) (by simp) (fun b E=> .inl (by simpa[aQ] using E))
   simp at E;obtain⟨rfl,rfl⟩:=E
   exact⟨Heap.get_push_same _ _,by simp[aQ],.inl (a0d _)⟩
 injection he with e1 e2 e3
 subst e1 e2 e3
 replace h3:=h3 V
 have hg:=hs.get hi (b:=b) (o:= .cells cs ai false) (by simp)
 simp only[hg]
 cases hk:Nat.ble (l.length+N.length) k with
 |true=>
  have a0:=a0a hk
  simp only[cond_true]
  cases hm:Nat.beq N.length 0 with
  |true=>
   have:N=[]:=a0y (a0c hm)
   subst this
   simp only[cond_true,a0o]
   exact⟨_,_,_,_,V,.inr ⟨b,o,k,cs,ai,V,V,_,_,_,V,fun _=>h3,h4,h5,h6⟩,by rw[ad];exact hs⟩
  |false=>
   simp only[cond_false]
   have bl:(l.length+N.length) *Rp.sz α<=k *Rp.sz α:=a0C _ a0
   have E:o+l.length *Rp.sz α+T.length<=cs.length:=by rw[Z];rw[a16]at bl;omega
   rw[iE hg E ar]
   simp only
   refine⟨some ⟨b,o,none⟩,k,_,[(b,.cells (bc cs (o+l.length *Rp.sz α) T) ai false)],by rw[a01],.inr ⟨b,o,k,_,ai,V,V,_,_,_,V,?_,by rw[a01];exact a0,?_,h6⟩,hs.put hi⟩
   ·intro _;rw[bX _ _ _ E];exact h3
   have b7:((bc cs (o+l.length *Rp.sz α) T).drop o).take ((l++N).length *Rp.sz α)=(cs.drop o).take (l.length *Rp.sz α)++T:=by
    have bz:=h5.length;apply a1o;intro q;rw[a0z,a0L,bp _ _ _ _ E,a01,a16,a2k,bz];by_cases c1:q<l.length *Rp.sz α
    ·rw[if_pos M,if_neg M,if_pos c1,a0z,if_pos c1,a0L]
    rw[if_neg c1];by_cases c2:q<l.length *Rp.sz α+N.length *Rp.sz α
    ·rw[if_pos c2,if_pos (by rw[Z];omega)];congr 1;omega
    rw[if_neg c2,a0J (by rw[Z];omega)]
   rw[b7]
   exact h5.append U
 |false=>
  simp only[cond_false]
  have ap:Nat.ble (l.length+N.length) 2147483648=true:=a0x aq
  have b1:Nat.ble l.length k=true:=a0x h4
  simp only[a1,ap,aA,ag,b1,a1N,a1s,cond_true]
  have a7:fl H (Rp.sz α) l.length (.slice (some ⟨b,o,none⟩) l.length k)=some ((cs.drop o).take (l.length *Rp.sz α)):=by
   unfold fl;cases E:Nat.beq l.length 0 with
   |true=>
    have:=a0c E
    simp[this]
   |false=>
    simp only[cond_false]
    unfold Heap.loadN
    have hl:=h5.length
    simp only[hg,bS,bU,bA,hl,a15,cond_true]
  rw[a7]
  simp only[dO]
  have an:=h5.append U
  have aa:=an.length
  have ao: ∀(k':Nat) (bb:Nat),k'=(l++N).length->OS F (.slice (some ⟨bb,0,none⟩) (l++N).length k') (l++N) [(bb,.cells ((cs.drop o).take (l.length *Rp.sz α)++T) (some (Rp.sz α)) false)]:=by rintro k' bb rfl;refine .inr ⟨bb,0,_,_,_,V,V,_,_,_,V,fun _=>(by rw[aa];omega),a0d _,?_,.inr V⟩;rw[a1j,←aa,a0T];exact an
  rcases h6 with rfl|rfl
  ·simp only;refine⟨some ⟨H.next,0,none⟩,l.length+N.length,_,_,by rw[a01],ao _ _ (by rw[a01]),?_⟩;refine hs.turn hi (by simp[aQ]) (fun b E _=>Heap.get_push_ne _ _ M) (fun b o E=>?_) (by simp) (fun b E=> .inl (by simpa[aQ] using E));simp at E;obtain⟨rfl,rfl⟩:=E;exact⟨Heap.get_push_same _ _,by simp[aQ],.inl (a0d _)⟩
  simp only[a15,a1s,ar,cond_true]
  refine⟨some ⟨H.next,0,none⟩,l.length+N.length,_,_,by rw[a01],ao _ _ (by rw[a01]),?_⟩
  refine hs.turn hi (by simp[aQ]) (fun c E b0=>?_) (fun c o E=>?_) (by simp) (fun c E=>?_)
  ·show((H.put b .dead).push _).get c=_;rw[Heap.get_push_ne _ _ (by simp;omega),Heap.get_put_ne _ _ fun e=>b0 (.cells cs (some (Rp.sz α)) false) (by simp[e])]
  ·simp at E;obtain⟨rfl,rfl⟩:=E;exact⟨Heap.get_push_same (H.put b .dead) _,by simp[aQ],.inl (a0d _)⟩
  simp only[aQ,Heap.log_push,Heap.log_put]at E
  rcases a0v.1 E with rfl|E
  ·exact .inr (.inr ⟨.cells cs (some (Rp.sz α)) false,by simp⟩)
  exact .inl E
end
section
variable {P:Program} {G:Nat} {cf:cr} {ops:Array Oper}
theorem j5{s N:St}{d:Option Tmp}{v:Value}(h:s.put d v=some N):N.size=s.size:=by
 unfold St.put at h;cases d with
 |none=>simp only[a00]at h;rw[←h]
 |some d=>
  cases E:Nat.ble (d+1) s.size with
  |true=>simp only[E,cond_true,a00]at h;rw[←h]
  |false=>simp only[E,cond_false]at h;cases h
theorem step_size{o:Oper}{s T:St}(h:step P G cf ops o s=some T):T.size=s.size:=by
 unfold step at h;cases N:bf ops o s.tmps with
 |false=>simp only[N,cond_false]at h;exact j5 h
 |true=>
  simp only[N,cond_true]at h
  cases E:o.op.operands.toList.all (bo G) with
  |false=>rw[E]at h;cases h
  |true=>
   rw[E]at h
   simp only[cond_true]at h
   split at h
   ·have:=j5 h;exact this
   ·have:=j5 h;exact this
   ·split at h
    ·have:=j5 h;exact this
    cases h
   cases h
theorem kO: ∀(l:List Oper) (s E:St),fZ P G cf ops l s=some E->E.size=s.size
 | [],_,_,h=>by rw[i5]at h;simp only[a00]at h;rw[←h]
 |o::l,s,E,h=>by
  rw[bY]at h;split at h
  ·rename_i t N;rw[kO l _ _ h,step_size N]
  cases h
theorem jA: ∀(l:List Oper) (i:Nat) (fs:List (Nat×Inf)) (s s':St),bw P G cf ops i fs l s=some s'->s'.size=s.size
 | [],_,_,_,_,h=>by unfold bw at h;simp only[a00]at h;rw[←h]
 |o::l,i,fs,s,s',h=>by
  unfold bw at h;split at h
  ·rename_i t f E;cases N:cj ops (ce ops) i f fs with
   |false=>rw[N]at h;cases h
   |true=>
    rw[N]at h
    rw[jA l _ _ _ _ h]
    unfold gW at E
    split at E
    ·rename_i U T;simp only[a00,a04]at E;rw[←E.1];have:=step_size T;exact this
    cases E
  cases h
theorem region_size{E:Bool}{s T:St}(h:bT P G cf ops E s=some T):T.size=s.size:=by
 unfold bT at h;cases E with
 |false=>exact kO _ _ _ h
 |true=>
  simp only[cond_true]at h
  cases N:bh ops&&P.follows .mixedOrders with
  |false=>rw[N]at h;cases h
  |true=>rw[N]at h;exact jA _ _ _ _ _ h
def SizeOK(ex:Code->St->Option (Ex×St)):Prop:= ∀c s e E,ex c s=some (e,E)->E.size=s.size
theorem execC_size{ex:Code->St->Option (Ex×St)}(ai:SizeOK ex):SizeOK (eL P G ex cf):=by
 intro c;have aa: ∀{r:Option (Ex×St)} {k:St->Option (Ex×St)} {n:Nat} {e:Ex} {E:St},(∀e s,r=some (e,s)->s.size=n)->(∀s e E,s.size=n->k s=some (e,E)->E.size=n)->gx r k=some (e,E)->E.size=n:=by
  intro r k n e E hr hk h;cases T:r with
  |none=>rw[T]at h;cases h
  |some y=>
   obtain⟨Z,U⟩:=y
   have N:=hr Z U T
   rw[T]at h
   cases Z with
   |normal=>exact hk U e E N h
   |exit i=>simp only[gx,a00,a04]at h;rw[←h.2];exact N
   |ret=>simp only[gx,a00,a04]at h;rw[←h.2];exact N
 induction c with
 |skip=>intro s e E h;rw[mF]at h;simp only[a00,a04]at h;rw[←h.2]
 |region id ops draw=>
  intro s e E h
  rw[gw]at h
  cases T:bT P G cf ops draw s with
  |none=>rw[T]at h;cases h
  |some t=>
   rw[T]at h
   simp only[dT,a00,a04]at h
   rw[←h.2];exact region_size T
 |seq a b iha ihb=>
  intro s e E h
  rw[lu]at h
  exact aa (fun e U N=>iha s e U N) (fun U e E N h2=>(ihb U e E h2).trans N) h
 |cond c t e iht ihe=>
  intro s e E h
  rw[jh]at h
  cases T:bo G c with
  |false=>rw[T]at h;cases h
  |true=>
   rw[T]at h
   simp only[cond_true]at h
   unfold mJ at h
   split at h
   ·rename_i b hb;cases b with
    |true=>exact iht s _ E h
    |false=>exact ihe s _ E h
   cases h
 |block id b ih=>
  intro s e E h
  rw[io]at h
  cases T:eL P G ex cf b s with
  |none=>rw[T]at h;cases h
  |some y=>
   obtain⟨Z,U⟩:=y
   have N:=ih s Z U T
   rw[T]at h
   cases Z with
   |normal=>simp only[db,a00,a04]at h;rw[←h.2];exact N
   |exit i=>
    unfold db at h
    cases hb:Nat.beq i id with
    |true=>simp only[hb,cond_true,a00,a04]at h;rw[←h.2];exact N
    |false=>simp only[hb,cond_false,a00,a04]at h;rw[←h.2];exact N
   |ret=>simp only[db,a00,a04]at h;rw[←h.2];exact N
 |loop b ih=>
  intro s e E h
  rw[jg]at h
  exact aa (fun e U N=>ih s e U N) (fun U e E N h2=>(ai _ U e E h2).trans N) h
 |exit id=>intro s e E h;rw[mG]at h;simp only[a00,a04]at h;rw[←h.2]
 |ret=>intro s e E h;rw[execC_ret]at h;simp only[a00,a04]at h;rw[←h.2]
 |_=>intro s e E h;cases h
theorem exec_size{K:bJ}: ∀n,SizeOK (mH P G K n)
 |0=>fun c s e E h=>by cases h
 |n+1=>fun c=>execC_size (exec_size n) c
end
section
variable {P:Program} {G:Nat} {K:bJ} {sz:Nat} {Q Q1:Ex->Fn->Heap->Prop} {c:Code} {k:List Fr} {f:Fn} {H:Heap}
theorem wk_cut(h1:WK P G K sz c [] f H Q1)(h2: ∀E H',Q1 .normal E H'->WK P G K sz .skip k E H' Q)(h3: ∀i E H',Q1 (.exit i) E H'->WK P G K sz (.exit i) k E H' Q)(h4: ∀E H',Q1 .ret E H'->Q .ret E H'):
  WK P G K sz c k f H Q:=⟨fun t ht=>by
 obtain⟨N,e,s1,hx,hq⟩:=h1.out t ht
 have Z:mH P G K (N+1) c ⟨t,sz,H⟩=some (e,s1):=hx
 have ap:=exec_size _ _ _ _ _ Z
 obtain⟨t1,T,H1⟩:=s1
 have an:T=sz:=ap
 subst an
 cases e with
 |ret=>exact⟨N,.ret,_,by rw[Z];exact j4 k,h4 _ _ hq⟩
 |normal=>
  obtain⟨U,e,s',h5,h6⟩:=(h2 _ _ hq).out t1 V
  refine⟨Nat.max N U,e,s',?_,h6⟩
  refine dW (a1B (a1w N U)) k _ _ (fun x ad=>?_) _ h5
  have:x=(.normal,⟨t1,T,H1⟩):=by have:some (Ex.normal,(⟨t1,T,H1⟩:St))=some x:=ad;exact(Option.some.inj this).symm
  subst this
  exact iT (a1B (a25 N U)) _ _ _ Z
 |exit i=>
  obtain⟨U,e,s',h5,h6⟩:=(h3 i _ _ hq).out t1 V
  refine⟨Nat.max N U,e,s',?_,h6⟩
  refine dW (a1B (a1w N U)) k _ _ (fun x ad=>?_) _ h5
  have:x=(.exit i,⟨t1,T,H1⟩):=by have:some (Ex.exit i,(⟨t1,T,H1⟩:St))=some x:=ad;exact(Option.some.inj this).symm
  subst this
  exact iT (a1B (a25 N U)) _ _ _ Z⟩
def inR(lo hi:Nat)(ex:List Nat)(j:Nat):Bool:=(Nat.ble lo j&&Nat.ble j hi)||memB j ex
def hav(lo hi:Nat)(ex:List Nat)(g f:Fn):Fn:=fun j=>bif inR lo hi ex j then g j else f j
structure Leaves(lo hi:Nat)(ex:List Nat)(f f':Fn):Prop where
 out: ∀j,inR lo hi ex j=false->f' j=f j
theorem Leaves.refl{lo hi:Nat}{ex:List Nat}{f:Fn}:Leaves lo hi ex f f:=⟨fun _ _=>rfl⟩
theorem Leaves.upd{lo hi:Nat}{ex:List Nat}{f N:Fn}{i:Nat}{v:Value}(T:inR lo hi ex i=true)(h:Leaves lo hi ex f N):Leaves lo hi ex f (upd N i v):=⟨fun j E=>by
 unfold Go.R.upd;cases U:Nat.beq i j with
 |true=>have:=a0c U;subst this;rw[T]at E;cases E
 |false=>exact h.out j E⟩
theorem Leaves.eq{lo hi:Nat}{ex:List Nat}{f E:Fn}(h:Leaves lo hi ex f E):E=hav lo hi ex E f:=by
 funext j;unfold hav;cases N:inR lo hi ex j with
 |true=>rfl
 |false=>exact h.out j N
theorem wk_rcut{id:Nat}{ops:Array Oper}{N:Bool}(lo hi:Nat)(ex:List Nat)(l:List (Nat×Value))(T:Heap->Prop)
  (U:WK P G K sz (.region id ops N) [] f H fun e E H'=>e= .normal/\T H'/\Leaves lo hi ex f E/\aB E l)
  (Z: ∀g H',T H'->WK P G K sz .skip k (gQ (hav lo hi ex g f) l) H' Q):WK P G K sz (.region id ops N) k f H Q:=by
 refine wk_cut U ?_ ?_ ?_
 ·rintro E H' ⟨_,hH,hl,ha⟩;have:=Z E H' hH;rw[←hl.eq,e9 ha]at this;exact this
 ·rintro i E H' ⟨h,_⟩;cases h
 rintro E H' ⟨h,_⟩;cases h
end
inductive ID where
 |v
 |a
 |r
 |l (b:Nat)
 |x (W:List Nat)
 |q (S:Nat->Prop)
 |n (B:Nat)
 |s (W:List Nat)
def ID.fits:ID->Inf->Prop
 | .v,g=>g= .v
 | .a,g=> ∃b,g= .a b
 | .r,g=>gA g=true
 | .l b,g=>g= .l b
 | .x W,g=> ∃w,g= .x w/\∀b,b∈w->b∈W
 | .q S,g=>g= .v\/∃b,g= .l b/\S b
 | .n B,g=> ∃b,g= .a b/\B<=b
 | .s W,g=> ∃w,g= .x w/\∀b,b∈w->b∈W
def ID.nilW:List Nat->Prop
 | []=>True
 |_=>False
def cD:ID->ID->Prop
 | .v,_=>True
 |_,.v=>True
 | .q S,.x W=> ∀b,b∈W->¬S b
 | .x W,.q S=> ∀b,b∈W->¬S b
 | .l b,.x W=>b∉W
 | .x W,.l b=>b∉W
 | .x W,.x U=>ID.nilW W/\ID.nilW U
 | .n B,.x W=> ∀b,b∈W->b<B
 | .x _,.n _=>True
 | .a,.x W=>ID.nilW W
 | .r,.x W=>ID.nilW W
 | .x _,.a=>True
 | .x W,.r=>ID.nilW W
 |_,_=>True
def ID.u:ID->ID
 | .s W=> .x W
 |d=>d
def cE(ops:Array Oper)(j i:Nat):ID->ID->Prop
 | .s W,.s U=>stAt ops j=true/\stAt ops i=true/\∀b,b∈W->b∉U
 |e,d=>cD e.u d.u
theorem ID.fits_u: ∀{d:ID} {g:Inf},d.fits g->d.u.fits g
 | .v,_,h=>h
 | .a,_,h=>h
 | .r,_,h=>h
 | .l _,_,h=>h
 | .x _,_,h=>h
 | .q _,_,h=>h
 | .n _,_,h=>h
 | .s _,_,h=>h
theorem dK{b:Nat}: ∀{l:List Nat},b∉l->memB b l=false
 | [],_=>rfl
 |c::l,h=>by
  simp only[a0v,not_or]at h;unfold memB;have:Nat.beq b c=false:=by
   cases E:Nat.beq b c with
   |false=>rfl
   |true=>exact absurd (a0c E) h.1
  rw[this,dK h.2];rfl
theorem bQ: ∀{d:ID} {g:Inf},d.fits g->(∀W,d≠ .x W)->(∀W,d≠ .s W)->gA g=true
 | .v,_,h,_,_=>by subst h;rfl
 | .a,_,⟨_,h⟩,_,_=>by subst h;rfl
 | .r,_,h,_,_=>h
 | .l _,_,h,_,_=>by subst h;rfl
 | .x W,_,_,h,_=>absurd V (h W)
 | .q _,_,h,_,_=>by rcases h with rfl|⟨_,rfl,_⟩<;>rfl
 | .n _,_,h,_,_=>by obtain⟨_,rfl,_⟩:=h;rfl
 | .s W,_,_,_,h=>absurd V (h W)
theorem eK{W:List Nat}{g:Inf}(h:ID.nilW W)(E:ID.fits (.x W) g):gA g=true:=by
 obtain⟨w,rfl,N⟩:=E;cases W with
 |nil=>
  cases w with
  |nil=>rfl
  |cons a t=>have:=N a (by simp);simp at this
 |cons _ _=>exact absurd h id
theorem compat_of{d e:ID}{f g:Inf}(N:d.fits f)(E:e.fits g)(h:cD d e)(Z: ∀W,d≠ .s W)(aa: ∀W,e≠ .s W):dg f g=true:=by
 have T:gA f=true->gA g=true->dg f g=true:=nU;cases d with
 |v=>rw[show f= .v from N];rfl
 |a=>
  cases e with
  |x W=>exact T (bQ N (by intro W h;cases h) Z) (eK h E)
  |v=>rw[show g= .v from E];cases f<;>rfl
  |_=>exact T (bQ N (by intro W h;cases h) Z) (bQ E (by intro W h;cases h) aa)
 |r=>
  cases e with
  |x W=>exact T (bQ N (by intro W h;cases h) Z) (eK h E)
  |v=>rw[show g= .v from E];cases f<;>rfl
  |_=>exact T (bQ N (by intro W h;cases h) Z) (bQ E (by intro W h;cases h) aa)
 |l b=>
  cases e with
  |x W=>
   obtain⟨w,rfl,hw⟩:=E
   rw[show f= .l b from N]
   show(!memB b w)=true
   rw[dK fun hb=>h (hw b hb)];rfl
  |v=>rw[show g= .v from E];cases f<;>rfl
  |_=>exact T (bQ N (by intro W h;cases h) Z) (bQ E (by intro W h;cases h) aa)
 |x W=>
  cases e with
  |v=>rw[show g= .v from E];cases f<;>rfl
  |a=>obtain⟨b,rfl⟩:=E;obtain⟨w,rfl,_⟩:=N;rfl
  |n B=>obtain⟨b,rfl,_⟩:=E;obtain⟨w,rfl,_⟩:=N;rfl
  |r=>exact T (eK h N) E
  |q S=>
   obtain⟨w,rfl,hw⟩:=N
   rcases E with rfl|⟨b,rfl,hb⟩
   ·rfl
   show(!memB b w)=true
   rw[dK fun hm=>h b (hw b hm) hb];rfl
  |l b=>
   obtain⟨w,rfl,hw⟩:=N
   rw[show g= .l b from E]
   show(!memB b w)=true
   rw[dK fun hb=>h (hw b hb)];rfl
  |x U=>exact T (eK h.1 N) (eK h.2 E)
  |s U=>exact absurd V (aa U)
 |q S=>
  cases e with
  |x W=>
   obtain⟨w,rfl,hw⟩:=E
   rcases N with rfl|⟨b,rfl,hb⟩
   ·rfl
   show(!memB b w)=true
   rw[dK fun hm=>h b (hw b hm) hb];rfl
  |v=>rw[show g= .v from E];cases f<;>rfl
  |_=>exact T (bQ N (by intro W h;cases h) Z) (bQ E (by intro W h;cases h) aa)
 |n B=>
  cases e with
  |x W=>
   obtain⟨w,rfl,hw⟩:=E
   obtain⟨b,rfl,hb⟩:=N
   show(!memB b w)=true
   rw[dK fun hm=>absurd (h b (hw b hm)) (Nat.not_lt_of_le hb)];rfl
  |v=>rw[show g= .v from E];cases f<;>rfl
  |_=>exact T (bQ N (by intro W h;cases h) Z) (bQ E (by intro W h;cases h) aa)
 |s W=>exact absurd V (Z W)
theorem ID.u_ns(d:ID)(W:List Nat):d.u≠ .s W:=by cases d<;>(intro q;cases q)
theorem disj_of{w u:List Nat}:(∀b,b∈w->b∉u)->disjL w u=true:=by
 induction w with
 |nil=>intro _;rfl
 |cons b w ih=>
  intro h
  unfold disjL
  rw[dK (h b (by simp)),ih fun c hc=>h c (by simp[hc])];rfl
theorem cE_ok{ops:Array Oper}{j i:Nat}{d e:ID}{f g:Inf}(Z:e.fits g)(T:d.fits f)(h:cE ops j i e d):(dg g f||stst ops j i g f)=true:=by
 rw[a0A];have E:cD e.u d.u->dg g f=true:=fun h=>compat_of (ID.fits_u Z) (ID.fits_u T) h e.u_ns d.u_ns
 cases e with
 |s W=>
  cases d with
  |s U=>
   right
   obtain⟨h1,h2,h3⟩:=h
   obtain⟨w,rfl,hw⟩:=Z
   obtain⟨u,rfl,hu⟩:=T
   unfold stst
   rw[h1,h2]
   exact disj_of fun b hb N=>h3 b (hw b hb) (hu b N)
  |_=>exact .inl (E h)
 |_=>cases d<;>exact .inl (E h)
def FsD:List (Nat×Inf)->List (Nat×ID)->Prop
 | [],[]=>True
 |(j,g)::fs,(i,d)::D=>j=i/\d.fits g/\FsD fs D
 |_,_=>False
def okD(ops:Array Oper)(i:Nat)(d:ID):List (Nat×ID)->Prop
 | []=>True
 |(j,e)::D=>(bn (ce ops) j i=true\/cE ops j i e d)/\okD ops i d D
theorem dP{ops:Array Oper}{i:Nat}{d:ID}{f:Inf}(E:d.fits f): ∀{fs:List (Nat×Inf)} {D:List (Nat×ID)},FsD fs D->okD ops i d D->cj ops (ce ops) i f fs=true
 | [],[],_,_=>rfl
 |(j,g)::fs,(_,e)::D,⟨rfl,h2,h3⟩,⟨h4,h5⟩=>by
  unfold cj;rw[dP E h3 h5,a17];rcases h4 with h4|h4
  ·rw[h4];rfl
  rw[a0A];exact .inr (cE_ok h2 E h4)
 | [],_::_,h,_=>absurd h id
 |_::_,[],h,_=>absurd h id
section
variable {P:Program} {G:Nat} {K:bJ} {sz:Nat} {Q:Ex->Fn->Heap->Prop} {ops:Array Oper} {D:List (Nat×ID)} {i:Nat} {os:List Oper} {k:List Fr} {f:Fn} {H H1:Heap} {v:Value}
 {d:Tmp} {op:Op} {ty:TypeId} {pos:String} {af:Array Edge}
structure WF2(P:Program)(G:Nat)(K:bJ)(sz:Nat)(ops:Array Oper)(D:List (Nat×ID))(i:Nat)(os:List Oper)(k:List Fr)(f:Fn)(H:Heap)(Q:Ex->Fn->Heap->Prop):Prop where
 out: ∀t fs,cS t=f->FsD fs D->∃n e s',runK P G K (n+1) k (dT (bw P G (call P G K n) ops i fs os ⟨t,sz,H⟩))=some (e,s')/\Q e (cS s'.tmps) s'.heap
theorem aL{id:Nat}(T:(bh ops&&P.follows .mixedOrders)=true)(h:WF2 P G K sz ops [] 0 ops.toList k f H Q):WK P G K sz (.region id ops true) k f H Q:=⟨fun t U=>by
 obtain⟨n,e,Z,E,N⟩:=h.out t [] U trivial;refine⟨n,e,Z,?_,N⟩;have:mH P G K (n+1) (.region id ops true) ⟨t,sz,H⟩=dT (bw P G (call P G K n) ops 0 [] ops.toList ⟨t,sz,H⟩):=by show dT (bT P G (call P G K n) ops true ⟨t,sz,H⟩)=_;unfold bT;simp only[cond_true,T]
 rw[this];exact E⟩
theorem gS(h:WK P G K sz .skip k f H Q):WF2 P G K sz ops D i [] k f H Q:=⟨fun t fs T _=>by
 obtain⟨n,e,U,E,N⟩:=h.out t T;exact⟨n,e,U,by unfold bw;exact E,N⟩⟩
def Did(ops:Array Oper)(f:Fn)(o:Oper)(n:Nat)(log:List Nat)(d:ID):Prop:= ∀t sz H,cS t=f->d.fits (d8 ops o ⟨t,sz,H⟩ n log)
theorem did_v{o:Oper}{n:Nat}{log:List Nat}(h:aT o.op=true):Did ops f o n log .v:=fun _ _ _ _=>infOf_value h
theorem did_a{o:Oper}{n:Nat}{log:List Nat}(N:o.guard=none)(E:aT o.op=false)(h:dJ o.op=true):Did ops f o n log .a:=fun t sz H _=>by unfold d8 bf;simp only[N,a1M,E,Bool.or_self,cond_false,h,cond_true];exact⟨_,V⟩
theorem jj{E:Option Tmp}{lt:TypeId}{a:Operand}{n b o:Nat}{log:List Nat}(N:cJ f a= .pointer (some ⟨b,o,none⟩)):Did ops f ⟨E,.load lt a,ty,pos,af,none⟩ n log (.l b):=fun t sz H T=>by
 have:cI t a= .pointer (some ⟨b,o,none⟩):=by rw[ew,T];exact N
 unfold d8 bf;simp only[a1M,Bool.false_or,cond_false,dJ,aT,this];rfl
theorem gL{n b:Nat}{l:List Nat}(h:b∈dD n l):b∈l/\b<n:=by
 induction l with
 |nil=>simp[dD]at h
 |cons c l ih=>
  unfold dD at h
  cases E:Nat.ble n c with
  |true=>
   rw[E]at h
   have:=ih h
   exact⟨a0f _ this.1,this.2⟩
  |false=>
   rw[E]at h
   rcases a0v.1 h with rfl|h
   ·refine⟨a0n ..,?_⟩;rcases a0g b n with h1|h1
    ·exact h1
    rw[a0x h1]at E;cases E
   have:=ih h
   exact⟨a0f _ this.1,this.2⟩
theorem did_r{o:Oper}{n:Nat}{log:List Nat}(h: ∀b,b∈log->n<=b):Did ops f o n log .r:=fun t sz H _=>infOf_benign (below_nil h)
theorem did_q{E:Option Tmp}{lt:TypeId}{x:Operand}{lo hi Z:Option Operand}{n k m:Nat}{a:Option Addr}{log:List Nat}{S:Nat->Prop}(U:cJ f x= .slice a k m)(N: ∀p,a=some p->S p.block):Did ops f ⟨E,.slice lt x lo hi Z,ty,pos,af,none⟩ n log (.q S):=fun t sz H T=>by
 have:cI t x= .slice a k m:=by rw[ew,T];exact U
 unfold d8 bf;simp only[a1M,Bool.false_or,cond_false,dJ,aT,this];cases a with
 |none=>exact .inl V
 |some p=>exact .inr ⟨_,V,N p V⟩
theorem nK{E:Option Tmp}{x:Operand}{U:Array TypeId}{n k m:Nat}{a:Option Addr}{log:List Nat}(T:cJ f x= .slice a k m):Did ops f ⟨E,.call ⟨.builtin .len, #[x],U⟩,ty,pos,af,none⟩ n log .v:=fun t sz H N=>by
 have:cI t x= .slice a k m:=by rw[ew,N];exact T
 unfold d8 bf;simp only[a1M,Bool.false_or,cond_false,dJ,aT];show ID.fits .v (match dF (cI t) [x] with| [.slice _ _ _]=>Inf.v| [.string _]=> .v|_=> .x (dD n log));show ID.fits .v (match [cI t x] with| [.slice _ _ _]=>Inf.v| [.string _]=> .v|_=> .x (dD n log));rw[this];rfl
def gp:Op->Bool
 | .load _ _| .slice _ _ _ _ _| .call ⟨.builtin .len,_,_⟩=>false
 |o=> !aT o&& !dJ o
theorem dC{o:Oper}{n:Nat}{log:List Nat}{W:List Nat}(hg:o.guard=none)(E:gp o.op=true)(h: ∀b,b∈log->n<=b\/b∈W):Did ops f o n log (.x W):=fun t sz H _=>by
 have T:aT o.op=false/\dJ o.op=false:=by
  unfold gp at E;split at E
  ·cases E
  ·cases E
  ·cases E
  simpa using E
 refine⟨dD n log,?_,fun b Z=>?_⟩
 ·unfold d8 bf;simp only[hg,a1M,T.1,T.2,Bool.or_self,cond_false];split
  ·rename_i N;rw[N]at E;cases E
  ·rename_i N;rw[N]at E;cases E
  ·rename_i N;rw[N]at E;cases E
  rfl
 obtain⟨U,h2⟩:=gL Z;rcases h b U with h3|h3
 ·omega
 exact h3
theorem wf_val{id:ID}(ha:AP P (cJ f) ⟨some d,op,ty,pos,af,none⟩ {H with log:=[]} (.val v,H1))(ho:op.operands.toList.all (bo G)=true)(hd:Nat.ble (d+1) sz=true)
  (U:Did ops f ⟨some d,op,ty,pos,af,none⟩ H.next H1.log id) (Z:okD ops i id D)
  (h: ∀l,(∀b,b∈l->b∈H1.log\/b∈H.log)->WF2 P G K sz ops ((i,id)::D) (i+1) os k (upd f d v) {H1 with log:=l} Q):WF2 P G K sz ops D i (⟨some d,op,ty,pos,af,none⟩::os) k f H Q:=⟨fun t fs T N=>by
 obtain⟨t',h1,h2⟩:=np (P:=P) (G:=G) (ops:=ops) (t:=t) (sz:=sz) (o:=⟨some d,op,ty,pos,af,none⟩) V ho (by rw[T];exact ha.eq) hd
 have hi:=U t sz H T
 obtain⟨n,e,s',h3,h4⟩:=(h (dD H.next H1.log++H.log) (fun b E=>by
  rcases a07.1 E with E|E
  ·exact .inl (gL E).1
  exact .inr E)).out t' ((i,d8 ops ⟨some d,op,ty,pos,af,none⟩ ⟨t,sz,H⟩ H.next H1.log)::fs) (by rw[h2,T];rfl) ⟨V,hi,N⟩
 refine⟨n,e,s',?_,h4⟩
 unfold bw gW
 rw[h1]
 simp only[dP hi N Z,cond_true]
 exact h3⟩
theorem bE{id:ID}(ha:AP P (cJ f) ⟨some d,op,ty,pos,af,none⟩ {H with log:=[]} (.val v,{H with log:=[]}))(ho:op.operands.toList.all (bo G)=true)(hd:Nat.ble (d+1) sz=true)
  (T:Did ops f ⟨some d,op,ty,pos,af,none⟩ H.next [] id) (U:okD ops i id D)
  (h:WF2 P G K sz ops ((i,id)::D) (i+1) os k (upd f d v) H Q):WF2 P G K sz ops D i (⟨some d,op,ty,pos,af,none⟩::os) k f H Q:=⟨fun t fs N E=>by
 obtain⟨t',Z,h2⟩:=np (P:=P) (G:=G) (ops:=ops) (t:=t) (sz:=sz) (o:=⟨some d,op,ty,pos,af,none⟩) V ho (by rw[N];exact ha.eq) hd
 have hi:=T t sz H N
 obtain⟨n,e,s',h3,h4⟩:=h.out t' ((i,d8 ops ⟨some d,op,ty,pos,af,none⟩ ⟨t,sz,H⟩ H.next [])::fs) (by rw[h2,N];rfl) ⟨V,hi,E⟩
 refine⟨n,e,s',?_,h4⟩
 unfold bw gW
 rw[Z]
 simp only[dP hi E U,cond_true,dD,a18]
 exact h3⟩
theorem wf_skip{id:ID}(ha:AP P (cJ f) ⟨none,op,ty,pos,af,none⟩ {H with log:=[]} (.skip,H1))(ho:op.operands.toList.all (bo G)=true)
  (U:Did ops f ⟨none,op,ty,pos,af,none⟩ H.next H1.log id) (Z:okD ops i id D)
  (h: ∀l,(∀b,b∈l->b∈H1.log\/b∈H.log)->WF2 P G K sz ops ((i,id)::D) (i+1) os k f {H1 with log:=l} Q):WF2 P G K sz ops D i (⟨none,op,ty,pos,af,none⟩::os) k f H Q:=⟨fun t fs T N=>by
 obtain⟨t',h1,h2⟩:=step_skip (P:=P) (G:=G) (ops:=ops) (t:=t) (sz:=sz) (o:=⟨none,op,ty,pos,af,none⟩) V ho (by rw[T];exact ha.eq) V
 have hi:=U t sz H T
 obtain⟨n,e,s',h3,h4⟩:=(h (dD H.next H1.log++H.log) (fun b E=>by
  rcases a07.1 E with E|E
  ·exact .inl (gL E).1
  exact .inr E)).out t' ((i,d8 ops ⟨none,op,ty,pos,af,none⟩ ⟨t,sz,H⟩ H.next H1.log)::fs) (by rw[h2,T];rfl) ⟨V,hi,N⟩
 refine⟨n,e,s',?_,h4⟩
 unfold bw gW
 rw[h1]
 simp only[dP hi N Z,cond_true]
 exact h3⟩
theorem ba{W:List Nat}{g:FuncId}{args:List Value}{R:Value->Heap->Prop}(ha:AP P (cJ f) ⟨some d,op,ty,pos,af,none⟩ {H with log:=[]} (.enter g args,{H with log:=[]}))(ho:op.operands.toList.all (bo G)=true)(hd:Nat.ble (d+1) sz=true)(hk:gp op=true)
  (hc:C P G K g args {H with log:=[]} R) (ao:okD ops i (.x W) D)
  (h: ∀v E,R v E->(∀b,b∈E.log->H.next<=b\/b∈W)/\∀l,(∀b,b∈l->b∈E.log\/b∈H.log)->WF2 P G K sz ops ((i,.x W)::D) (i+1) os k (upd f d v) {E with log:=l} Q):WF2 P G K sz ops D i (⟨some d,op,ty,pos,af,none⟩::os) k f H Q:=⟨fun t fs ht aa=>by
 obtain⟨U,v,E,an,hr⟩:=hc.out
 obtain⟨ad,h0⟩:=h v E hr
 obtain⟨t',h1,h2⟩:=jB (s:=⟨t,sz,E⟩) (d:=some d) (v:=v) hd
 have hi:=dC (ops:=ops) (f:=f) (o:=⟨some d,op,ty,pos,af,none⟩) V hk ad t sz H ht
 obtain⟨N,e,s',h3,h4⟩:=(h0 (dD H.next E.log++H.log) (fun b T=>by
  rcases a07.1 T with T|T
  ·exact .inl (gL T).1
  exact .inr T)).out t' ((i,d8 ops ⟨some d,op,ty,pos,af,none⟩ ⟨t,sz,H⟩ H.next E.log)::fs) (by rw[h2,ht];rfl) ⟨V,hi,aa⟩
 refine⟨Nat.max U N,e,s',?_,h4⟩
 have ap:step P G (call P G K (Nat.max U N)) ops ⟨some d,op,ty,pos,af,none⟩ ⟨t,sz,{H with log:=[]}⟩=some ⟨t',sz,E⟩:=by unfold step bf;simp only[cond_true,ho,ew,ht,ha.eq,fo (a25 U N) _ _ _ _ an];exact h1
 unfold bw gW
 rw[ap]
 simp only[dP hi aa ao,cond_true]
 refine dW (a1B (a1w U N)) k _ _ (fun x Z=>?_) _ h3
 cases hq:bw P G (call P G K N) ops (i+1) ((i,d8 ops ⟨some d,op,ty,pos,af,none⟩ ⟨t,sz,H⟩ H.next E.log)::fs) os ⟨t',sz,{E with log:=dD H.next E.log++H.log}⟩ with
 |none=>rw[hq]at Z;cases Z
 |some y=>
  have:=eR (fo (P:=P) (G:=G) (K:=K) (a1w U N)) _ _ _ _ _ hq
  rw[hq]at Z
  rw[this];exact Z⟩
theorem inf_guard{t:Tr Value}{v want:Bool}{j:Nat}{E:Option Tmp}(U:cS t=f)(hy:cO ops f j=some v)(Z:v=want)(sz:Nat)(H:Heap)(n:Nat)(log:List Nat):
  d8 ops ⟨E,op,ty,pos,af,some (j,want)⟩ ⟨t,sz,H⟩ n log=d8 ops ⟨E,op,ty,pos,af,none⟩ ⟨t,sz,H⟩ n log:=by
 have N:bf ops ⟨E,op,ty,pos,af,some (j,want)⟩ t=true:=by rw[iA U hy _ V,Z];cases want<;>rfl
 have T:bf ops ⟨E,op,ty,pos,af,none⟩ t=true:=rfl
 unfold d8
 simp only[N,T]
theorem wf_gt{v want:Bool}{j:Nat}{N:Option Tmp}(hy:cO ops f j=some v)(hv:v=want)(h:WF2 P G K sz ops D i (⟨N,op,ty,pos,af,none⟩::os) k f H Q):WF2 P G K sz ops D i (⟨N,op,ty,pos,af,some (j,want)⟩::os) k f H Q:=⟨fun t fs T U=>by
 obtain⟨n,e,s',E,h2⟩:=h.out t fs T U;refine⟨n,e,s',?_,h2⟩;unfold bw gW at E⊢;rw[mn T hy hv];cases Z:step P G (call P G K n) ops ⟨N,op,ty,pos,af,none⟩ ⟨t,sz,{H with log:=[]}⟩ with
 |none=>rw[Z]at E;exact E
 |some s1=>
  rw[Z]at E
  simp only[inf_guard T hy hv]
  exact E⟩
theorem kB{want:Bool}{j:Nat}(hw: ∀t,cS t=f->bf ops ⟨some d,op,ty,pos,af,some (j,want)⟩ t=false)(hd:Nat.ble (d+1) sz=true)
  (h:WF2 P G K sz ops ((i,.v)::D) (i+1) os k (upd f d undef) H Q):WF2 P G K sz ops D i (⟨some d,op,ty,pos,af,some (j,want)⟩::os) k f H Q:=⟨fun t fs U N=>by
 obtain⟨Z,h3,h4⟩:=jB (s:=⟨t,sz,{H with log:=[]}⟩) (d:=some d) (v:=undef) hd
 have E:=hw t U
 have hi:d8 ops ⟨some d,op,ty,pos,af,some (j,want)⟩ ⟨t,sz,H⟩ H.next []= .v:=by unfold d8;simp only[E,a1N,Bool.true_or,cond_true]
 obtain⟨n,e,s',h1,h2⟩:=h.out Z ((i,.v)::fs) (by rw[h4,U];rfl) ⟨V,V,N⟩
 refine⟨n,e,s',?_,h2⟩
 have T:step P G (call P G K n) ops ⟨some d,op,ty,pos,af,some (j,want)⟩ ⟨t,sz,{H with log:=[]}⟩=some ⟨Z,sz,{H with log:=[]}⟩:=by unfold step;simp only[E,cond_false];exact h3
 have hc:cj ops (ce ops) i .v fs=true:=jO fun j g _=>by cases g<;>simp[dg]
 unfold bw gW
 rw[T]
 simp only[hi,hc,cond_true,dD,a18]
 exact h1⟩
theorem wf_gf{v want:Bool}{j:Nat}(U:cO ops f j=some v)(T:v= !want)(E:Nat.ble (d+1) sz=true)(h:WF2 P G K sz ops ((i,.v)::D) (i+1) os k (upd f d undef) H Q):
  WF2 P G K sz ops D i (⟨some d,op,ty,pos,af,some (j,want)⟩::os) k f H Q:=
 kB (fun t N=>by rw[iA N U _ V,T];cases want<;>rfl) E h
theorem wf_gn{want:Bool}{j:Nat}(T:cO ops f j=none)(E:Nat.ble (d+1) sz=true)(h:WF2 P G K sz ops ((i,.v)::D) (i+1) os k (upd f d undef) H Q):
  WF2 P G K sz ops D i (⟨some d,op,ty,pos,af,some (j,want)⟩::os) k f H Q:=
 kB (fun t N=>by
  unfold bf;have:lU ops t j=none:=by rw[←T,←N];rfl
  simp only[this];cases want<;>rfl) E h
end
theorem w_i64{n:Int}(h:in64 n):IntKind.i64.wrap n=n:=by
 have e:IntKind.i64.wrap n=if(true&&decide (n%(2^64:Int)>=(2^63:Int))) then n%(2^64:Int)-(2^64:Int) else n%(2^64:Int):=rfl
 rw[e];obtain⟨N,T⟩:=h;by_cases E:0<=n
 ·rw[Int.emod_eq_of_lt E M];have:decide (n>=(2^63:Int))=false:=decide_eq_false M;rw[this];rfl
 have:n%(2^64:Int)=n+2^64:=M
 rw[this];have:decide (n+2^64>=(2^63:Int))=true:=decide_eq_true M;rw[this];simp only[a1s,if_true];omega
theorem w_u64{n:Int}(h:0<=n/\n<18446744073709551616):IntKind.u64.wrap n=n:=by show n%(2^64:Int)=n;exact Int.emod_eq_of_lt h.1 M
theorem w_u8{n:Int}(h:0<=n/\n<256):IntKind.u8.wrap n=n:=by show n%(2^8:Int)=n;exact Int.emod_eq_of_lt h.1 M
section
variable {α:Type} [Rp α] {P:Program} {ρ:Operand->Value} {d:Option Tmp} {ty:TypeId} {pos:String} {af:Array Edge} {gd:Option (Nat×Bool)} {B:Base} {F:Fz} {H:Heap} {L R:List Fp} {v:Value} {l:List α} {p:Fp}
variable {t yt:TypeId} {x y:Operand} {k:IntKind} {a b c:Int}
theorem ii(k:IntKind):mw k k=true:=by cases k<;>rfl
theorem ap_add(N:ρ x= .int k a)(T:ρ y= .int k b)(E:k.wrap (a+b)=c):AP P ρ ⟨d,.binOp .add t x y yt,ty,pos,af,gd⟩ H (.val (.int k c),H):=
 ap_int N T (by subst E;show(bif mw k k then _ else none:Option Value)=_;rw[ii];rfl)
theorem ap_cmp{op:BinOp}{r:Bool}(N:ρ x= .int k a)(T:ρ y= .int k b)(E:mA op k a b=some (.bool r))(hs:lm op=false):AP P ρ ⟨d,.binOp op t x y yt,ty,pos,af,gd⟩ H (.val (.bool r),H):=
 ap_int N T (by rw[hs,ii];exact E)
variable {s u:List UInt8}
theorem ap_idxS{i:Operand}{N:IntKind}{j:Int}{E:UInt8}(Z:ρ x= .string ⟨⟨s⟩⟩)(hi:ρ i= .int N j)(U:P.underlying t=some .string)(T:0<=j)(hc:s[j.toNat]?=some E):
  AP P ρ ⟨d,.index t x i,ty,pos,af,gd⟩ H (.val (.int .u8 E.toNat),H):=by
 refine⟨?_⟩
 obtain⟨m,rfl⟩:=a1c T
 show lI P t (ρ x) (ρ i) H=_
 rw[Z,hi]
 show ovl (strAt P t ⟨⟨s⟩⟩ (.int N (Int.ofNat m))) H=_
 unfold strAt
 rw[U]
 show ovl (match nth s m with|some b=>some (.int .u8 b.toNat)|none=>none) H=_
 rw[ga]
 have:s[m]?=some E:=hc
 rw[this];rfl
theorem ap_eqS(E:ρ x= .string ⟨⟨s⟩⟩)(N:ρ y= .string ⟨⟨u⟩⟩):AP P ρ ⟨d,.binOp .eql t x y yt,ty,pos,af,gd⟩ H (.val (.bool (s==u)),H):=ap_str E N V
theorem ap_neS(E:ρ x= .string ⟨⟨s⟩⟩)(N:ρ y= .string ⟨⟨u⟩⟩):AP P ρ ⟨d,.binOp .neq t x y yt,ty,pos,af,gd⟩ H (.val (.bool (s !=u)),H):=ap_str E N V
theorem ap_leS(E:ρ x= .string ⟨⟨s⟩⟩)(N:ρ y= .string ⟨⟨u⟩⟩):AP P ρ ⟨d,.binOp .leq t x y yt,ty,pos,af,gd⟩ H (.val (.bool (Op.bytesLess s u||s==u)),H):=ap_str E N V
theorem ap_ltS(E:ρ x= .string ⟨⟨s⟩⟩)(N:ρ y= .string ⟨⟨u⟩⟩):AP P ρ ⟨d,.binOp .lss t x y yt,ty,pos,af,gd⟩ H (.val (.bool (Op.bytesLess s u)),H):=ap_str E N V
theorem ap_addS(N:ρ x= .string ⟨⟨s⟩⟩)(T:ρ y= .string ⟨⟨u⟩⟩)(E:s.length+u.length<=1099511627776):AP P ρ ⟨d,.binOp .add t x y yt,ty,pos,af,gd⟩ H (.val (.string ⟨⟨s++u⟩⟩),H):=
 ap_str N T (by
  show(bif Nat.ble (eB (appL s u)) 1099511627776 then some (Value.string ⟨⟨appL s u⟩⟩) else none)=_;rw[dO,bA,a01,a0x E];rfl)
theorem lD{n k i j:Nat}{lo hi:Option Value}(N:cd n hi=some j)(T:cd 0 lo=some i)(E:i<=j)(U:j<=k):bnds n k lo hi=some (i,j):=by unfold bnds;simp only[N,T,a0x E,a0x U,a1s,cond_true]
theorem optN{d:Nat}{N:IntKind}{j:Int}(E:0<=j):cd d (some (.int N j))=some j.toNat:=by obtain⟨m,rfl⟩:=a1c E;rfl
theorem optN0{d:Nat}:cd d none=some d:=rfl
theorem ap_slS{lo hi:Option Operand}{i j:Nat}(hx:ρ x= .string ⟨⟨s⟩⟩)(Z:P.underlying t=some .string)(N:cd s.length (hi.map ρ)=some j)(T:cd 0 (lo.map ρ)=some i)(E:i<=j)(U:j<=s.length):
  AP P ρ ⟨d,.slice t x lo hi none,ty,pos,af,gd⟩ H (.val (.string ⟨⟨(s.drop i).take (j-i)⟩⟩),H):=by
 refine⟨?_⟩
 show ovl (bt P t (ρ x) (lo.map ρ) (hi.map ρ) (Option.map ρ none) H) H=_
 rw[hx]
 unfold bt
 simp only[a27,Z]
 show ovl (match bnds (eB s) (eB s) (lo.map ρ) (hi.map ρ) with|some (l,r)=>some (.string ⟨⟨dU (dY s l) (r-l)⟩⟩)|none=>none) H=_
 rw[bA,lD N T E U]
 simp only[bS,bU];rfl
theorem Sl_cut{F:Fz}{o:AObj}{off k i j:Nat}{l:List α}(h:Sl F o off k l)(al:i<=j)(hj:j<=l.length):Sl F o (off+i *Rp.sz α) (k-i) ((l.take j).drop i):=by
 obtain⟨cs,Z,ro,rfl,N,h2,T,h4⟩:=h;have hl:=T.length;have E:((l.take j).drop i).length=j-i:=by simp;omega
 refine⟨cs,Z,ro,V,fun U=>?_,by rw[E];omega,?_,h4⟩
 ·replace N:=N U;have:i *Rp.sz α+(k-i) *Rp.sz α=k *Rp.sz α:=by rw[←a16];congr 1;omega
  omega
 have h5:=(T.take j).drop i;have e:((cs.drop (off+i *Rp.sz α)).take (((l.take j).drop i).length *Rp.sz α))=(((cs.drop off).take (l.length *Rp.sz α)).take (j *Rp.sz α)).drop (i *Rp.sz α):=by rw[E,a2z,a2x,List.drop_drop];congr 1;have:j *Rp.sz α<=l.length *Rp.sz α:=a0C _ hj;rw[a1y this,Nat.sub_mul]
 rw[e];exact h5
theorem Sl_at0{F:Fz}{o:AObj}{off k:Nat}{l:List α}(h:Sl F o off k l):Sl F o off 0 ([]:List α):=by obtain⟨cs,N,Z,rfl,T,h2,h3,U⟩:=h;exact⟨cs,N,Z,V,fun E=>(by have:=T E;omega),a0d _,by simp[RL],U⟩
theorem cut_val{lo hi:Option Operand}{t e:TypeId}{i j off k bb:Nat}{o:AObj}(hx:ρ x= .slice (some ⟨bb,off,none⟩) l.length k)(ht:P.underlying t=some (.slice e))(hz:cZ P e=some (Rp.sz α))(hb:H.get bb=some o)(h:Sl F o off k l)
  (h1:cd l.length (hi.map ρ)=some j) (h2:cd 0 (lo.map ρ)=some i) (ad:i<=j) (hj:j<=l.length):
  ∃U k',AP P ρ ⟨d,.slice t x lo hi none,ty,pos,af,gd⟩ H (.val (.slice (some ⟨bb,U,none⟩) ((l.take j).drop i).length k'),H)/\Sl F o U k' ((l.take j).drop i):=by
 obtain⟨cs,ag,ro,rfl,g1,g2,g3,g4⟩:=h
 have E:((l.take j).drop i).length=j-i:=by simp;omega
 have T:=Sl_cut (F:=F) (o:= .cells cs ag ro) ⟨cs,ag,ro,V,g1,g2,g3,g4⟩ ad hj
 have Z: ∀w,bt P t (.slice (some ⟨bb,off,none⟩) l.length k) (lo.map ρ) (hi.map ρ) none H=some w->AP P ρ ⟨d,.slice t x lo hi none,ty,pos,af,gd⟩ H (.val w,H):=by intro w hw;refine⟨?_⟩;show ovl (bt P t (ρ x) (lo.map ρ) (hi.map ρ) (Option.map ρ none) H) H=_;rw[hx,a27,hw];rfl
 have N:=lD (n:=l.length) (k:=k) h1 h2 ad (a0e hj g2)
 rcases g4 with rfl|rfl
 ·cases hk:Nat.beq k i with
  |true=>
   have ay:=a0c hk
   have e0:(l.take j).drop i=[]:=a0y (by rw[E];omega)
   refine⟨off,k-i,Z _ ?_,?_⟩
   ·unfold bt;simp only[ht,N,hz,hb,hk,cond_true,E]
   rw[e0,ay,a1S]
   exact Sl_at0 (k:=k) (l:=l) ⟨cs,none,ro,V,g1,g2,g3,.inl V⟩
  |false=>
   refine⟨off+i *Rp.sz α,k-i,Z _ ?_,T⟩
   unfold bt
   simp only[ht,N,hz,hb,hk,cond_false,E]
 refine⟨off+i *Rp.sz α,k-i,Z _ ?_,T⟩
 unfold bt
 simp only[ht,N,hz,hb,a15,cond_true,E]
theorem nil_cut{lo hi:Option Operand}{t e:TypeId}{i j:Nat}{sz:Nat}(hx:ρ x= .slice none 0 0)(ht:P.underlying t=some (.slice e))(hz:cZ P e=some sz)(T:cd 0 (hi.map ρ)=some j)(U:cd 0 (lo.map ρ)=some i)(N:i<=j)(Z:j<=0):
  AP P ρ ⟨d,.slice t x lo hi none,ty,pos,af,gd⟩ H (.val (.slice none 0 0),H):=by
 refine⟨?_⟩
 show ovl (bt P t (ρ x) (lo.map ρ) (hi.map ρ) (Option.map ρ none) H) H=_
 rw[hx]
 unfold bt
 have E:=lD (n:=0) (k:=0) T U N Z
 simp only[a27,ht,E,hz,Option.isSome_some,cond_true]
 rfl
theorem sr_cut{lo hi:Option Operand}{t e:TypeId}{i j:Nat}(h:SR F v l)(hs:HS B F H L R)(hx:ρ x=v)(ht:P.underlying t=some (.slice e))(hz:cZ P e=some (Rp.sz α))
  (U:cd l.length (hi.map ρ)=some j) (Z:cd 0 (lo.map ρ)=some i) (E:i<=j) (hj:j<=l.length):
  ∃a k,AP P ρ ⟨d,.slice t x lo hi none,ty,pos,af,gd⟩ H (.val (.slice a ((l.take j).drop i).length k),H)/\SR F (.slice a ((l.take j).drop i).length k) ((l.take j).drop i):=by
 rcases h with⟨rfl,rfl⟩|⟨b,off,k,o,rfl,T,g2⟩
 ·have e0:(([]:List α).take j).drop i=[]:=by simp
  rw[e0];exact⟨none,0,nil_cut hx ht hz U Z E (by simpa using hj),SR.nil⟩
 obtain⟨N,k',h3,h4⟩:=cut_val hx ht hz (hs.fz b o T).1 g2 U Z E hj
 exact⟨_,k',h3,.inr ⟨b,N,k',o,V,T,h4⟩⟩
theorem os_make{t e:TypeId}{li ci:Operand}{kl kc:IntKind}{n:Int}{z:List Value}{N:α}{T:Nat}(hs:HS B F H L R)(hl:ρ li= .int kl n)(hc:ρ ci= .int kc n)(ht:P.underlying t=some (.slice e))(hz:cZ P e=some (Rp.sz α))(an:eN P e=some T)(aq:cy P e=some z)
  (ap:Nat.beq (eB z) (Rp.sz α)=true) (al:Nat.ble T 4096=true) (ao:Nat.beq (Rp.sz α) 0=false) (hr:Rp.rep F z N) (h0:0<=n) (hn:n<=2147483648):
  ∃a k H1 p',AP P ρ ⟨d,.makeSlice t li ci,ty,pos,af,gd⟩ H (.val (.slice a (List.replicate n.toNat N).length k),H1)/\OS F (.slice a (List.replicate n.toNat N).length k) (List.replicate n.toNat N) p'/\HS B F H1 (L++[p']) R/\∀b,b∈H1.log->b∈H.log:=by
 obtain⟨m,rfl⟩:=a1c h0
 have hm:m<=2147483648:=M
 refine⟨some ⟨H.next,0,none⟩,m,H.push (.cells (cp m z) none false),[(H.next,.cells (cp m z) none false)],⟨?_⟩,?_,hs.push _,fun b hb=>by simpa using hb⟩
 ·show ovh (aMake P t (ρ li) (ρ ci) H)=_;rw[hl,hc];unfold aMake;have e1:jX (.int kl (Int.ofNat m))=some m:=rfl;have e2:jX (.int kc (Int.ofNat m))=some m:=rfl;rw[ht];simp only[hz,an,aq];show ovh (match jX (.int kl (Int.ofNat m)),jX (.int kc (Int.ofNat m)) with|some n,some k=>_|_,_=>none)=_;rw[e1,e2];simp only[a0x hm,a0x (a0d m),al,ap,ao,a1N,a1s,cond_true,a0O];rfl
 show OS F _ (List.replicate m N) _
 have E:(List.replicate m N).length=m:=by simp
 have Z:=RL.replicate hr m
 have U:=Z.length
 rw[E]at U
 refine .inr ⟨H.next,0,m,cp m z,none,by simp,V,_,_,_,V,fun _=>M,by rw[E];exact a0d _,?_,.inl V⟩
 rw[E,a1j,←U,a0T];exact Z
theorem os_lit{t:TypeId}{n:Nat}{z:List Value}{E:Array (Nat×Operand)}{cells:List Value}(hs:HS B F H L R)(hi:dV P t=some (Rp.sz α,z))(hn:Nat.ble (n *Rp.sz α) 16777216=true)
  (Z:Instr.fill (fun i=>some (i *Rp.sz α,Rp.sz α)) ⟨cp n z⟩ (dF (fun p=>(p.1,ρ p.2)) E.toList)=some ⟨cells⟩) (N:RL F cells l) (hl:l.length=n):
  ∃a H1 T,AP P ρ ⟨d,.buildSlice t n E,ty,pos,af,gd⟩ H (.val (.slice a n n),H1)/\OS F (.slice a n n) l T/\HS B F H1 (L++[T]) R/\∀b,b∈H1.log->b∈H.log:=by
 subst hl
 refine⟨_,_,[(H.next,.cells cells none false)],nY hi hn Z,?_,hs.push _,fun b U=>by simpa using U⟩
 have:=N.length
 exact .inr ⟨H.next,0,l.length,cells,none,V,V,_,_,_,V,fun _=>M,a0d _,by rw[a1j,←this,a0T];exact N,.inl V⟩
theorem ap_app{E N:Operand}{st T:TypeId}{u w:Value}{H1:Heap}(Z:ρ E=v)(hy:ρ N=u)(U:fV P #[st,T] v u H=some (w,H1)):AP P ρ ⟨d,.call ⟨.builtin .append, #[E,N], #[st,T]⟩,ty,pos,af,gd⟩ H (.val w,H1):=by refine⟨?_⟩;show ovh (fV P #[st,T] (ρ E) (ρ N) H)=_;rw[Z,hy,U];rfl
theorem os_app{s0 x0:Operand}{st e:TypeId}{u:Value}{E:List α}{q T:Nat}{z:List Value}(h:OS F v l p)(hs:HS B F H L R)(hq:L[q]?=some p)(hx:ρ s0=v)(hy:ρ x0=u)(hu:Sv F H.get u E)(ht:P.underlying st=some (.slice e))
  (hz:cZ P e=some (Rp.sz α)) (aa:eN P e=some T) (al:cy P e=some z) (ai:Nat.beq (eB z) (Rp.sz α)=true) (Z:Nat.ble T 4096=true) (ag:Nat.beq (Rp.sz α) 0=false) (U:l.length+E.length<=2147483648):
  ∃a k H1 N,AP P ρ ⟨d,.call ⟨.builtin .append, #[s0,x0], #[st,st]⟩,ty,pos,af,gd⟩ H (.val (.slice a (l++E).length k),H1)/\OS F (.slice a (l++E).length k) (l++E) N/\HS B F H1 (L.set q N) R:=by
 obtain⟨h1,a4,h2,h3⟩:=hu.first
 obtain⟨a,k,H1,N,h4,h5,h6⟩:=os_append (types:= #[st,st]) h hs hq (x:=u) V V ht ht (by intro k hk;cases hk) hz aa al ai Z ag h1 h2 h3 U
 exact⟨a,k,H1,N,ap_app hx hy h4,h5,h6⟩
theorem os_st{t:TypeId}{T Z:Operand}{j q off n b o:Nat}{w:Value}{y y':α}{cl:List Value}(h:OS F v l p)(hs:HS B F H L R)(hq:L[q]?=some p)(ha:ρ T= .pointer (some ⟨b,o,none⟩))(hb:b=sB v)(ho:o=sO v+j *Rp.sz α+off)(hx:ρ Z=w)(hn:cZ P t=some n)(hc:w.cells.toList=cl)(hl:Nat.beq cl.length n=true)
  (hy:l[j]?=some y) (h1:mU Value.oneCell' cl=true) (hr: ∀cs,Rp.rep F cs y->off+cl.length<=cs.length/\Rp.rep F (bc cs off cl) y'):
  ∃H1 E,AP P ρ ⟨d,.store t T Z,ty,pos,af,gd⟩ H (.skip,H1)/\OS F v (l.set j y') E/\HS B F H1 (L.set q E) R/\∀b cs N,p=[(b,.cells cs N false)]->∃U,E=[(b,.cells U N false)]:=by
 subst hb ho
 obtain⟨H1,E,h2,h3,h4,h5⟩:=os_set h hs hq hy h1 hr
 exact⟨H1,E,ap_st ha hx hn hc hl h2,h3,h4,h5⟩
end
theorem agN{f:Fn}:aB f []:=trivial
theorem agC{f:Fn}{i:Nat}{v:Value}{l:List (Nat×Value)}(h:f i=v)(t:aB f l):aB f ((i,v)::l):=⟨h,t⟩
theorem i9{ops:Array Oper}{i:Nat}: ∀D,okD ops i .v D
 | []=>trivial
 |(_,e)::D=>⟨.inr (by cases e<;>trivial),i9 D⟩
def fcL{α β:Type}:List α->(List α->β)->β
 | [],k=>k []
 |a::l,k=>fcL l fun r=>k (a::r)
theorem mE{α β:Type}: ∀(l:List α) (k:List α->β),fcL l k=k l
 | [],_=>rfl
 |_::l,_=>mE l _
structure Rs where
 v:Value
 H:Heap
 p:Fp
section
variable {P:Program} {G:Nat} {K:bJ} {sz:Nat} {Q:Ex->Fn->Heap->Prop} {ops:Array Oper} {D:List (Nat×ID)} {i:Nat} {os:List Oper} {k:List Fr} {f:Fn} {H H1:Heap} {v:Value}
 {d:Tmp} {op:Op} {ty:TypeId} {pos:String} {af:Array Edge} {Φ:Rs->Prop}
theorem bd(T: ∃r:Rs,AP P (cJ f) ⟨some d,op,ty,pos,af,none⟩ H (.val r.v,r.H)/\Φ r)(Z:op.operands.toList.all (bo G)=true)(U:Nat.ble (d+1) sz=true)
  (h: ∀v H1 p,Φ ⟨v,H1,p⟩->WO P G K sz ops os k (upd f d v) H1 Q):WO P G K sz ops (⟨some d,op,ty,pos,af,none⟩::os) k f H Q:=by
 obtain⟨⟨v,H1,p⟩,E,N⟩:=T
 exact cP E Z U (h v H1 p N)
theorem gf(T: ∃r:Rs,AP P (cJ f) ⟨none,op,ty,pos,af,none⟩ H (.skip,r.H)/\Φ r)(U:op.operands.toList.all (bo G)=true)
  (h: ∀v H1 p,Φ ⟨v,H1,p⟩->WO P G K sz ops os k f H1 Q):WO P G K sz ops (⟨none,op,ty,pos,af,none⟩::os) k f H Q:=by
 obtain⟨⟨v,H1,p⟩,E,N⟩:=T
 exact wo_skip E U (h v H1 p N)
theorem fu{id:ID}(Z: ∃r:Rs,AP P (cJ f) ⟨some d,op,ty,pos,af,none⟩ {H with log:=[]} (.val r.v,r.H)/\Φ r)(ho:op.operands.toList.all (bo G)=true)(hd:Nat.ble (d+1) sz=true)
  (N: ∀v H1 p,Φ ⟨v,H1,p⟩->Did ops f ⟨some d,op,ty,pos,af,none⟩ H.next H1.log id) (T:okD ops i id D)
  (h: ∀v H1 p,Φ ⟨v,H1,p⟩->∀l,(∀b,b∈l->b∈H1.log\/b∈H.log)->WF2 P G K sz ops ((i,id)::D) (i+1) os k (upd f d v) {H1 with log:=l} Q):
  WF2 P G K sz ops D i (⟨some d,op,ty,pos,af,none⟩::os) k f H Q:=by
 obtain⟨⟨v,H1,p⟩,U,E⟩:=Z
 exact wf_val U ho hd (N v H1 p E) T (h v H1 p E)
theorem gP{id:ID}(Z: ∃r:Rs,AP P (cJ f) ⟨none,op,ty,pos,af,none⟩ {H with log:=[]} (.skip,r.H)/\Φ r)(ho:op.operands.toList.all (bo G)=true)
  (N: ∀v H1 p,Φ ⟨v,H1,p⟩->Did ops f ⟨none,op,ty,pos,af,none⟩ H.next H1.log id) (T:okD ops i id D)
  (h: ∀v H1 p,Φ ⟨v,H1,p⟩->∀l,(∀b,b∈l->b∈H1.log\/b∈H.log)->WF2 P G K sz ops ((i,id)::D) (i+1) os k f {H1 with log:=l} Q):
  WF2 P G K sz ops D i (⟨none,op,ty,pos,af,none⟩::os) k f H Q:=by
 obtain⟨⟨v,H1,p⟩,U,E⟩:=Z
 exact wf_skip U ho (N v H1 p E) T (h v H1 p E)
end
section
variable {α:Type} [Rp α] {P:Program} {ρ:Operand->Value} {d:Option Tmp} {ty:TypeId} {pos:String} {af:Array Edge} {gd:Option (Nat×Bool)} {B:Base} {F:Fz} {H:Heap} {L R:List Fp} {v:Value} {l:List α} {p:Fp}
def Wr(H H1:Heap)(W:List Nat):Prop:= ∀b,b∈H1.log->b∈H.log\/H.next<=b\/b∈W
theorem Wr.did{H1:Heap}{W:List Nat}(h:Wr {H with log:=[]} H1 W): ∀b,b∈H1.log->H.next<=b\/b∈W:=fun b E=>by
 rcases h b E with h|h|h
 ·simp at h
 ·exact .inl h
 exact .inr h
theorem Wr.nil{H1:Heap}(h: ∀b,b∈H1.log->b∈H.log):Wr H H1 []:=fun b E=> .inl (h b E)
theorem HS.lg{B:Base}{F N:Fz}{E H1:Heap}{L T R U:List Fp}(h:HS B F H1 L R)(Z:HS B N E T U){l:List Nat}(hl: ∀b,b∈l->b∈H1.log\/b∈E.log):HS B F {H1 with log:=l} L R:=
 h.relog fun b hb=>by
  rcases hl b hb with h1|h1
  ·exact h.log b h1
  exact Z.log b h1
theorem HS.wr{H1:Heap}{i:Nat}{p q:Fp}(h:HS B F H L R)(hi:L[i]?=some p)(step:HS (.of H (p.map Prod.fst)) F H [p] (L.set i []++R)->∃F',F.le F'/\HS (.of H (p.map Prod.fst)) F' H1 [q] (L.set i []++R)):
  ∃F',F.le F'/\HS B F' H1 (L.set i q) R/\Wr H H1 (p.map Prod.fst):=by
 obtain⟨F',T,N⟩:=step (h.callOwn hi)
 refine⟨F',T,?_,fun b E=>N.log b E⟩
 have:=h.backOwn (b_:=[]) hi V (fun b E=>E) N
 simpa using this
theorem rs_new{e:TypeId}{z:List Value}(hs:HS B F H L R)(N:cy P e=some z):
  ∃r:Rs,AP P ρ ⟨d,.alloc e,ty,pos,af,gd⟩ H (.val r.v,r.H)/\(∃b,r.v= .pointer (some ⟨b,0,none⟩)/\HS B F r.H (L++[[(b,.cells z none false)]]) R/\Wr H r.H []):=
 ⟨⟨_,_,[]⟩,ap_alloc N,_,V,hs.push _,.nil fun b E=>by simpa using E⟩
theorem aR{e:TypeId}{x:Operand}{u:Value}{cs:List Value}(hs:HS B F H L R)(N:ρ x=u)(hc:u.cells.toList=cs):
  ∃r:Rs,AP P ρ ⟨d,.box e x,ty,pos,af,gd⟩ H (.val r.v,r.H)/\(∃b,r.v= .pointer (some ⟨b,0,none⟩)/\HS B F r.H (L++[[(b,.cells cs none false)]]) R/\Wr H r.H []):=
 ⟨⟨_,_,[]⟩,ap_box (by rw[N];exact hc),_,V,hs.push _,.nil fun b E=>by simpa using E⟩
theorem cQ{t e:TypeId}{li T:Operand}{kl kc:IntKind}{n:Int}{z:List Value}(E:α){N:Nat}(hs:HS B F H L R)(hl:ρ li= .int kl n)(hc:ρ T= .int kc n)(ht:P.underlying t=some (.slice e))(hz:cZ P e=some (Rp.sz α))(Z:eN P e=some N)(ag:cy P e=some z)
  (ad:Nat.beq (eB z) (Rp.sz α)=true) (U:Nat.ble N 4096=true) (aa:Nat.beq (Rp.sz α) 0=false) (hr:Rp.rep F z E) (h0:0<=n) (hn:n<=2147483648):
  ∃r:Rs,AP P ρ ⟨d,.makeSlice t li T,ty,pos,af,gd⟩ H (.val r.v,r.H)/\(∃a k,r.v= .slice a (List.replicate n.toNat E).length k/\OS F (.slice a (List.replicate n.toNat E).length k) (List.replicate n.toNat E) r.p/\HS B F r.H (L++[r.p]) R/\Wr H r.H []):=by
 obtain⟨a,k,H1,p',h1,h2,h3,h4⟩:=os_make (d:=d) (ty:=ty) (pos:=pos) (af:=af) (gd:=gd) hs hl hc ht hz Z ag ad U aa hr h0 hn
 exact⟨⟨_,H1,p'⟩,h1,a,k,V,h2,h3,.nil h4⟩
theorem rs_lit{t:TypeId}{n:Nat}{z:List Value}{E:Array (Nat×Operand)}{ps:List (Nat×Value)}{cells:List Value}(l:List α)(hs:HS B F H L R)(T:dF (fun p=>(p.1,ρ p.2)) E.toList=ps)(hi:dV P t=some (Rp.sz α,z))(hn:Nat.ble (n *Rp.sz α) 16777216=true)
  (hf:Instr.fill (fun i=>some (i *Rp.sz α,Rp.sz α)) ⟨cp n z⟩ ps=some ⟨cells⟩) (hr:RL F cells l) (N:l.length=n):
  ∃r:Rs,AP P ρ ⟨d,.buildSlice t n E,ty,pos,af,gd⟩ H (.val r.v,r.H)/\(∃a k,r.v= .slice a l.length k/\OS F (.slice a l.length k) l r.p/\HS B F r.H (L++[r.p]) R/\Wr H r.H []):=by
 subst T
 obtain⟨a,H1,p',U,Z,h3,h4⟩:=os_lit (d:=d) (ty:=ty) (pos:=pos) (af:=af) (gd:=gd) hs hi hn hf hr N
 exact⟨⟨_,H1,p'⟩,U,a,n,by rw[N],by rw[N];exact Z,h3,.nil h4⟩
theorem rs_cut{x:Operand}{lo hi:Option Operand}{t e:TypeId}{i j:Nat}(h:SR F v l)(hs:HS B F H L R)(hx:ρ x=v)(ht:P.underlying t=some (.slice e))(hz:cZ P e=some (Rp.sz α))
  (U:cd l.length (hi.map ρ)=some j) (Z:cd 0 (lo.map ρ)=some i) (E:i<=j) (hj:j<=l.length):
  ∃r:Rs,AP P ρ ⟨d,.slice t x lo hi none,ty,pos,af,gd⟩ H (.val r.v,r.H)/\(∃a k,r.v= .slice a ((l.take j).drop i).length k/\r.H=H/\SR F (.slice a ((l.take j).drop i).length k) ((l.take j).drop i)):=by
 obtain⟨a,k,N,T⟩:=sr_cut (d:=d) (ty:=ty) (pos:=pos) (af:=af) (gd:=gd) h hs hx ht hz U Z E hj
 exact⟨⟨_,H,[]⟩,N,a,k,V,V,T⟩
theorem rs_app{s0 x0:Operand}{st e:TypeId}{u:Value}{E:List α}{q N:Nat}{z:List Value}(h:OS F v l p)(hs:HS B F H L R)(hq:L[q]?=some p)(hx:ρ s0=v)(hy:ρ x0=u)(hu:Sv F H.get u E)(ht:P.underlying st=some (.slice e))
  (hz:cZ P e=some (Rp.sz α)) (ad:eN P e=some N) (an:cy P e=some z) (al:Nat.beq (eB z) (Rp.sz α)=true) (aa:Nat.ble N 4096=true) (ai:Nat.beq (Rp.sz α) 0=false) (U:l.length+E.length<=2147483648):
  ∃r:Rs,AP P ρ ⟨d,.call ⟨.builtin .append, #[s0,x0], #[st,st]⟩,ty,pos,af,gd⟩ H (.val r.v,r.H)/\(∃a k,r.v= .slice a (l++E).length k/\OS F (.slice a (l++E).length k) (l++E) r.p/\HS B F r.H (L.set q r.p) R/\Wr H r.H (p.map Prod.fst)):=by
 have hc:=hs.callOwn hq
 obtain⟨a,k,H1,p',h1,h2,Z⟩:=os_app (d:=d) (ty:=ty) (pos:=pos) (af:=af) (gd:=gd) (q:=0) h hc V hx hy hu ht hz ad an al aa ai U
 have h4:=hs.backOwn (b_:=[]) hq V (fun b T=>T) Z
 exact⟨⟨_,H1,p'⟩,h1,a,k,V,h2,by simpa using h4,fun b T=>Z.log b T⟩
theorem dm{t:TypeId}{N x0:Operand}{j q off n b o:Nat}{w:Value}{y:α}(y':α){cl:List Value}(h:OS F v l p)(hs:HS B F H L R)(Z:L[q]?=some p)(ha:ρ N= .pointer (some ⟨b,o,none⟩))(E:b=sB v)(ho:o=sO v+j *Rp.sz α+off)(hx:ρ x0=w)(hn:cZ P t=some n)(hc:w.cells.toList=cl)(hl:Nat.beq cl.length n=true)
  (hy:l[j]?=some y) (h1:mU Value.oneCell' cl=true) (hr: ∀cs,Rp.rep F cs y->off+cl.length<=cs.length/\Rp.rep F (bc cs off cl) y'):
  ∃r:Rs,AP P ρ ⟨d,.store t N x0,ty,pos,af,gd⟩ H (.skip,r.H)/\(OS F v (l.set j y') r.p/\HS B F r.H (L.set q r.p) R/\Wr H r.H (p.map Prod.fst)):=by
 have U:=hs.callOwn Z
 obtain⟨H1,p',g1,g2,T,_⟩:=os_st (d:=d) (ty:=ty) (pos:=pos) (af:=af) (gd:=gd) (q:=0) h U V ha E ho hx hn hc hl hy h1 hr
 have h4:=hs.backOwn (b_:=[]) Z V (fun b E=>E) T
 exact⟨⟨.bool true,H1,p'⟩,g1,g2,by simpa using h4,fun b E=>T.log b E⟩
theorem rs_rec{t:TypeId}{U x0:Operand}{q n b o:Nat}{w:Value}{cl cs E:List Value}(hs:HS B F H L R)(hq:L[q]?=some [(b,.cells cs none false)])(ha:ρ U= .pointer (some ⟨b,o,none⟩))(hx:ρ x0=w)(hn:cZ P t=some n)(hc:w.cells.toList=cl)(hl:Nat.beq cl.length n=true)
  (N:Nat.ble (o+cl.length) cs.length=true) (h1:mU Value.oneCell' cl=true) (T:fcL (bc cs o cl) some=some E):
  ∃r:Rs,AP P ρ ⟨d,.store t U x0,ty,pos,af,gd⟩ H (.skip,r.H)/\(HS B F r.H (L.set q [(b,.cells E none false)]) R/\Wr H r.H [b]):=by
 have T:bc cs o cl=E:=by rw[mE]at T;exact Option.some.inj T
 have aa:=hs.callOwn hq
 obtain⟨H1,g1,Z⟩:=aa.st (i:=0) V N h1 T
 have h4:=hs.backOwn (b_:=[]) hq V (fun b N=>N) Z
 exact⟨⟨.bool true,H1,[]⟩,ap_st ha hx hn hc hl g1,by simpa using h4,fun b N=>Z.log b N⟩
end
theorem flat_sub{β:Type}{E L:List (List β)}(h:List.Sublist E L):List.Sublist E.flatten L.flatten:=by
 induction h with
 |slnil=>exact List.Sublist.refl _
 |cons a _ ih=>rw[a0Q];exact ih.trans (List.sublist_append_right _ _)
 |cons_cons a _ ih=>rw[a0Q,a0Q];exact(List.Sublist.refl a).append ih
theorem HS.sub{B:Base}{F:Fz}{H:Heap}{L T R:List Fp}(h:HS B F H L R)(E:List.Sublist T L):HS B F H T R:=
 ⟨h.fz,fun p N b o U=>h.own p (N.imp (fun x=>E.subset x) id) b o U,((flat_sub (E.append (List.Sublist.refl R))).map _).nodup h.nd,h.n0,h.log,fun p N=>h.mine p (E.subset N)⟩
theorem HS.forget{B:Base}{F:Fz}{H:Heap}{L R:List Fp}(h:HS B F H L R):HS B F H [] R:=h.sub (List.nil_sublist _)
theorem HS.only{B:Base}{F:Fz}{H:Heap}{L R:List Fp}{p:Fp}(h:HS B F H L R){i:Nat}(hi:L[i]?=some p):HS B F H [p] R:=h.sub (List.singleton_sublist.2 (a0r hi))
section
variable {α:Type} [Rp α] {F:Fz} {B:Base} {H:Heap} {L R:List Fp} {v:Value} {l:List α} {p:Fp}
theorem OS.frz(h:OS F v l p)(hs:HS B F H L R){i:Nat}(hi:L[i]?=some p): ∃F',F.le F'/\HS B F' H (L.set i []) R/\SR F' v l/\∀b o,(b,o)∈p->F' b=some o:=by
 obtain⟨F',T,Z,U⟩:=hs.freeze hi;refine⟨F',T,Z,?_,U⟩;rcases h with⟨E,N,_⟩|⟨b,off,k,cs,ad,E,N,h6⟩
 ·exact .inl ⟨E,N⟩
 exact .inr ⟨b,off,k,_,E,U b _ (by rw[N];simp),h6.mono T⟩
end
theorem bg{β:Type}{l:List β}{j:Nat}{x:β}(h:j<l.length):l[j]?=some (l.getD j x):=by rw[a02,a06 h];rfl
theorem BS:(∀a b:Bool,((a&&b)=true)=(a=true/\b=true))/\(∀a b:Bool,((a||b)=true)=(a=true\/b=true))/\(∀a b:Bool,((a&&b)=false)=(a=true->b=false))/\(∀a b:Bool,((a||b)=false)=(a=false/\b=false))/\
  (∀a:Bool,((!a)=true)=(a=false))/\(∀a:Bool,((!a)=false)=(a=true))/\(∀(q:Prop) [Decidable q],(decide q=true)=q)/\(∀(q:Prop) [Decidable q],(decide q=false)= ¬q)/\
  (∀a b:Int,((a==b)=true)=(a=b))/\(∀a b:Int,((a==b)=false)=(a≠b))/\(∀a b:Int,((a !=b)=true)=(a≠b))/\(∀a b:Int,((a !=b)=false)=(a=b))/\
  (∀a b:List UInt8,((a==b)=true)=(a=b))/\(∀a b:List UInt8,((a==b)=false)=(a≠b))/\(∀a b:List UInt8,((a !=b)=true)=(a≠b))/\(∀a b:List UInt8,((a !=b)=false)=(a=b))/\
  (∀a b:Bool,((a==b)=true)=(a=b))/\(∀a b:Bool,((a==b)=false)=(a≠b))/\(∀a b:Bool,((a !=b)=true)=(a≠b))/\(∀a b:Bool,((a !=b)=false)=(a=b)):=by
 refine⟨?_,?_,?_,?_,?_,?_,?_,?_,?_,?_,?_,?_,?_,?_,?_,?_,?_,?_,?_,?_⟩<;>intros<;>simp
theorem BT:(∀a:Bool,(true&&a)=a)/\(∀a:Bool,(false&&a)=false)/\(∀a:Bool,(a&&true)=a)/\(∀a:Bool,(a&&false)=false)/\(∀a:Bool,(true||a)=true)/\(∀a:Bool,(false||a)=a)/\(∀a:Bool,(a||true)=true)/\(∀a:Bool,(a||false)=a)/\(!true)=false/\(!false)=true:=by simp
theorem Lr{lo hi:Nat}{ex:List Nat}{f:Fn}:Leaves lo hi ex f f:= .refl
theorem Lu{lo hi:Nat}{ex:List Nat}{f E:Fn}{i:Nat}{v:Value}(N:inR lo hi ex i=true)(h:Leaves lo hi ex f E):Leaves lo hi ex f (upd E i v):= .upd N h
section
variable {P:Program} {G:Nat} {K:bJ} {sz:Nat} {Q:Ex->Fn->Heap->Prop} {ops:Array Oper} {D:List (Nat×ID)} {i:Nat} {os:List Oper} {k:List Fr} {f:Fn} {H H1:Heap} {d:Tmp} {ty:TypeId} {pos:String} {af:Array Edge} {x:Operand}
theorem wm(v:Value)(T:cJ f x=v)(N:(Op.move x).operands.toList.all (bo G)=true)(E:Nat.ble (d+1) sz=true)(h:WO P G K sz ops os k (upd f d v) H Q):WO P G K sz ops (⟨some d,.move x,ty,pos,af,none⟩::os) k f H Q:=cP (ap_move T) N E h
theorem wa(v:Value)(T:cJ f x=v)(N:(Op.assign x).operands.toList.all (bo G)=true)(E:Nat.ble (d+1) sz=true)(h:WO P G K sz ops os k (upd f d v) H Q):WO P G K sz ops (⟨some d,.assign x,ty,pos,af,none⟩::os) k f H Q:=cP (lG T) N E h
theorem fm(v:Value)(T:cJ f x=v)(N:(Op.move x).operands.toList.all (bo G)=true)(E:Nat.ble (d+1) sz=true)(h:WF2 P G K sz ops ((i,.v)::D) (i+1) os k (upd f d v) H Q):WF2 P G K sz ops D i (⟨some d,.move x,ty,pos,af,none⟩::os) k f H Q:=bE (ap_move T) N E (did_v V) (i9 _) h
theorem fa(v:Value)(T:cJ f x=v)(N:(Op.assign x).operands.toList.all (bo G)=true)(E:Nat.ble (d+1) sz=true)(h:WF2 P G K sz ops ((i,.v)::D) (i+1) os k (upd f d v) H Q):WF2 P G K sz ops D i (⟨some d,.assign x,ty,pos,af,none⟩::os) k f H Q:=bE (lG T) N E (did_v V) (i9 _) h
end
section
variable {P:Program} {G:Nat} {K:bJ} {sz:Nat} {Q:Ex->Fn->Heap->Prop} {ops:Array Oper} {D:List (Nat×ID)} {i:Nat} {os:List Oper} {k:List Fr} {f:Fn} {H:Heap} {v:Value}
 {d:Tmp} {op:Op} {ty:TypeId} {pos:String} {af:Array Edge}
def cB:ID->ID->Bool
 | .v,_=>true
 |_,.v=>true
 |_,.x _=>false
 | .x _,.a=>true
 | .x _,_=>false
 | .s _,_=>false
 |_,.s _=>false
 |_,_=>true
theorem cB_ok{j i:Nat}{e d:ID}(h:cB e d=true):cE ops j i e d:=by cases e<;>cases d<;>first|exact trivial|cases h
def okB(ops:Array Oper)(i:Nat)(d:ID):List (Nat×ID)->Bool
 | []=>true
 |(j,e)::D=>(cB e d||bn (ce ops) j i)&&okB ops i d D
theorem kb: ∀{D:List (Nat×ID)} {e:ID},okB ops i e D=true->okD ops i e D
 | [],_,_=>trivial
 |(j,g)::D,e,h=>by unfold okB at h;rw[a09,a0A]at h;exact⟨h.1.elim (fun h=> .inr (cB_ok h)) .inl,kb h.2⟩
theorem wfv(E:AP P (cJ f) ⟨some d,op,ty,pos,af,none⟩ {H with log:=[]} (.val v,{H with log:=[]}))
  (h:WF2 P G K sz ops ((i,.v)::D) (i+1) os k (upd f d v) H Q) (U:aT op=true:=by rfl) (T:op.operands.toList.all (bo G)=true:=by rfl) (N:Nat.ble (d+1) sz=true:=by rfl):WF2 P G K sz ops D i (⟨some d,op,ty,pos,af,none⟩::os) k f H Q:=bE E T N (did_v U) (i9 _) h
end
open Go
section
variable {I d_:Int->Value->Prop} {es:List (Value×Value)}
end
section
variable {P:Program} {ρ:Operand->Value} {d:Option Tmp} {ty:TypeId} {pos:String} {af:Array Edge} {gd:Option (Nat×Bool)} {B:Base} {F:Fz} {H:Heap} {L R:List Fp} {I:Int->Value->Prop} {es:List (Value×Value)}
end
end Go.R
end
