/-
Symbolic runs: heaps with owners, what cells stand for.
-/
import Derived.Test.YtkpgbdkkgcdhmaaGreatZUR0
import Derived.Test.YtkpgbdkkgcdhmaaGreatZURB
namespace Go.R
open List renaming getD→N,length→J
end Go.R
noncomputable section
set_option linter.unusedVariables false
set_option linter.unusedSimpArgs false
namespace Go.R
open List renaming getD→N,length→J
abbrev Fn:=Nat->Value
def upd(f:Fn)(i:Nat)(v:Value):Fn:=λj=>bif Nat.beq i j then v else f j
def updO(f:Fn)(d:Option Tmp)(v:Value):Fn:=match d with
 |some d=>upd f d v
 |none=>f
def hY(f:Fn):List (Nat×Value)->Fn
 | []=>f
 |(i,v)::l=>upd (hY f l) i v
def aI(f:Fn):List (Nat×Value)->Prop
 | []=>True
 |(i,v)::l=>f i=v/\aI f l
def dE(f:Fn):Operand->Value
 | .tmp t=>f t
 | .const v=>v
 | .global g=> .pointer (some ⟨g,0,none⟩)
 | .func i=> .func (.func i) #[] #[]
def argF(l:List Value):Fn:=λj=>N l j undef
theorem upd_self(f:Fn){i v}(h:f i=v):upd f i v=f:=by
 funext j;unfold upd;cases hb:Nat.beq i j with
 |true=>have:=a0a hb;subst this;exact h.symm
 |false=>rfl
theorem gz{f}: ∀{l:List (Nat×Value)},aI f l->hY f l=f
 | [],_=>rfl
 |(i,v)::l,h=>by unfold hY;rw[gz h.2];exact upd_self f h.1
theorem lget_lset_fn(t:Tr Value)(d:Nat)(v:Value):dC (lset t d v)=upd (dC t) d v:=by
 funext j;rw[io];unfold upd;by_cases h:d=j
 ·subst h;rw[if_pos V,a0Y];rfl
 rw[if_neg h];cases hb:Nat.beq d j with
 |true=>exact absurd (a0a hb) h
 |false=>rfl
theorem gi(t:Tr Value):dA t=dE (dC t):=by funext x;cases x<;>rfl
theorem argTmps_fn(args:List Value):dC (gX 0 args .nil)=argF args:=by
 funext j;rw[jG];unfold argF;by_cases h:j<J args
 ·rw[if_pos M];rfl
 rw[if_neg M,a09,a1l M];rfl
inductive Fr where
 |seq (b:Code)
 |block (id:Nat)
section
variable {P:Program} {G:Nat} {K:bJ} {sz:Nat} {Q:Ex->Fn->Heap->Prop}
def runK(P:Program)(G:Nat)(K:bJ)(n:Nat):List Fr->Option (Ex×St)->Option (Ex×St)
 | [],r=>r
 | .seq b::k,r=>runK P G K n k (iw r (nX P G K n b))
 | .block id::k,r=>runK P G K n k (dT id r)
theorem eU{n m}(h:n<=m): ∀(k:List Fr) (r r':Option (Ex×St)),(∀x,r=some x->r'=some x)->∀x,runK P G K n k r=some x->runK P G K m k r'=some x
 | [],r,r',hr,x,hx=>hr x hx
 | .seq b::k,r,r',hr,x,hx=>eU h k _ _ (λ_ E=>iP hr (λs y E=>j4 h b s y E) E) x hx
 | .block id::k,r,r',hr,x,hx=>eU h k _ _ (λ_ E=>lc hr E) x hx
structure WK(P:Program)(G:Nat)(K:bJ)(sz:Nat)(c:Code)(k:List Fr)(f:Fn)(H:Heap)(Q:Ex->Fn->Heap->Prop):Prop where
 out: ∀t,dC t=f->∃n e s',runK P G K (n+1) k (nX P G K (n+1) c ⟨t,sz,H⟩)=some (e,s')/\Q e (dC s'.tmps) s'.heap
structure WO(P:Program)(G:Nat)(K:bJ)(sz:Nat)(ops:Array Oper)(os:List Oper)(k:List Fr)(f:Fn)(H:Heap)(Q:Ex->Fn->Heap->Prop):Prop where
 out: ∀t,dC t=f->∃n e s',runK P G K (n+1) k (eS (hL P G (call P G K n) ops os ⟨t,sz,H⟩))=some (e,s')/\Q e (dC s'.tmps) s'.heap
structure C(P:Program)(G:Nat)(K:bJ)(f:FuncId)(args:List Value)(H:Heap)(R:Value->Heap->Prop):Prop where
 out: ∃n v H',call P G K n f args H=some (v,H')/\R v H'
theorem C.ac{f args H R E}(h:C P G K f args H R)(U: ∀v H',R v H'->E v H'):C P G K f args H E:=by obtain⟨n,v,H',O,T⟩:=h.out;exact⟨n,v,H',O,U _ _ T⟩
variable {c:Code} {k:List Fr} {f:Fn} {H:Heap}
theorem ao(h:Q .normal f H):WK P G K sz .skip [] f H Q:=⟨λt E=>⟨0,.normal,⟨t,sz,H⟩,V,by rw[E];exact h⟩⟩
theorem av{b}(h:WK P G K sz b k f H Q):WK P G K sz .skip (.seq b::k) f H Q:=⟨h.out⟩
theorem fp{id}(h:WK P G K sz .skip k f H Q):WK P G K sz .skip (.block id::k) f H Q:=⟨h.out⟩
theorem aO{a b}(h:WK P G K sz a (.seq b::k) f H Q):WK P G K sz (.seq a b) k f H Q:=⟨h.out⟩
theorem gJ{id b}(h:WK P G K sz b (.block id::k) f H Q):WK P G K sz (.block id b) k f H Q:=⟨h.out⟩
theorem cF{b}(h:WK P G K sz b (.seq (.loop b)::k) f H Q):WK P G K sz (.loop b) k f H Q:=⟨λt U=>by
 have⟨n,e,s',O,T⟩:=h.out t U;refine⟨n+1,e,s',?_,T⟩;refine eU (Nat.le_succ (n+1)) k _ _ (λx Z=>?_) _ O;show iw (nX P G K (n+2) b ⟨t,sz,H⟩) (nX P G K (n+1) (.loop b))=some x;exact iP (λy E=>j3 _ _ _ _ E) (λ_ _ E=>E) Z⟩
theorem fD{id b}(h:WK P G K sz (.exit id) k f H Q):WK P G K sz (.exit id) (.seq b::k) f H Q:=⟨h.out⟩
theorem gI{id}(h:WK P G K sz .skip k f H Q):WK P G K sz (.exit id) (.block id::k) f H Q:=⟨λt T=>by
 have⟨n,e,U,E,O⟩:=h.out t T;refine⟨n,e,U,?_,O⟩;show runK P G K (n+1) k (dT id (some (.exit id,⟨t,sz,H⟩)))=_;unfold dT;simp only[a0Y,cond_true];exact E⟩
theorem ly{id E}(O:Nat.beq id E=false)(h:WK P G K sz (.exit id) k f H Q):WK P G K sz (.exit id) (.block E::k) f H Q:=⟨λt Z=>by
 have⟨n,e,s',T,U⟩:=h.out t Z;refine⟨n,e,s',?_,U⟩;show runK P G K (n+1) k (dT E (some (.exit id,⟨t,sz,H⟩)))=_;unfold dT;simp only[O,cond_false];exact T⟩
theorem lL{n s}: ∀k:List Fr,runK P G K n k (some (.ret,s))=some (.ret,s)
 | []=>rfl
 | .seq _::k=>lL k
 | .block _::k=>lL k
theorem ag(h:Q .ret f H):WK P G K sz .ret k f H Q:=⟨λt E=>⟨0,.ret,⟨t,sz,H⟩,lL k,by rw[E];exact h⟩⟩
theorem ed{x a b v}(hx:dE f x= .bool v)(ho:bc G x=true)(ht:v=true->WK P G K sz a k f H Q)(he:v=false->WK P G K sz b k f H Q):WK P G K sz (.cond x a b) k f H Q:=⟨λt U=>by
 have E: ∀n,nX P G K (n+1) (.cond x a b) ⟨t,sz,H⟩=bif v then nX P G K (n+1) a ⟨t,sz,H⟩ else nX P G K (n+1) b ⟨t,sz,H⟩:=by intro n;show(bif bc G x then nY (dA t x) _ _ else none)=_;rw[ho,gi,U,hx];rfl
 cases v with
 |true=>
  have⟨n,e,Z,O,T⟩:=(ht V).out t U
  exact⟨n,e,Z,by rw[E];exact O,T⟩
 |false=>
  have⟨n,e,Z,O,T⟩:=(he V).out t U
  exact⟨n,e,Z,by rw[E];exact O,T⟩⟩
theorem wk_true{x a b v}(T:dE f x= .bool v)(O:v=true)(E:bc G x=true)(h:WK P G K sz a k f H Q):WK P G K sz (.cond x a b) k f H Q:=
 ed T E (λ_=>h) (λe=>by rw[O]at e;cases e)
theorem ou{x a b v}(T:dE f x= .bool v)(O:v=false)(E:bc G x=true)(h:WK P G K sz b k f H Q):WK P G K sz (.cond x a b) k f H Q:=
 ed T E (λe=>by rw[O]at e;cases e) (λ_=>h)
theorem ab{id ops}(h:WO P G K sz ops ops.toList k f H Q):WK P G K sz (.region id ops false) k f H Q:=⟨h.out⟩
theorem aB{ops}(h:WK P G K sz .skip k f H Q):WO P G K sz ops [] k f H Q:=⟨h.out⟩
theorem aw(l:List (Nat×Value))(E:aI f l)(h: ∀g,WK P G K sz c k (hY g l) H Q):WK P G K sz c k f H Q:=by have:=h f;rwa [gz E]at this
structure AP(P:Program)(ρ:Operand->Value)(o:Oper)(H:Heap)(r:AN×Heap):Prop where
 eq:aop P ρ o H=some r
def dstOK(d:Option Tmp)(sz:Nat):Bool:=match d with
 |some d=>Nat.ble (d+1) sz
 |none=>true
theorem kW{s:St}{d:Option Tmp}{v:Value}(hd:dstOK d s.size=true): ∃O,s.put d v=some {s with tmps:=O}/\dC O=updO (dC s.tmps) d v:=by
 unfold St.put;cases d with
 |none=>exact⟨_,V,V⟩
 |some d=>
  have E:Nat.ble (d+1) s.size=true:=hd
  simp only[E,cond_true]
  exact⟨_,V,lget_lset_fn _ _ _⟩
section
variable {ops:Array Oper} {o:Oper} {os:List Oper} {v:Value} {H1:Heap}
theorem oC{t}(U:o.guard=none)(Z:o.op.operands.toList.all (bc G)=true)(ha:aop P (dE (dC t)) o H=some (.val v,H1))(hd:dstOK o.dst sz=true):
  ∃E,(∀cf,step P G cf ops o ⟨t,sz,H⟩=some ⟨E,sz,H1⟩)/\dC E=updO (dC t) o.dst v:=by
 obtain⟨E,O,T⟩:=kW (s:=⟨t,sz,H1⟩) (v:=v) hd
 refine⟨E,λcf=>?_,T⟩
 unfold step aX
 simp only[U,cond_true,Z,gi,ha]
 exact O
theorem step_skip{t}(U:o.guard=none)(Z:o.op.operands.toList.all (bc G)=true)(ha:aop P (dE (dC t)) o H=some (.skip,H1))(hd:dstOK o.dst sz=true):
  ∃E,(∀cf,step P G cf ops o ⟨t,sz,H⟩=some ⟨E,sz,H1⟩)/\dC E=updO (dC t) o.dst undef:=by
 obtain⟨E,O,T⟩:=kW (s:=⟨t,sz,H1⟩) (v:=undef) hd
 refine⟨E,λcf=>?_,T⟩
 unfold step aX
 simp only[U,cond_true,Z,gi,ha]
 exact O
theorem ad{d op}{ty:TypeId}{pos af}(ha:AP P (dE f) ⟨some d,op,ty,pos,af,none⟩ H (.val v,H1))(ho:op.operands.toList.all (bc G)=true)(hd:Nat.ble (d+1) sz=true)
  (h:WO P G K sz ops os k (upd f d v) H1 Q):WO P G K sz ops (⟨some d,op,ty,pos,af,none⟩::os) k f H Q:=⟨λt E=>by
 obtain⟨t',O,T⟩:=oC (P:=P) (G:=G) (ops:=ops) (t:=t) (o:=⟨some d,op,ty,pos,af,none⟩) V ho (by rw[E];exact ha.eq) hd
 obtain⟨n,e,s',U,Z⟩:=h.out t' (by rw[T,E];rfl)
 refine⟨n,e,s',?_,Z⟩
 rw[cw,O]
 exact U⟩
theorem wo_skip{op}{ty:TypeId}{pos af}(ha:AP P (dE f) ⟨none,op,ty,pos,af,none⟩ H (.skip,H1))(ho:op.operands.toList.all (bc G)=true)
  (h:WO P G K sz ops os k f H1 Q):WO P G K sz ops (⟨none,op,ty,pos,af,none⟩::os) k f H Q:=⟨λt E=>by
 obtain⟨t',O,T⟩:=step_skip (P:=P) (G:=G) (ops:=ops) (t:=t) (sz:=sz) (o:=⟨none,op,ty,pos,af,none⟩) V ho (by rw[E];exact ha.eq) V
 obtain⟨n,e,s',U,Z⟩:=h.out t' (by rw[T,E];rfl)
 refine⟨n,e,s',?_,Z⟩
 rw[cw,O]
 exact U⟩
theorem wo_callG{d op}{ty:TypeId}{pos af g args R}(ha:AP P (dE f) ⟨d,op,ty,pos,af,none⟩ H (.enter g args,H1))(ho:op.operands.toList.all (bc G)=true)(hd:dstOK d sz=true)
  (hc:C P G K g args H1 R) (h: ∀v E,R v E->WO P G K sz ops os k (updO f d v) E Q):WO P G K sz ops (⟨d,op,ty,pos,af,none⟩::os) k f H Q:=⟨λt ht=>by
 obtain⟨T,v,E,an,hr⟩:=hc.out
 have h0:=h v E hr
 obtain⟨t',h1,h2⟩:=kW (s:=⟨t,sz,E⟩) (v:=v) hd
 obtain⟨O,e,s',h3,h4⟩:=h0.out t' (by rw[h2,ht])
 refine⟨Nat.max T O,e,s',?_,h4⟩
 have ar:step P G (call P G K (Nat.max T O)) ops ⟨d,op,ty,pos,af,none⟩ ⟨t,sz,H⟩=some ⟨t',sz,E⟩:=by unfold step aX;simp only[cond_true,ho,gi,ht,ha.eq,gG (a1B T O) _ _ _ _ an];exact h1
 rw[cw,ar]
 refine eU (a1v (a1d T O)) k _ _ (λx U=>?_) _ h3
 simp only
 cases Z:hL P G (call P G K O) ops os ⟨t',sz,E⟩ with
 |none=>rw[Z]at U;cases U
 |some y=>rw[jm (gG (a1d T O)) _ _ _ Z];rw[Z]at U;exact U⟩
theorem lW{d op}{ty:TypeId}{pos af g args R}(ha:AP P (dE f) ⟨some d,op,ty,pos,af,none⟩ H (.enter g args,H1))(O:op.operands.toList.all (bc G)=true)(hd:Nat.ble (d+1) sz=true)
  (hc:C P G K g args H1 R) (h: ∀v E,R v E->WO P G K sz ops os k (upd f d v) E Q):WO P G K sz ops (⟨some d,op,ty,pos,af,none⟩::os) k f H Q:=wo_callG ha O hd hc h
end
theorem ak{b}(I:Nat->Fn->Heap->Prop)(m:Nat)(h0:I m f H)
  (step: ∀m f H,I m f H->(∀O E H',O<m->I O E H'->WK P G K sz (.loop b) k E H' Q)->WK P G K sz b (.seq (.loop b)::k) f H Q):WK P G K sz (.loop b) k f H Q:=by
 have key: ∀n m,m<=n->∀f H,I m f H->WK P G K sz (.loop b) k f H Q:=by
  intro n;induction n with
  |zero=>
   intro m hm f H T
   refine cF (step m f H T λO E H' Z _=>?_)
   omega
  |succ n ih=>
   intro m hm f H T
   exact cF (step m f H T λO E H' Z U=>ih O M E H' U)
 exact key m m (a07 _) f H h0
def cQ(P:Program)(f:Fn)(H:Heap):List ResultVar->Option (List Value)
 | []=>some []
 | .tmp t::rs=>
  match cQ P f H rs with
  |some l=>some (f t::l)
  |none=>none
 | .cell a t::rs=>
  match f a with
  | .pointer (some p)=>
   match H.loadV P t p,cQ P f H rs with
   |some v,some l=>some (v::l)
   |_,_=>none
  |_=>none
theorem jq(s:St): ∀rs,dz P s rs=cQ P (dC s.tmps) s.heap rs
 | []=>rfl
 | .tmp t::rs=>by unfold dz cQ;rw[jq s rs];cases cQ P (dC s.tmps) s.heap rs<;>rfl
 | .cell a t::rs=>by
  unfold dz cQ;cases dC s.tmps a with
  |pointer p=>cases p with
   |none=>rfl
   |some p=>simp only[jq s rs];cases s.heap.loadV P t p<;>cases cQ P (dC s.tmps) s.heap rs<;>rfl
  |_=>rfl
theorem ay{E fn args R}(U:P.funcs[E]?=some fn)(hc:fn.body=some c)(hK:K E args H=none)
  (h:WK P G K (Nat.max (J args) fn.ntmps) c [] (argF args) H λe Z H'=>(e= .normal\/e= .ret)/\∃l,cQ P Z H' fn.results.toList=some l/\R (fZ l) H'):C P G K E args H R:=by
 have⟨n,e,s',h1,he,l,O,hr⟩:=h.out (gX 0 args .nil) (argTmps_fn args)
 refine⟨n+1,_,_,?_,hr⟩
 show mX K (pH P (nX P G K (n+1))) E args H=_
 have T:nX P G K (n+1) c ⟨gX 0 args .nil,Nat.max (J args) fn.ntmps,H⟩=some (e,s'):=h1
 unfold mX pH
 rw[hK]
 simp only[U,hc,T]
 rw[←jq]at O
 rcases he with rfl|rfl
 ·simp only[O]
 simp only[O]
theorem c_known{E args v R}(O:K E args H=some v)(h:R v H):C P G K E args H R:=
 ⟨0,v,H,by show mX K _ E args H=_;unfold mX;rw[O],h⟩
end
section
variable {P:Program} {ρ:Operand->Value} {d:Option Tmp} {ty:TypeId} {pos:String} {af:Array Edge} {gd:Option (Nat×Bool)} {H:Heap}
theorem ap_move{x v}(h:ρ x=v):AP P ρ ⟨d,.move x,ty,pos,af,gd⟩ H (.val v,H):=by subst h;exact⟨V⟩
theorem m4{x v}(h:ρ x=v):AP P ρ ⟨d,.assign x,ty,pos,af,gd⟩ H (.val v,H):=by subst h;exact⟨V⟩
theorem kc{op}{t yt:TypeId}{x y}{k E:IntKind}{a b:Int}{v}(T:ρ x= .int k a)(U:ρ y= .int E b)
  (O:(bif mL op then shBin op k a b else bif hN k E then nP op k a b else none)=some v):AP P ρ ⟨d,.binOp op t x y yt,ty,pos,af,gd⟩ H (.val v,H):=by
 refine⟨?_⟩
 show aBin P ρ _ op t (ρ x) y H=_
 rw[T]
 show binInt op k a (ρ y) H=_
 rw[U]
 show ovl _ H=_
 rw[O];rfl
theorem ap_str{op}{t yt:TypeId}{x y a b v}(O:ρ x= .string a)(T:ρ y= .string b)(E:strOp op a b=some v):
  AP P ρ ⟨d,.binOp op t x y yt,ty,pos,af,gd⟩ H (.val v,H):=by
 refine⟨?_⟩
 show aBin P ρ _ op t (ρ x) y H=_
 rw[O]
 show binStr op a (ρ y) H=_
 rw[T]
 show ovl _ H=_
 rw[E];rfl
theorem bY{t:TypeId}{x b}(E:ρ x= .bool b):AP P ρ ⟨d,.unOp .not t x,ty,pos,af,gd⟩ H (.val (.bool (!b)),H):=by refine⟨?_⟩;show aUn P ρ _ .not (ρ x) H=_;rw[E];rfl
theorem ap_conv{s t:TypeId}{x}{k E:IntKind}{n:Int}(T:ρ x= .int k n){u:TypeDesc}(hs:P.underlying s=some u)(O:P.underlying t=some (.int E)):
  AP P ρ ⟨d,.convert s t x,ty,pos,af,gd⟩ H (.val (.int E (E.wrap n)),H):=by
 refine⟨?_⟩
 show gj P ρ _ s t (ρ x) H=_
 rw[T]
 show ovl (pE P s t n) H=_
 unfold pE
 rw[hs,O];rfl
theorem ap_neg{t:TypeId}{x}{k:IntKind}{n:Int}(E:ρ x= .int k n):AP P ρ ⟨d,.unOp .neg t x,ty,pos,af,gd⟩ H (.val (.int k (k.wrap (0-n))),H):=by
 refine⟨?_⟩;show aUn P ρ _ .neg (ρ x) H=_;rw[E];show bB P ρ _ H=_;unfold bB;have O:((Op.unOp .neg t x).operands.toList.all λx=>jN (ρ x))=true:=by simp[Op.operands,E,jN,dG]
 simp only[O,cond_true];show(match aD P (execOp ρ ⟨d,.unOp .neg t x,ty,pos,af,gd⟩) with|some (.value v)=>bif noA2 v then some (AN.val v,H) else none|_=>none)=_;have T:aD P (execOp ρ ⟨d,.unOp .neg t x,ty,pos,af,gd⟩)=some (.value (.int k (k.wrap (0-n)))):=by unfold execOp;simp only[E];rfl
 rw[T];rfl
theorem ap_cpl{t:TypeId}{x}{k:IntKind}{n:Int}(E:ρ x= .int k n):AP P ρ ⟨d,.unOp .xor t x,ty,pos,af,gd⟩ H (.val (.int k (bits .xor k (if k.signed then-1 else k.max) n)),H):=by
 refine⟨?_⟩;show aUn P ρ _ .xor (ρ x) H=_;rw[E];show bB P ρ _ H=_;unfold bB;have O:((Op.unOp .xor t x).operands.toList.all λx=>jN (ρ x))=true:=by simp[Op.operands,E,jN,dG]
 simp only[O,cond_true];have T:aD P (execOp ρ ⟨d,.unOp .xor t x,ty,pos,af,gd⟩)=some (.value (.int k (bits .xor k (if k.signed then-1 else k.max) n))):=by unfold execOp;simp only[E];rfl
 rw[T];rfl
theorem ap_quo{t yt:TypeId}{x y}{k E:IntKind}{a b:Int}(T:ρ x= .int k a)(U:ρ y= .int E b)(O:hN k E=true)(hb:(b==0)=false):
  AP P ρ ⟨d,.binOp .quo t x y yt,ty,pos,af,gd⟩ H (.val (.int k (k.wrap (a.tdiv b))),H):=
 kc T U (by show(bif hN k E then(bif b==0 then none else some (.int k (k.wrap (a.tdiv b)))) else none:Option Value)=_;rw[O,hb];rfl)
theorem ap_rem{t yt:TypeId}{x y}{k E:IntKind}{a b:Int}(T:ρ x= .int k a)(U:ρ y= .int E b)(O:hN k E=true)(hb:(b==0)=false):
  AP P ρ ⟨d,.binOp .rem t x y yt,ty,pos,af,gd⟩ H (.val (.int k (a.tmod b)),H):=
 kc T U (by show(bif hN k E then(bif b==0 then none else some (.int k (a.tmod b))) else none:Option Value)=_;rw[O,hb];rfl)
theorem ap_shl{t yt:TypeId}{x y}{k T:IntKind}{a b:Int}(E:ρ x= .int k a)(O:ρ y= .int T b)(hb:0<=b):
  AP P ρ ⟨d,.binOp .shl t x y yt,ty,pos,af,gd⟩ H (.val (.int k (k.wrap (a *2^(Nat.min b.toNat k.bits)))),H):=by
 refine⟨?_⟩
 obtain⟨n,rfl⟩:=a0T hb
 exact(kc E O V).eq
theorem ap_shr{t yt:TypeId}{x y}{k T:IntKind}{a b:Int}(E:ρ x= .int k a)(O:ρ y= .int T b)(hb:0<=b):
  AP P ρ ⟨d,.binOp .shr t x y yt,ty,pos,af,gd⟩ H (.val (.int k (a.fdiv (2^(Nat.min b.toNat k.bits)))),H):=by
 refine⟨?_⟩
 obtain⟨n,rfl⟩:=a0T hb
 exact(kc E O V).eq
theorem ke{t:TypeId}{n sz z E cells}(hs:ej P t=some (sz,z))(T:Nat.ble (n *sz) 16777216=true)
  (O:Instr.fill (λi=>some (i *sz,sz)) ⟨dY n z⟩ (eu (λp=>(p.1,ρ p.2)) E.toList)=some cells):
  AP P ρ ⟨d,.buildSlice t n E,ty,pos,af,gd⟩ H (.val (.slice (some ⟨H.next,0,none⟩) n n),H.push (.cells cells.toList none false)):=by
 refine⟨?_⟩
 show bN P t n (eu (λp=>(p.1,ρ p.2)) E.toList) H=_
 unfold bN
 rw[hs]
 simp only[T,cond_true,O]
 rfl
theorem lm{t e:TypeId}{x i b o n k sz}{ki:IntKind}{j:Int}(hx:ρ x= .slice (some ⟨b,o,none⟩) n k)(hi:ρ i= .int ki j)(Z:P.underlying t=some (.slice e))(hs:dL P e=some sz)
  (E:0<=j) (hj:j<n) (U:n<=k):AP P ρ ⟨d,.indexAddr t x i,ty,pos,af,gd⟩ H (.val (.pointer (some ⟨b,o+j.toNat *sz,none⟩)),H):=by
 refine⟨?_⟩
 obtain⟨m,rfl⟩:=a0T E
 show ovl (cV P t (ρ x) (ρ i)) H=_
 rw[hx,hi]
 unfold cV
 rw[Z]
 show ovl (match dL P e with|some sz=>bif Nat.ble (m+1) n&&Nat.ble n k then some (.pointer (some ⟨b,o+m *sz,none⟩)) else none|none=>none) H=_
 rw[hs]
 have O:Nat.ble (m+1) n=true:=a0z M
 have T:Nat.ble n k=true:=a0z U
 simp only[O,T,a1w,cond_true]
 rfl
theorem ap_load1{t:TypeId}{x b o cs E Z v}(U:ρ x= .pointer (some ⟨b,o,none⟩))(ha:ff P t=some false)(O:H.get b=some (.cells cs E Z))(T:cs[o]?=some v):
  AP P ρ ⟨d,.load t x,ty,pos,af,gd⟩ H (.val v,H):=by
 refine⟨?_⟩
 show fh P t (ρ x) H=_
 rw[U]
 show ovl (H.loadV P t ⟨b,o,none⟩) H=_
 unfold Heap.loadV
 rw[ha]
 simp only
 unfold Heap.cellAt
 simp only[O,hM,T]
 rfl
theorem ap_loadN{t:TypeId}{x b o n cs l E ro}(Z:ρ x= .pointer (some ⟨b,o,none⟩))(ha:ff P t=some true)(hs:dL P t=some n)(O:H.get b=some (.cells cs E ro))(T:(cs.drop o).take n=l)(U:J l=n):
  AP P ρ ⟨d,.load t x,ty,pos,af,gd⟩ H (.val (.agg ⟨l⟩),H):=by
 refine⟨?_⟩
 show fh P t (ρ x) H=_
 rw[Z]
 show ovl (H.loadV P t ⟨b,o,none⟩) H=_
 unfold Heap.loadV
 rw[ha]
 simp only[hs]
 unfold Heap.loadN
 simp only[O,bL,bX,bp,T,U,a0Y,cond_true]
 rfl
structure Keeps(H H':Heap):Prop where
 next:H.next<=H'.next
 get: ∀b,b<H.next->H'.get b=H.get b
 log: ∃d,H'.log=d++H.log/\∀b,b∈d->H.next<=b
theorem appL_nil(l:List Value):lU l []=l:=by rw[eO];simp
theorem bj{args E i fn f l}(O:P.funcs[i]?=some fn)(hb:(fn.body.isSome&& !(fn.name== "runtime.NumGoroutine"))=true)(T:eu (dE f) args.toList=l):
  AP P (dE f) ⟨d,.call ⟨.value (.func i),args,E⟩,ty,pos,af,gd⟩ H (.enter i l,H):=by
 refine⟨?_⟩
 show gS (gZ P (.func (.func i) #[] #[]) (eu (dE f) args.toList)) H=_
 unfold gZ
 simp only[O,hb,cond_true,T]
 show gS (some (.enter i (lU [] (lU l [])))) H=_
 rw[appL_nil]
 rfl
end
def iB:Inf->Bool
 | .x w=>isNilL w
 |_=>true
def vkAt(ops:Array Oper)(j:Nat):Bool:=match ops[j]? with
 |some o=>aR o.op
 |none=>false
def FsOK(ops:Array Oper)(wr:List Nat)(i:Nat)(fs:List (Nat×Inf)):Prop:= ∀j g,(j,g)∈fs->j<i/\(iB g=true\/j∈wr)/\(vkAt ops j=true->g= .v)
theorem pK: ∀{f g:Inf},iB f=true->iB g=true->dZ f g=true
 | .v,_,_,_=>rfl
 | .a b,.v,_,_=>rfl
 | .a b,.a c,_,_=>rfl
 | .a b,.l c,_,_=>rfl
 | .a b,.x w,_,h=>by cases w with
  |nil=>rfl
  |cons _ _=>cases h
 | .l b,.v,_,_=>rfl
 | .l b,.a c,_,_=>rfl
 | .l b,.l c,_,_=>rfl
 | .l b,.x w,_,h=>by cases w with
  |nil=>rfl
  |cons _ _=>cases h
 | .x w,.v,_,_=>rfl
 | .x w,.a c,_,_=>rfl
 | .x w,.l c,h,_=>by cases w with
  |nil=>rfl
  |cons _ _=>cases h
 | .x w,.x u,h,h'=>by simp only[iB]at h h';simp only[dZ,h,h',a1w]
theorem below_nil{n}: ∀{l:List Nat},(∀b,b∈l->n<=b)->eN n l=[]
 | [],_=>rfl
 |c::l,h=>by have E:Nat.ble n c=true:=a0z (h c (a0m ..));unfold eN;rw[E];exact below_nil λb hb=>h b (a0c _ hb)
theorem infOf_benign{ops o s n log}(h:eN n log=[]):iB (fc ops o s n log)=true:=by
 unfold fc;rw[h];cases (!aX ops o s.tmps||aR o.op) with
 |true=>rfl
 |false=>
  simp only[cond_false]
  cases eG o.op with
  |true=>rfl
  |false=>
   simp only[cond_false]
   split
   ·split<;>rfl
   ·split<;>rfl
   ·split<;>rfl
   rfl
theorem infOf_value{ops o s n log}(h:aR o.op=true):fc ops o s n log= .v:=by unfold fc;rw[h,a1I];rfl
theorem lq{ops l i f}: ∀{fs:List (Nat×Inf)},(∀j g,(j,g)∈fs->(aY l j i||dZ g f)=true)->cM ops l i f fs=true
 | [],_=>rfl
 |(j,g)::fs,h=>by unfold cM;rw[←Bool.or_assoc,h j g (a0m ..),lq λj g E=>h j g (a0c _ E)];rfl
section
variable {P:Program} {G:Nat} {K:bJ} {sz:Nat} {Q:Ex->Fn->Heap->Prop} {ops:Array Oper} {wr:List Nat} {i:Nat} {os:List Oper} {k:List Fr} {f:Fn} {H H1:Heap} {v:Value}
 {d:Tmp} {op:Op} {ty:TypeId} {pos:String} {af:Array Edge}
structure WD(P:Program)(G:Nat)(K:bJ)(sz:Nat)(ops:Array Oper)(wr:List Nat)(i:Nat)(os:List Oper)(k:List Fr)(f:Fn)(H:Heap)(Q:Ex->Fn->Heap->Prop):Prop where
 out: ∀t fs,dC t=f->FsOK ops wr i fs->∃n e s',runK P G K (n+1) k (eS (bz P G (call P G K n) ops i fs os ⟨t,sz,H⟩))=some (e,s')/\Q e (dC s'.tmps) s'.heap
end
def cZ(ops:Array Oper)(f:Fn)(j:Nat):Option Bool:=
 match (ops[j]?).bind (·.dst) with
 |some d=>
  match f d with
  | .bool b=>some b
  |_=>none
 |none=>none
theorem aop_guard{P ρ d op}{ty:TypeId}{pos af}(g E:Option (Nat×Bool))(H:Heap):
  aop P ρ ⟨d,op,ty,pos,af,g⟩ H=aop P ρ ⟨d,op,ty,pos,af,E⟩ H:=by
 cases op<;>rfl
section
variable {P:Program} {G:Nat} {K:bJ} {sz:Nat} {Q:Ex->Fn->Heap->Prop} {ops:Array Oper} {wr:List Nat} {i j:Nat} {os:List Oper} {k:List Fr} {f:Fn} {H H1:Heap} {v want:Bool}
 {d:Option Tmp} {op:Op} {ty:TypeId} {pos:String} {af:Array Edge}
theorem jP{t}(O:dC t=f)(T:cZ ops f j=some v)(o:Oper)(E:o.guard=some (j,want)):aX ops o t=(v==want):=by
 unfold aX;rw[E];have:ny ops t j=some v:=by rw[←T,←O];rfl
 simp only[this];cases v<;>cases want<;>rfl
theorem nD{cf t}(T:dC t=f)(Z:cZ ops f j=some v)(U:v=want):
  step P G cf ops ⟨d,op,ty,pos,af,some (j,want)⟩ ⟨t,sz,H⟩=step P G cf ops ⟨d,op,ty,pos,af,none⟩ ⟨t,sz,H⟩:=by
 unfold step
 rw[jP T Z _ V,U]
 have E:(want==want)=true:=by cases want<;>rfl
 have O:aX ops ⟨d,op,ty,pos,af,none⟩ t=true:=rfl
 simp only[E,O,cond_true,aop_guard (some (j,want)) none]
theorem oD{cf t}(O:dC t=f)(U:cZ ops f j=some v)(T:v= !want):
  step P G cf ops ⟨d,op,ty,pos,af,some (j,want)⟩ ⟨t,sz,H⟩=St.put ⟨t,sz,H⟩ d undef:=by
 unfold step
 rw[jP O U _ V,T]
 have E:((!want)==want)=false:=by cases want<;>rfl
 simp only[E,cond_false]
theorem aC(Z:cZ ops f j=some v)(U:v=want)(h:WO P G K sz ops (⟨d,op,ty,pos,af,none⟩::os) k f H Q):WO P G K sz ops (⟨d,op,ty,pos,af,some (j,want)⟩::os) k f H Q:=⟨λt O=>by
 have⟨n,e,s',E,T⟩:=h.out t O;refine⟨n,e,s',?_,T⟩;rw[cw]at E⊢;rw[nD O Z U];exact E⟩
theorem wo_gf{d}(hy:cZ ops f j=some v)(hv:v= !want)(hd:Nat.ble (d+1) sz=true)(h:WO P G K sz ops os k (upd f d undef) H Q):WO P G K sz ops (⟨some d,op,ty,pos,af,some (j,want)⟩::os) k f H Q:=⟨λt E=>by
 obtain⟨t',U,Z⟩:=kW (s:=⟨t,sz,H⟩) (d:=some d) (v:=undef) hd;obtain⟨n,e,s',O,T⟩:=h.out t' (by rw[Z,E];rfl);refine⟨n,e,s',?_,T⟩;rw[cw,oD E hy hv,U];exact O⟩
theorem aK{d}(O:cZ ops f j=some v)(E:v=false)(hd:Nat.ble (d+1) sz=true)(h:WO P G K sz ops os k (upd f d undef) H Q):WO P G K sz ops (⟨some d,op,ty,pos,af,some (j,true)⟩::os) k f H Q:=wo_gf O E hd h
theorem ae{d}(O:cZ ops f j=some v)(E:v=true)(hd:Nat.ble (d+1) sz=true)(h:WO P G K sz ops os k (upd f d undef) H Q):WO P G K sz ops (⟨some d,op,ty,pos,af,some (j,false)⟩::os) k f H Q:=wo_gf O E hd h
theorem dH{d}(hy:cZ ops f j=none)(hd:Nat.ble (d+1) sz=true)(h:WO P G K sz ops os k (upd f d undef) H Q):WO P G K sz ops (⟨some d,op,ty,pos,af,some (j,want)⟩::os) k f H Q:=⟨λt O=>by
 obtain⟨t',Z,h4⟩:=kW (s:=⟨t,sz,H⟩) (d:=some d) (v:=undef) hd;obtain⟨n,e,s',T,U⟩:=h.out t' (by rw[h4,O];rfl);refine⟨n,e,s',?_,U⟩;have hw:aX ops ⟨some d,op,ty,pos,af,some (j,want)⟩ t=false:=by
  unfold aX;have:ny ops t j=none:=by rw[←hy,←O];rfl
  simp only[this];cases want<;>rfl
 have E:step P G (call P G K n) ops ⟨some d,op,ty,pos,af,some (j,want)⟩ ⟨t,sz,H⟩=St.put ⟨t,sz,H⟩ (some d) undef:=by unfold step;simp only[hw,cond_false]
 rw[cw,E,Z];exact T⟩
theorem fg{d}(E:cZ ops f j=some v)(hd:Nat.ble (d+1) sz=true)(O:v=true->WO P G K sz ops (⟨some d,op,ty,pos,af,none⟩::os) k f H Q)(T:v=false->WO P G K sz ops os k (upd f d undef) H Q):
  WO P G K sz ops (⟨some d,op,ty,pos,af,some (j,true)⟩::os) k f H Q:=by
 cases v with
 |true=>exact aC E V (O V)
 |false=>exact wo_gf E V hd (T V)
theorem bM{d}(E:cZ ops f j=some v)(hd:Nat.ble (d+1) sz=true)(O:v=false->WO P G K sz ops (⟨some d,op,ty,pos,af,none⟩::os) k f H Q)(T:v=true->WO P G K sz ops os k (upd f d undef) H Q):
  WO P G K sz ops (⟨some d,op,ty,pos,af,some (j,false)⟩::os) k f H Q:=by
 cases v with
 |true=>exact wo_gf E V hd (T V)
 |false=>exact aC E V (O V)
end
section
variable {P:Program} {ρ:Operand->Value} {d:Option Tmp} {ty:TypeId} {pos:String} {af:Array Edge} {gd:Option (Nat×Bool)} {H:Heap}
theorem aq{c a b t v}(hc:ρ c= .bool t)(E:t=true)(O:ρ a=v):AP P ρ ⟨d,.pick c a b,ty,pos,af,gd⟩ H (.val v,H):=by refine⟨?_⟩;show il ρ c a b H=_;unfold il;rw[hc,E,←O];rfl
theorem aH{c a b t v}(hc:ρ c= .bool t)(E:t=false)(O:ρ b=v):AP P ρ ⟨d,.pick c a b,ty,pos,af,gd⟩ H (.val v,H):=by refine⟨?_⟩;show il ρ c a b H=_;unfold il;rw[hc,E,←O];rfl
def eZ(op:BinOp)(t:TypeId)(x y:Operand)(a b:Bool):Sem Next:=
 ((eqGuard op t x y (.bool a) (.bool b))>>=λ_=>binOp op t (.bool a) (.bool b))>>=λr=>Pure.pure (Next.value r)
theorem ap_boolEq{t yt:TypeId}{x y a b}(O:ρ x= .bool a)(T:ρ y= .bool b)(E: ∀a b:Bool,aD P (eZ .eql t x y a b)=some (.value (.bool (a==b)))):AP P ρ ⟨d,.binOp .eql t x y yt,ty,pos,af,gd⟩ H (.val (.bool (a==b)),H):=by
 refine⟨?_⟩;show aBin P ρ _ .eql t (ρ x) y H=_;rw[O];show bB P ρ _ H=_;unfold bB;have U:((Op.binOp .eql t x y yt).operands.toList.all λx=>jN (ρ x))=true:=by simp[Op.operands,O,T,jN,dG]
 simp only[U,cond_true];have Z:aD P (execOp ρ ⟨d,.binOp .eql t x y yt,ty,pos,af,gd⟩)=some (.value (.bool (a==b))):=by rw[←E a b];unfold execOp eZ;simp only[O,T]
 rw[Z];rfl
end
open Go.RowKit
def KX(ex:FuncId):bJ:=λf args _=>match args with
 | []=>bif Nat.beq f ex then some (.bool true) else none
 |_=>none
theorem kx_ok{P ex}(h: ∀w,Calls P ex #[] w λe w'=>e= .returned (.bool true)/\Below w.heap.size w w'):iG P 0 (KX ex):=by
 intro f args H v E;unfold KX at E;split at E
 ·cases T:Nat.beq f ex with
  |false=>rw[T]at E;cases E
  |true=>
   rw[T]at E
   simp only[cond_true,a01]at E
   subst E
   have:=a0a T
   subst this
   refine⟨V,V,λμ O w hc _ _=>?_⟩
   have:O= #[]:=by cases O;simp_all
   subst this
   exact h w
 cases E
abbrev Fz:=Nat->Option AObj
abbrev Fp:=List (Nat×AObj)
def Fz.le(F F':Fz):Prop:= ∀b o,F b=some o->F' b=some o
theorem Fz.le_refl(F:Fz):F.le F:=λ_ _ h=>h
theorem Fz.le_trans{A B C:Fz}(h:A.le B)(k:B.le C):A.le C:=λb o x=>k b o (h b o x)
def Fz.add(F:Fz)(b:Nat)(o:AObj):Fz:=λj=>bif Nat.beq b j then some o else F j
def Fz.addL(F:Fz):Fp->Fz
 | []=>F
 |(b,o)::p=>(F.addL p).add b o
abbrev in64(n:Int):Prop:= -9223372036854775808<=n/\n<9223372036854775808
structure Base where
 n0:Nat
 W:List Nat
 lg:List Nat
def Base.of(H:Heap)(W:List Nat):Base:=⟨H.next,W,H.log⟩
structure HS(B:Base)(F:Fz)(H:Heap)(L R:List Fp):Prop where
 fz: ∀b o,F b=some o->H.get b=some o/\b<H.next
 own: ∀p,p∈L\/p∈R->∀b o,(b,o)∈p->H.get b=some o/\b<H.next/\F b=none
 nd:((L++R).flatten.map Prod.fst).Nodup
 n0:B.n0<=H.next
 log: ∀b,b∈H.log->b∈B.lg\/B.n0<=b\/b∈B.W
 mine: ∀p,p∈L->∀b o,(b,o)∈p->B.n0<=b\/b∈B.W
theorem ip{α:Type}: ∀(L:List (List α)) (i:Nat) (p:List α),L[i]?=some p->∃A C,L=A++p::C/\∀q,L.set i q=A++q::C
 | [],_,_,h=>by simp at h
 |x::L,0,p,h=>by simp at h;subst h;exact⟨[],L,V,λ_=>rfl⟩
 |x::L,i+1,p,h=>by have⟨A,C,E,O⟩:=ip L i p (by simpa using h);exact⟨x::A,C,by rw[E];rfl,λq=>by rw[a1O,O];rfl⟩
theorem pr{α:Type}(L:List (List α))(i:Nat)(p q:List α)(h:L[i]?=some p): ∃A C,L=A++p::C/\L.set i q=A++q::C:=by have⟨A,C,E,O⟩:=ip L i p h;exact⟨A,C,E,O q⟩
section
variable {B:Base} {F F':Fz} {H H':Heap} {L R:List Fp}
theorem HS.relog(h:HS B F H L R){l}(E: ∀b,b∈l->b∈B.lg\/B.n0<=b\/b∈B.W):HS B F {H with log:=l} L R:=⟨h.fz,h.own,h.nd,h.n0,E,h.mine⟩
theorem HS.G5(h:HS B F H L R):HS B F {H with log:=[]} L R:=h.relog λb hb=>by simp at hb
theorem HS.turn(h:HS B F H L R){i p q}(hi:L[i]?=some p)(hn:H.next<=H'.next)
  (a5: ∀b,b<H.next->(∀o,(b,o)∉p)->H'.get b=H.get b)
  (hq: ∀b o,(b,o)∈q->H'.get b=some o/\b<H'.next/\(H.next<=b\/∃o',(b,o')∈p)) (bw:(q.map Prod.fst).Nodup)
  (bn: ∀b,b∈H'.log->b∈H.log\/H.next<=b\/∃o,(b,o)∈p):HS B F H' (L.set i q) R:=by
 have⟨A,C,e1,e2⟩:=pr L i p q hi
 have a1:p∈L:=a0w hi
 have O:=h.nd
 rw[e1]at O
 have a6: ∀x,x∈L.set i q\/x∈R->x=q\/((x∈L\/x∈R)/\∀b o o',(b,o)∈x->(b,o')∉p):=by
  intro x E;have key: ∀x,x∈A\/x∈C\/x∈R->∀b o o',(b,o)∈x->(b,o')∉p:=by
   intro x E b o o' hb Z;simp only[a0b,a0t,a0U,a0X,a0N,a1C,a0f]at O;have al:b∈p.map Prod.fst:=a0B.2 ⟨_,Z,V⟩;have bf:b∈x.map Prod.fst:=a0B.2 ⟨_,hb,V⟩;rcases E with E|E|E
   ·have:b∈A.flatten.map Prod.fst:=a0B.2 ⟨(b,o),a0P.2 ⟨x,E,hb⟩,V⟩;exact O.2.2 b this b (.inl al) V
   ·have:b∈C.flatten.map Prod.fst:=a0B.2 ⟨(b,o),a0P.2 ⟨x,E,hb⟩,V⟩;exact O.2.1.2.2 b al b (.inl this) V
   have:b∈R.flatten.map Prod.fst:=a0B.2 ⟨(b,o),a0P.2 ⟨x,E,hb⟩,V⟩;exact O.2.1.2.2 b al b (.inr this) V
  rw[e2]at E;rcases E with E|E
  ·rcases a0f.1 E with E|E
   ·exact .inr ⟨.inl (by rw[e1];exact a0f.2 (.inl E)),key x (.inl E)⟩
   rcases a0n.1 E with rfl|E
   ·exact .inl V
   exact .inr ⟨.inl (by rw[e1];exact a0f.2 (.inr (a0c _ E))),key x (.inr (.inl E))⟩
  exact .inr ⟨.inr E,key x (.inr (.inr E))⟩
 have a9: ∀b o,(b,o)∈p->F b=none/\b<H.next:=λb o hb=>⟨(h.own p (.inl a1) b o hb).2.2,(h.own p (.inl a1) b o hb).2.1⟩
 refine⟨λb o hb=>?_,λx E b o hb=>?_,?_,a0i h.n0 hn,λb hb=>?_,λx E b o hb=>?_⟩
 ·have⟨T,h2⟩:=h.fz b o hb;refine⟨?_,a11 h2 hn⟩;rw[a5 b h2 λo' aA=>by rw[(a9 b o' aA).1]at hb;cases hb];exact T
 ·rcases a6 x E with rfl|⟨bf,hne⟩
  ·have⟨T,h2,U⟩:=hq b o hb;refine⟨T,h2,?_⟩;rcases U with U|⟨o',aA⟩
   ·cases hf:F b with
    |none=>rfl
    |some z=>have:=(h.fz b z hf).2;omega
   exact(a9 b o' aA).1
  have⟨T,h2,U⟩:=h.own x bf b o hb;exact⟨by rw[a5 b h2 λo'=>hne b o o' hb];exact T,a11 h2 hn,U⟩
 ·rw[e2];have ba: ∀x,x∈A\/x∈C\/x∈R->∀b,b∈x.map Prod.fst->b<H.next/\∀o',(b,o')∉p:=by
   intro x E b hb;obtain⟨⟨b',o⟩,Z,rfl⟩:=a0B.1 hb;have bl:x∈L.set i q\/x∈R:=by
    rw[e2];rcases E with E|E|E
    ·exact .inl (a0f.2 (.inl E))
    ·exact .inl (a0f.2 (.inr (a0c _ E)))
    exact .inr E
   have bF:x∈L\/x∈R:=by
    rw[e1];rcases E with E|E|E
    ·exact .inl (a0f.2 (.inl E))
    ·exact .inl (a0f.2 (.inr (a0c _ E)))
    exact .inr E
   refine⟨(h.own x bF b' o Z).2.1,λo' aA=>?_⟩;have ax:=O;simp only[a0b,a0t,a0U,a0X,a0N,a1C,a0f]at ax;have al:b'∈p.map Prod.fst:=a0B.2 ⟨_,aA,V⟩;rcases E with E|E|E
   ·exact ax.2.2 b' (a0B.2 ⟨_,a0P.2 ⟨x,E,Z⟩,V⟩) b' (.inl al) V
   ·exact ax.2.1.2.2 b' al b' (.inl (a0B.2 ⟨_,a0P.2 ⟨x,E,Z⟩,V⟩)) V
   exact ax.2.1.2.2 b' al b' (.inr (a0B.2 ⟨_,a0P.2 ⟨x,E,Z⟩,V⟩)) V
  have a4: ∀(c_:List Fp) b,b∈c_.flatten.map Prod.fst->∃x,x∈c_/\b∈x.map Prod.fst:=by intro c_ b hb;obtain⟨y,hy,rfl⟩:=a0B.1 hb;have⟨x,E,b0⟩:=a0P.1 hy;exact⟨x,E,a0B.2 ⟨y,b0,V⟩⟩
  have bb: ∀b,b∈q.map Prod.fst->H.next<=b\/∃o',(b,o')∈p:=by intro b hb;obtain⟨⟨b',o⟩,Z,rfl⟩:=a0B.1 hb;exact(hq b' o Z).2.2
  simp only[a0b,a0t,a0U,a0X,a0N,a1C,a0f]at O⊢;have⟨n1,⟨n2,⟨n3,n4,n5⟩,n6⟩,n7⟩:=O;refine⟨n1,⟨bw,⟨n3,n4,n5⟩,λa ha b hb a3=>?_⟩,λa ha b hb a3=>?_⟩
  ·subst a3;have E: ∃x,(x∈A\/x∈C\/x∈R)/\a∈x.map Prod.fst:=by
    rcases hb with hb|hb
    ·have⟨x,E,T⟩:=a4 C a hb;exact⟨x,.inr (.inl E),T⟩
    have⟨x,E,T⟩:=a4 R a hb;exact⟨x,.inr (.inr E),T⟩
   have⟨x,E,T⟩:=E;have⟨h2,U⟩:=ba x E a T;rcases bb a ha with h4|⟨o',h4⟩
   ·omega
   exact U o' h4
  subst a3;rcases hb with hb|hb
  ·have⟨x,E,T⟩:=a4 A a ha;have⟨h2,U⟩:=ba x (.inl E) a T;rcases bb a hb with h4|⟨o',h4⟩
   ·omega
   exact U o' h4
  exact n7 a ha a (.inr hb) V
 ·rcases bn b hb with T|T|⟨o,T⟩
  ·exact h.log b T
  ·exact .inr (.inl (a0i h.n0 T))
  exact .inr (h.mine p a1 b o T)
 have bl:=a6 x (.inl E)
 rcases bl with rfl|⟨_,_⟩
 ·rcases (hq b o hb).2.2 with U|⟨o',U⟩
  ·exact .inl (a0i h.n0 U)
  exact h.mine p a1 b o' U
 rw[e2]at E
 rcases a0f.1 E with E|E
 ·exact h.mine x (by rw[e1];exact a0f.2 (.inl E)) b o hb
 rcases a0n.1 E with rfl|E
 ·rcases (hq b o hb).2.2 with U|⟨o',U⟩
  ·exact .inl (a0i h.n0 U)
  exact h.mine p a1 b o' U
 exact h.mine x (by rw[e1];exact a0f.2 (.inr (a0c _ E))) b o hb
theorem HS.cons(h:HS B F H L R):HS B F H ([]::L) R:=
 ⟨h.fz,λp E b o hb=>by
  rcases E with E|E
  ·rcases a0n.1 E with rfl|E
   ·simp at hb
   exact h.own p (.inl E) b o hb
  ·exact h.own p (.inr E) b o hb,by simpa using h.nd,h.n0,h.log,λp E b o hb=>by
  rcases a0n.1 E with rfl|E
  ·simp at hb
  exact h.mine p E b o hb⟩
theorem HS.snoc(h:HS B F H L R):HS B F H (L++[[]]) R:=
 ⟨h.fz,λp E b o hb=>by
  rcases E with E|E
  ·rcases a0f.1 E with E|E
   ·exact h.own p (.inl E) b o hb
   simp at E;subst E;simp at hb
  ·exact h.own p (.inr E) b o hb,by simpa using h.nd,h.n0,h.log,λp E b o hb=>by
  rcases a0f.1 E with E|E
  ·exact h.mine p E b o hb
  simp at E;subst E;simp at hb⟩
theorem HS.push(h:HS B F H L R)(o:AObj):HS B F (H.push o) (L++[[(H.next,o)]]) R:=by
 have E:=(h.snoc).turn (H':=H.push o) (i:=J L) (p:=[]) (q:=[(H.next,o)]) (by simp) (by simp)
  (λb hb _=>Heap.get_push_ne _ _ M) (λb o' hb=>by
   simp at hb;obtain⟨rfl,rfl⟩:=hb;exact⟨Heap.get_push_same _ _,by simp,.inl (a07 _)⟩) (by simp) (λb hb=> .inl (by simpa using hb))
 simpa using E
theorem HS.put(h:HS B F H L R){i b o o'}(hi:L[i]?=some [(b,o)]):HS B F (H.put b o') (L.set i [(b,o')]) R:=
 h.turn hi (by simp) (λc _ E=>Heap.get_put_ne _ _ λe=>E o (by simp[e])) (λc O hb=>by
  simp at hb;obtain⟨rfl,rfl⟩:=hb;have:=(h.own _ (.inl (a0w hi)) c o (by simp)).2.1;exact⟨Heap.get_put_same _ _ _,by simpa using this,.inr ⟨o,by simp⟩⟩) (by simp) (λc hc=>by
  rw[Heap.log_put]at hc;rcases a0n.1 hc with rfl|hc
  ·exact .inr (.inr ⟨o,by simp⟩)
  exact .inl hc)
theorem HS.get(h:HS B F H L R){i b:Nat}{p o}(hi:L[i]?=some p)(hb:(b,o)∈p):H.get b=some o:=(h.own p (.inl (a0w hi)) b o hb).1
theorem HS.drop(h:HS B F H L R){i p}(hi:L[i]?=some p):HS B F H (L.set i []) R:=
 h.turn hi (a07 _) (λ_ _ _=>rfl) (λb o hb=>by simp at hb) (by simp) (λb hb=> .inl hb)
theorem addL_get{p}: ∀{b:Nat} {o:AObj},(F.addL p) b=some o->F b=some o\/(b,o)∈p:=by
 induction p with
 |nil=>intro b o h;exact .inl h
 |cons x p ih=>
  have⟨E,O⟩:=x
  intro b o h
  simp only[Fz.addL,Fz.add]at h
  cases hb:Nat.beq E b with
  |true=>
   rw[hb]at h;simp only[cond_true,a01]at h;subst h
   have:=a0a hb;subst this
   exact .inr (by simp)
  |false=>
   rw[hb]at h
   rcases ih h with h1|h1
   ·exact .inl h1
   exact .inr (a0c _ h1)
theorem addL_of{p}: ∀{b:Nat} {o:AObj},(p.map Prod.fst).Nodup->(b,o)∈p->(F.addL p) b=some o:=by
 induction p with
 |nil=>intro b o _ h;simp at h
 |cons x p ih=>
  have⟨O,U⟩:=x
  intro b o E h
  simp only[a1f,List.nodup_cons]at E
  simp only[Fz.addL,Fz.add]
  rcases a0n.1 h with e|h
  ·injection e with e1 e2;subst e1 e2;rw[a0Y];rfl
  have T:Nat.beq O b=false:=by
   cases hb:Nat.beq O b with
   |false=>rfl
   |true=>have:=a0a hb;subst this;exact absurd (a0B.2 ⟨_,h,V⟩) E.1
  rw[T];exact ih E.2 h
theorem addL_le{p}(h: ∀b o,(b,o)∈p->F b=none):F.le (F.addL p):=by
 induction p with
 |nil=>exact F.le_refl
 |cons x p ih=>
  have⟨E,Z⟩:=x
  intro b o hb
  have O:=ih (λb o T=>h b o (a0c _ T)) b o hb
  simp only[Fz.addL,Fz.add]
  cases U:Nat.beq E b with
  |false=>exact O
  |true=>
   have:=a0a U;subst this
   rw[h E Z (by simp)]at hb;cases hb
theorem HS.nodup_of(h:HS B F H L R){p}(E:p∈L):(p.map Prod.fst).Nodup:=by have:=h.nd;obtain⟨A,C,rfl⟩:=List.append_of_mem E;simp only[a0b,a0t,a0U,a0X,a0N,a1C]at this;exact this.2.1.1
theorem HS.freeze(h:HS B F H L R){i p}(hi:L[i]?=some p): ∃F',F.le F'/\HS B F' H (L.set i []) R/\∀b o,(b,o)∈p->F' b=some o:=by
 have Z:p∈L:=a0w hi;have al:=addL_le (F:=F) (p:=p) λb o hb=>(h.own p (.inl Z) b o hb).2.2
 have hd:=h.drop hi;have an:=h.nodup_of Z;refine⟨_,al,⟨λb o hb=>?_,λx E b o hb=>?_,hd.nd,hd.n0,hd.log,hd.mine⟩,λb o hb=>addL_of an hb⟩
 ·rcases addL_get hb with O|O
  ·exact h.fz b o O
  have:=h.own p (.inl Z) b o O;exact⟨this.1,this.2.1⟩
 obtain⟨O,h2,h3⟩:=hd.own x E b o hb;refine⟨O,h2,?_⟩;cases hq:F.addL p b with
 |none=>rfl
 |some z=>
  exfalso
  rcases addL_get hq with h4|h4
  ·rw[h3]at h4;cases h4
  ·--disjoint
   obtain⟨A,C,e1,e2⟩:=pr L i p [] hi;have T:=h.nd;rw[e1]at T;simp only[a0b,a0t,a0U,a0X,a0N,a1C,a0f]at T;have U:b∈p.map Prod.fst:=a0B.2 ⟨_,h4,V⟩;rcases E with E|E
   ·rw[e2]at E;rcases a0f.1 E with E|E
    ·exact T.2.2 b (a0B.2 ⟨_,a0P.2 ⟨x,E,hb⟩,V⟩) b (.inl U) V
    rcases a0n.1 E with rfl|E
    ·simp at hb
    exact T.2.1.2.2 b U b (.inl (a0B.2 ⟨_,a0P.2 ⟨x,E,hb⟩,V⟩)) V
   exact T.2.1.2.2 b U b (.inr (a0B.2 ⟨_,a0P.2 ⟨x,E,hb⟩,V⟩)) V
theorem HS.call(h:HS B F H L R):HS (.of H []) F H [] (L++R):=
 ⟨h.fz,λp E b o hb=>by
  rcases E with E|E
  ·simp at E
  exact h.own p (a0f.1 E) b o hb,by simpa using h.nd,a07 _,λb hb=> .inl hb,λp E=>by simp at E⟩
theorem HS.G8{b_ T}(h:HS B F H L R)(U:T=H)(k:HS (.of T []) F' H' b_ (L++R)):HS B F' H' (L++b_) R:=by
 subst U;refine⟨k.fz,λp E b o hb=>k.own p ?_ b o hb,?_,a0i h.n0 k.n0,λb hb=>?_,λp E b o hb=>?_⟩
 ·rcases E with E|E
  ·rcases a0f.1 E with E|E
   ·exact .inr (a0f.2 (.inl E))
   exact .inl E
  exact .inr (a0f.2 (.inr E))
 ·have:=k.nd;have O:((L++b_++R).flatten.map Prod.fst).Perm ((b_++(L++R)).flatten.map Prod.fst):=by simp only[a0U,a0N,a0b];exact a1h _ _ _
  exact O.nodup_iff.2 this
 ·rcases k.log b hb with h1|h1|h1
  ·exact h.log b h1
  ·exact .inr (.inl (a0i h.n0 h1))
  simp[Base.of]at h1
 rcases a0f.1 E with E|E
 ·exact h.mine p E b o hb
 rcases k.mine p E b o hb with h1|h1
 ·exact .inl (a0i h.n0 h1)
 simp[Base.of]at h1
theorem HS.Gh(h:HS B F H L R){i p}(hi:L[i]?=some p):HS (.of H (p.map Prod.fst)) F H [p] (L.set i []++R):=by
 have⟨A,C,T,U⟩:=pr L i p [] hi;have Z:p∈L:=a0w hi;refine⟨h.fz,λx E b o hb=>?_,?_,a07 _,λb hb=> .inl hb,λx E b o hb=>?_⟩
 ·rcases E with E|E
  ·simp at E;subst E;exact h.own x (.inl Z) b o hb
  rw[U]at E;simp only[a0b,a0t,a0f,a0n]at E;rcases E with E|rfl|E|E
  ·exact h.own x (.inl (by rw[T];simp[E])) b o hb
  ·simp at hb
  ·exact h.own x (.inl (by rw[T];simp[E])) b o hb
  exact h.own x (.inr E) b o hb
 ·have:=h.nd;rw[T]at this;rw[U];have O:(([p]++(A++[]::C++R)).flatten.map Prod.fst).Perm ((A++p::C++R).flatten.map Prod.fst):=by simp only[a0U,a0X,List.flatten_nil,a0k,a0o,a0N,a0b];exact a1h _ _ _
  exact O.nodup_iff.2 this
 simp at E;subst E;exact .inr (a0B.2 ⟨_,hb,V⟩)
theorem HS.backOwn{H0 W p q b_}(h:HS B F H L R){i}(hi:L[i]?=some p)(hH:H0=H)(hW: ∀b,b∈W->b∈p.map Prod.fst)(k:HS (.of H0 W) F' H' (q::b_) (L.set i []++R)):HS B F' H' (L.set i q++b_) R:=by
 subst hH;have⟨A,C,e1,e2⟩:=ip L i p hi;have aA:p∈L:=a0w hi;have U: ∀b,b∈W->B.n0<=b\/b∈B.W:=λb hb=>by obtain⟨⟨b',o⟩,ar,rfl⟩:=a0B.1 (hW b hb);exact h.mine p aA b' o ar
 have ax: ∀x,x∈A++q::C++b_\/x∈R->x∈q::b_\/x∈A++[]::C++R:=by
  intro x E;simp only[a0b,a0t,a0f,a0n]at E⊢;rcases E with(E|E|E|E)|E
  ·exact .inr (.inl E)
  ·exact .inl (.inl E)
  ·exact .inr (.inr (.inr (.inl E)))
  ·exact .inl (.inr E)
  exact .inr (.inr (.inr (.inr E)))
 have Z: ∀x,x∈q::b_->∀b o,(b,o)∈x->B.n0<=b\/b∈B.W:=λx E b o hb=>by
  rcases k.mine x E b o hb with O|O
  ·exact .inl (a0i h.n0 O)
  exact U b O
 rw[e2]at k⊢;refine⟨k.fz,λx E b o hb=>k.own x (ax x E) b o hb,?_,a0i h.n0 k.n0,λb hb=>?_,λx E b o hb=>?_⟩
 ·have:=k.nd;have T:((A++q::C++b_++R).flatten.map Prod.fst).Perm ((q::b_++(A++[]::C++R)).flatten.map Prod.fst):=by
   simp only[a0U,a0X,a0o,a0N,a0b,a0t];have O: ∀(a c m q r:List Nat),(a++(q++(c++(m++r)))).Perm (q++(m++(a++(c++r)))):=by intro a c m q r;refine List.Perm.trans (a1h a q _) (List.Perm.append_left q ?_);refine List.Perm.trans (List.Perm.append_left a (a1h c m r)) ?_;exact a1h a m _
   exact O _ _ _ _ _
  exact T.nodup_iff.2 this
 ·rcases k.log b hb with O|O|O
  ·exact h.log b O
  ·exact .inr (.inl (a0i h.n0 O))
  exact .inr (U b O)
 simp only[a0b,a0t,a0f,a0n]at E;rcases E with E|rfl|E|E
 ·exact h.mine x (by rw[e1];simp[E]) b o hb
 ·exact Z x (by simp) b o hb
 ·exact h.mine x (by rw[e1];simp[E]) b o hb
 exact Z x (by simp[E]) b o hb
end
class Rp(α:Type) where
 sz:Nat
 rep:Fz->List Value->α->Prop
 len: ∀{F:Fz} {cs:List Value} {x:α},rep F cs x->J cs=sz
 one: ∀{F:Fz} {cs:List Value} {x:α},rep F cs x->nw Value.oneCell' cs=true
 ac: ∀{F F':Fz} {cs:List Value} {x:α},F.le F'->rep F cs x->rep F' cs x
def RL{α:Type} [Rp α](F:Fz):List Value->List α->Prop
 |cs,[]=>cs=[]
 |cs,x::l=> ∃c r,cs=c++r/\Rp.rep F c x/\RL F r l
theorem allL_app{p}(a b:List Value):nw p (a++b)=(nw p a&&nw p b):=by simp only[pO,a1H]
section
variable {α:Type} [Rp α] {F F':Fz}
theorem RL.length: ∀{l:List α} {cs:List Value},RL F cs l->cs.length=l.length *Rp.sz α
 | [],cs,h=>by simp only[RL]at h;subst h;simp
 |x::l,cs,h=>by obtain⟨c,r,rfl,E,O⟩:=h;rw[a00,Rp.len E,RL.length O,a02,a1D,Nat.add_comm]
theorem RL.ac(E:F.le F'): ∀{l:List α} {cs:List Value},RL F cs l->RL F' cs l
 | [],_,h=>h
 |_::_,_,⟨c,r,e,h1,h2⟩=>⟨c,r,e,Rp.ac E h1,RL.ac E h2⟩
theorem RL.one: ∀{l:List α} {cs:List Value},RL F cs l->nw Value.oneCell' cs=true
 | [],cs,h=>by simp only[RL]at h;subst h;rfl
 |x::l,cs,h=>by obtain⟨c,r,rfl,E,O⟩:=h;rw[allL_app,Rp.one E,RL.one O];rfl
theorem RL.append: ∀{l m:List α} {cs E:List Value},RL F cs l->RL F E m->RL F (cs++E) (l++m)
 | [],_,cs,_,h,k=>by simp only[RL]at h;subst h;exact k
 |_::_,_,_,_,⟨c,r,e,h1,h2⟩,k=>⟨c,_,by rw[e,a0b],h1,RL.append h2 k⟩
theorem RL.take: ∀{l:List α} {cs:List Value} (n:Nat),RL F cs l->RL F (cs.take (n *Rp.sz α)) (l.take n)
 |l,cs,0,h=>by simp[RL]
 | [],cs,n+1,h=>by simp only[RL]at h;subst h;simp[RL]
 |x::l,cs,n+1,h=>by
  obtain⟨c,r,rfl,E,U⟩:=h;refine⟨c,_,?_,E,RL.take n U⟩;rw[List.take_append,Rp.len E];have O:List.take ((n+1) *Rp.sz α) c=c:=a0s (by rw[Rp.len E,a1D];omega);have T:(n+1) *Rp.sz α-Rp.sz α=n *Rp.sz α:=by rw[a1D];omega
  rw[O,T]
theorem RL.drop: ∀{l:List α} {cs:List Value} (n:Nat),RL F cs l->RL F (cs.drop (n *Rp.sz α)) (l.drop n)
 |l,cs,0,h=>by simpa using h
 | [],cs,n+1,h=>by simp only[RL]at h;subst h;simp[RL]
 |x::l,cs,n+1,h=>by
  obtain⟨c,r,rfl,E,U⟩:=h;have:=RL.drop n U;rw[List.drop_append,Rp.len E];have O:List.drop ((n+1) *Rp.sz α) c=[]:=a0Z (by rw[Rp.len E,a1D];omega);have T:(n+1) *Rp.sz α-Rp.sz α=n *Rp.sz α:=by rw[a1D];omega
  rw[O,T];exact this
theorem RL.head{l:List α}{x:α}{cs:List Value}(h:RL F cs (x::l)):Rp.rep F (cs.take (Rp.sz α)) x:=by obtain⟨c,r,rfl,E,_⟩:=h;rw[List.take_append,Rp.len E,a24,List.take_zero,a0k,a0s (by rw[Rp.len E];omega)];exact E
theorem RL.at{l:List α}{cs:List Value}{j:Nat}{x:α}(h:RL F cs l)(O:l[j]?=some x):Rp.rep F ((cs.drop (j *Rp.sz α)).take (Rp.sz α)) x:=by
 have E:=h.drop j;have U:=(a0A.1 O).1;have T:l.drop j=x::l.drop (j+1):=by rw[a0O U];congr 1;exact(a0A.1 O).2
 rw[T]at E;exact E.head
theorem splice_eq(cs vs:List Value)(o:Nat)(h:o+J vs<=J cs):be cs o vs=cs.take o++vs++cs.drop (o+J vs):=by
 apply a1A;intro i;rw[bD cs o vs i h];simp only[a0b,List.getElem?_append,a0V,a0F,a0L];have e:min o (J cs)=o:=M
 rw[e];by_cases E:i<o
 ·rw[if_pos E,if_neg M];simp[E]
 rw[if_neg E];by_cases O:i<o+J vs
 ·rw[if_pos M,if_pos M]
 rw[if_neg M,if_neg M];congr 1;omega
theorem RL.set{l:List α}{cs c:List Value}{j:Nat}{x:α}(h:RL F cs l)(E:j<l.length)(hc:Rp.rep F c x):RL F (be cs (j *Rp.sz α) c) (l.set j x):=by
 have O:=h.length;have hb:j *Rp.sz α+Rp.sz α<=cs.length:=by rw[O,←a1D];exact a0G _ E
 rw[splice_eq _ _ _ (by rw[Rp.len hc];exact hb),List.set_eq_take_append_cons_drop,if_pos E,Rp.len hc,a0b];refine(h.take j).append ?_;refine⟨c,_,V,hc,?_⟩;have:=h.drop (j+1);rw[a1D]at this;exact this
theorem RL.replicate{z:List Value}{x:α}(h:Rp.rep F z x): ∀n,RL F (dY n z) (List.replicate n x)
 |0=>rfl
 |n+1=>⟨z,dY n z,V,h,RL.replicate h n⟩
def Sl(F:Fz)(o:AObj)(off k:Nat)(l:List α):Prop:= ∃cs E O,o= .cells cs E O/\(O=false->off+k *Rp.sz α<=J cs)/\(J l)<=k/\RL F ((cs.drop off).take (J l *Rp.sz α)) l/\(E=none\/E=some (Rp.sz α))
def Sv(F:Fz)(get:Nat->Option AObj)(v:Value)(l:List α):Prop:=
 (v= .slice none 0 0/\l=[])\/∃b off k o,v= .slice (some ⟨b,off,none⟩) (J l) k/\get b=some o/\Sl F o off k l
def SR(F:Fz)(v:Value)(l:List α):Prop:=Sv F F v l
def OS(F:Fz)(v:Value)(l:List α)(p:Fp):Prop:=
 (v= .slice none 0 0/\l=[]/\p=[])\/∃b off k cs E,v= .slice (some ⟨b,off,none⟩) l.length k/\p=[(b,.cells cs E false)]/\Sl F (.cells cs E false) off k l
class Mo(F H:Fz)(p:Prop)(q:outParam Prop):Prop where
 m:F.le H->p->q
theorem M2{F H a A' b B'}[Mo F H a A'][Mo F H b B'](h:F.le H)(x0:a)(x1:b):A'∧B':=⟨Mo.m h x0,Mo.m h x1⟩
theorem M3{F H a A' b B' c C'}[Mo F H a A'][Mo F H b B'][Mo F H c C'](h:F.le H)(x0:a)(x1:b)(x2:c):A'∧B'∧C':=⟨Mo.m h x0,Mo.m h x1,Mo.m h x2⟩
theorem M4{F H a A' b B' c C' d D'}[Mo F H a A'][Mo F H b B'][Mo F H c C'][Mo F H d D'](h:F.le H)(x0:a)(x1:b)(x2:c)(x3:d):A'∧B'∧C'∧D':=⟨Mo.m h x0,Mo.m h x1,Mo.m h x2,Mo.m h x3⟩
theorem M5{F H a A' b B' c C' d D' e E'}[Mo F H a A'][Mo F H b B'][Mo F H c C'][Mo F H d D'][Mo F H e E'](h:F.le H)(x0:a)(x1:b)(x2:c)(x3:d)(x4:e):A'∧B'∧C'∧D'∧E':=⟨Mo.m h x0,Mo.m h x1,Mo.m h x2,Mo.m h x3,Mo.m h x4⟩
theorem M6{F H a A' b B' c C' d D' e E' f F'}[Mo F H a A'][Mo F H b B'][Mo F H c C'][Mo F H d D'][Mo F H e E'][Mo F H f F'](h:F.le H)(x0:a)(x1:b)(x2:c)(x3:d)(x4:e)(x5:f):A'∧B'∧C'∧D'∧E'∧F':=⟨Mo.m h x0,Mo.m h x1,Mo.m h x2,Mo.m h x3,Mo.m h x4,Mo.m h x5⟩
theorem M7{F H a A' b B' c C' d D' e E' f F' g G'}[Mo F H a A'][Mo F H b B'][Mo F H c C'][Mo F H d D'][Mo F H e E'][Mo F H f F'][Mo F H g G'](h:F.le H)(x0:a)(x1:b)(x2:c)(x3:d)(x4:e)(x5:f)(x6:g):A'∧B'∧C'∧D'∧E'∧F'∧G':=⟨Mo.m h x0,Mo.m h x1,Mo.m h x2,Mo.m h x3,Mo.m h x4,Mo.m h x5,Mo.m h x6⟩
theorem M8{F H a A' b B' c C' d D' e E' f F' g G' i I'}[Mo F H a A'][Mo F H b B'][Mo F H c C'][Mo F H d D'][Mo F H e E'][Mo F H f F'][Mo F H g G'][Mo F H i I'](h:F.le H)(x0:a)(x1:b)(x2:c)(x3:d)(x4:e)(x5:f)(x6:g)(x7:i):A'∧B'∧C'∧D'∧E'∧F'∧G'∧I':=⟨Mo.m h x0,Mo.m h x1,Mo.m h x2,Mo.m h x3,Mo.m h x4,Mo.m h x5,Mo.m h x6,Mo.m h x7⟩
theorem Sl.ac(hF:F.le F'){o:AObj}{off k:Nat}{l:List α}(h:Sl F o off k l):Sl F' o off k l:=by obtain⟨cs,E,ro,O,T,U,Z,h5⟩:=h;exact⟨cs,E,ro,O,T,U,Z.ac hF,h5⟩
instance{o:AObj}{off k:Nat}{l:List α}:Mo F F' (Sl F o off k l) (Sl F' o off k l):=⟨λh x=>x.ac h⟩
theorem SR.ac(E:F.le F'){v:Value}{l:List α}(h:SR F v l):SR F' v l:=by
 rcases h with h|⟨b,off,k,o,h1,h2,h3⟩
 ·exact .inl h
 exact .inr ⟨b,off,k,o,h1,E _ _ h2,h3.ac E⟩
instance{v:Value}{l:List α}:Mo F F' (SR F v l) (SR F' v l):=⟨λh x=>x.ac h⟩
theorem OS.ac(E:F.le F'){v:Value}{l:List α}{p:Fp}(h:OS F v l p):OS F' v l p:=by
 rcases h with h|⟨b,off,k,cs,opn,h1,h2,h3⟩
 ·exact .inl h
 exact .inr ⟨b,off,k,cs,opn,h1,h2,h3.ac E⟩
instance{v:Value}{l:List α}{p:Fp}:Mo F F' (OS F v l p) (OS F' v l p):=⟨λh x=>x.ac h⟩
theorem SR.nil:SR F (.slice none 0 0) ([]:List α):= .inl ⟨V,V⟩
theorem OS.nil:OS F (.slice none 0 0) ([]:List α) []:= .inl ⟨V,V,V⟩
variable {B:Base} {H:Heap} {L R:List Fp} {v:Value} {l:List α} {p:Fp}
theorem SR.sv(h:SR F v l)(hs:HS B F H L R):Sv F H.get v l:=by
 rcases h with h|⟨b,off,k,o,h1,h2,h3⟩
 ·exact .inl h
 exact .inr ⟨b,off,k,o,h1,(hs.fz b o h2).1,h3⟩
theorem OS.sv(h:OS F v l p)(hs:HS B F H L R){i:Nat}(hi:L[i]?=some p):Sv F H.get v l:=by
 rcases h with⟨E,O,_⟩|⟨b,off,k,cs,U,E,O,T⟩
 ·exact .inl ⟨E,O⟩
 exact .inr ⟨b,off,k,_,E,hs.get hi (by rw[O];simp),T⟩
def sB:Value->Nat
 | .slice (some a) _ _=>a.block
 |_=>0
def sO:Value->Nat
 | .slice (some a) _ _=>a.off
 |_=>0
def HC(get:Nat->Option AObj)(b o:Nat)(cs:List Value):Prop:= ∃all E O,get b=some (.cells all E O)/\(all.drop o).take (J cs)=cs
theorem Sv.at{get}(h:Sv F get v l){j:Nat}{x}(E:l[j]?=some x): ∃cs,Rp.rep F cs x/\HC get (sB v) (sO v+j *Rp.sz α) cs:=by
 rcases h with⟨_,rfl⟩|⟨b,off,k,o,rfl,U,cs,T,ro,rfl,h3,h4,Z,h6⟩
 ·simp at E
 have hj:=(a0A.1 E).1;have O:=Z.at E;refine⟨_,O,cs,T,ro,U,?_⟩;rw[Rp.len O];show(cs.drop (off+j *Rp.sz α)).take (Rp.sz α)=(((cs.drop off).take (l.length *Rp.sz α)).drop (j *Rp.sz α)).take (Rp.sz α);rw[a27,List.take_take,a1F];congr 1;have:Rp.sz α<=l.length *Rp.sz α-j *Rp.sz α:=by have:=a0G (Rp.sz α) (show j+1<=l.length from hj);rw[a1D]at this;omega
 omega
theorem HC.get{get b o cs}(h:HC get b o cs){i v}(E:cs[i]?=some v): ∃all O T,get b=some (.cells all O T)/\all[o+i]?=some v:=by
 have⟨all,O,T,U,Z⟩:=h;refine⟨all,O,T,U,?_⟩;rw[←Z,a0F]at E;split at E
 ·rw[a0L]at E;exact E
 cases E
theorem HC.part{get b o cs}(h:HC get b o cs){i n}(hn:i+n<=J cs): ∃all E T,get b=some (.cells all E T)/\(all.drop (o+i)).take n=(cs.drop i).take n/\(J ((cs.drop i).take n))=n:=by
 have⟨all,E,T,U,Z⟩:=h;refine⟨all,E,T,U,?_,by rw[a0V,a17];omega⟩;have O:(((all.drop o).take (J cs)).drop i).take n=(cs.drop i).take n:=by rw[Z]
 rw[a27,List.take_take,a1F]at O;rw[show min n (J cs-i)=n by omega]at O;exact O
theorem HC.same{get b cs E O}(h:get b=some (.cells cs E O)):HC get b 0 cs:=⟨cs,E,O,h,by simp⟩
instance :Rp Int where
 sz:=1
 rep _ cs n:=cs=[.int .i64 n]/\in64 n
 len:=by rintro F cs x ⟨rfl,_⟩;rfl
 one:=by rintro F cs x ⟨rfl,_⟩;rfl
 ac:=by intro F F' cs x _ h;exact h
instance :Rp Bool where
 sz:=1
 rep _ cs n:=cs=[.bool n]
 len:=by rintro F cs x rfl;rfl
 one:=by rintro F cs x rfl;rfl
 ac:=by intro F F' cs x _ h;exact h
structure Str where
 b:List UInt8
 deriving DecidableEq,Inhabited
instance :Rp Str where
 sz:=1
 rep _ cs s:=cs=[.string ⟨⟨s.b⟩⟩]
 len:=by rintro F cs x rfl;rfl
 one:=by rintro F cs x rfl;rfl
 ac:=by intro F F' cs x _ h;exact h
structure U64 where
 n:Int
 deriving DecidableEq,Inhabited
instance :Rp U64 where
 sz:=1
 rep _ cs s:=cs=[.int .u64 s.n]/\0<=s.n/\s.n<18446744073709551616
 len:=by rintro F cs x ⟨rfl,_⟩;rfl
 one:=by rintro F cs x ⟨rfl,_⟩;rfl
 ac:=by intro F F' cs x _ h;exact h
instance :Rp UInt8 where
 sz:=1
 rep _ cs s:=cs=[.int .u8 s.toNat]
 len:=by rintro F cs x rfl;rfl
 one:=by rintro F cs x rfl;rfl
 ac:=by intro F F' cs x _ h;exact h
theorem Sv.shape{get:Nat->Option AObj}{v:Value}{l:List α}(h:Sv F get v l): ∃a k,v= .slice a l.length k:=by
 rcases h with⟨rfl,rfl⟩|⟨b,off,k,o,rfl,_⟩
 ·exact⟨_,0,V⟩
 exact⟨_,k,V⟩
theorem OS.shape{v:Value}{l:List α}{p:Fp}(h:OS F v l p): ∃a k,v= .slice a l.length k:=by
 rcases h with⟨rfl,rfl,_⟩|⟨b,off,k,cs,E,rfl,_⟩
 ·exact⟨_,0,V⟩
 exact⟨_,k,V⟩
instance :Rp (List α) where
 sz:=1
 rep F cs l:= ∃a k,cs=[.slice a (J l) k]/\SR F (.slice a (J l) k) l
 len:=by rintro F cs x ⟨a,k,rfl,_⟩;rfl
 one:=by rintro F cs x ⟨a,k,rfl,h⟩;rfl
 ac:=by rintro F F' cs x hF ⟨a,k,rfl,h⟩;exact⟨a,k,V,h.ac hF⟩
end
section
variable {α:Type} [Rp α] {P:Program} {ρ:Operand->Value} {d:Option Tmp} {ty:TypeId} {pos:String} {af:Array Edge} {gd:Option (Nat×Bool)} {B:Base} {F:Fz} {H:Heap} {L R:List Fp} {v:Value} {l:List α} {p:Fp}
theorem gY{x}{t e:TypeId}(T:ρ x=v)(E:P.underlying t=some (.slice e))(h:Sv F H.get v l):
  AP P ρ ⟨d,.call ⟨.builtin .len, #[x], #[t]⟩,ty,pos,af,gd⟩ H (.val (.int .i64 l.length),H):=by
 refine⟨?_⟩
 obtain⟨a,k,O⟩:=h.shape
 show ovl (aLen P t (ρ x) H) H=_
 rw[T,O]
 unfold aLen
 rw[E];rfl
theorem gu{x}{t:TypeId}{s}(O:ρ x= .string ⟨⟨s⟩⟩)(E:P.underlying t=some .string):
  AP P ρ ⟨d,.call ⟨.builtin .len, #[x], #[t]⟩,ty,pos,af,gd⟩ H (.val (.int .i64 (J s)),H):=by
 refine⟨?_⟩
 show ovl (aLen P t (ρ x) H) H=_
 rw[O]
 unfold aLen
 rw[E]
 show ovl (some (goInt (fU s))) H=_
 rw[bp];rfl
theorem dw{x i}{t e:TypeId}{ki:IntKind}{j:Int}(Z:ρ x=v)(hi:ρ i= .int ki j)(U:P.underlying t=some (.slice e))(hz:dL P e=some (Rp.sz α))(h:Sv F H.get v l)(O:0<=j:=by first|(dsimp only;omega)|omega)(E:j<J l:=by first|(dsimp only;omega)|omega):
  AP P ρ ⟨d,.indexAddr t x i,ty,pos,af,gd⟩ H (.val (.pointer (some ⟨sB v,sO v+j.toNat *Rp.sz α,none⟩)),H):=by
 rcases h with⟨_,rfl⟩|⟨b,off,k,o,rfl,h2,cs,ar,ro,rfl,h3,T,h5,h6⟩
 ·simp at E;omega
 exact lm Z hi U hz O E T
theorem aU{t:TypeId}{x b o o' i cs w}(Z:ρ x= .pointer (some ⟨b,o',none⟩))(ha:ff P t=some false)(hc:HC H.get b o cs)(T:o'=o+i)(U:cs[i]?=some w):
  AP P ρ ⟨d,.load t x,ty,pos,af,gd⟩ H (.val w,H):=by
 subst T
 have⟨all,al,ro,E,O⟩:=hc.get U
 exact ap_load1 Z ha E O
theorem cm{t:TypeId}{x b o o' i n cs l}(hx:ρ x= .pointer (some ⟨b,o',none⟩))(ha:ff P t=some true)(hs:dL P t=some n)(hc:HC H.get b o cs)(ho:o'=o+i)(Z:Nat.ble (i+n) (J cs)=true)(E:eB (eK cs i) n=l):
  AP P ρ ⟨d,.load t x,ty,pos,af,gd⟩ H (.val (.agg ⟨l⟩),H):=by
 subst ho
 have⟨all,ar,ro,O,T,U⟩:=hc.part (a0d Z)
 rw[bL,bX]at E
 exact ap_loadN hx ha hs O (T.trans E) (by rw[←E];exact U)
theorem bI{s:TypeId}{x f b o o'}(E:ρ x= .pointer (some ⟨b,o,none⟩))(h:kh P s (.pointer (some ⟨b,o,none⟩)) f=some (.pointer (some ⟨b,o',none⟩))):
  AP P ρ ⟨d,.fieldAddr s x f,ty,pos,af,gd⟩ H (.val (.pointer (some ⟨b,o',none⟩)),H):=by
 refine⟨?_⟩
 show ovl (kh P s (ρ x) f) H=_
 rw[E,h];rfl
theorem ap_fv{t:TypeId}{x f u w}(E:ρ x=u)(h:jJ P t u f=some w):AP P ρ ⟨d,.field t x f,ty,pos,af,gd⟩ H (.val w,H):=by refine⟨?_⟩;show ovl (jJ P t (ρ x) f) H=_;rw[E,h];rfl
theorem ap_ex{x i u w}(E:ρ x=u)(h:iU u i=some w):AP P ρ ⟨d,.extract x i,ty,pos,af,gd⟩ H (.val w,H):=by refine⟨?_⟩;show ovl (iU (ρ x) i) H=_;rw[E,h];rfl
theorem lp{t:TypeId}{E ps z w}(O:E.map (λp=>(p.1,ρ p.2))=ps)(T:dm P t=some z)(h:aD P (Instr.build t ps)=some w):
  AP P ρ ⟨d,.build t E,ty,pos,af,gd⟩ H (.val w,H):=by
 refine⟨?_⟩
 show jt P t (E.map λp=>(p.1,ρ p.2)) H=_
 rw[O]
 unfold jt
 rw[T]
 show lift P (Instr.build t ps) H=_
 unfold lift
 rw[h]
theorem ap_alloc{e:TypeId}{z}(E:dm P e=some z):AP P ρ ⟨d,.alloc e,ty,pos,af,gd⟩ H (.val (.pointer (some ⟨H.next,0,none⟩)),H.push (.cells z none false)):=by refine⟨?_⟩;show fG P e H=_;unfold fG;rw[E];rfl
theorem ap_box{e:TypeId}{x cs}(E:(ρ x).cells.toList=cs):AP P ρ ⟨d,.box e x,ty,pos,af,gd⟩ H (.val (.pointer (some ⟨H.next,0,none⟩)),H.push (.cells cs none false)):=by subst E;exact⟨V⟩
theorem mc{b o cs vs E}(T:H.get b=some (.cells cs E false))(U:o+J vs<=J cs)(O:nw Value.oneCell' vs=true):H.storeL ⟨b,o,none⟩ vs=some (H.put b (.cells (be cs o vs) E false)):=by unfold Heap.storeL;have:Nat.ble (Nat.add o (fU vs)) (fU cs)=true:=a0z (by rw[bp,bp];exact U);simp only[T,this,O,a1w,cond_true]
theorem ap_st{t:TypeId}{a x b o n u cl H1}(ha:ρ a= .pointer (some ⟨b,o,none⟩))(U:ρ x=u)(T:dL P t=some n)(hc:u.cells.toList=cl)(O:Nat.beq (J cl) n=true)(E:H.storeL ⟨b,o,none⟩ cl=some H1):
  AP P ρ ⟨d,.store t a x,ty,pos,af,gd⟩ H (.skip,H1):=by
 refine⟨?_⟩
 show gk P t (ρ a) (ρ x) H=_
 rw[ha,U]
 unfold gk
 have:u.cells.size=J cl:=by rw[←hc];simp
 rw[this,T]
 simp only[O,cond_true,hc,E]
 rfl
theorem HS.st(hs:HS B F H L R){i b o:Nat}{cs cl E}(hi:L[i]?=some [(b,.cells cs none false)])(U:Nat.ble (o+J cl) (J cs)=true)(O:nw Value.oneCell' cl=true)(T:be cs o cl=E):
  ∃H1,H.storeL ⟨b,o,none⟩ cl=some H1/\HS B F H1 (L.set i [(b,.cells E none false)]) R:=by
 subst T
 exact⟨_,mc (hs.get hi (a0I.2 V)) (a0d U) O,hs.put hi⟩
theorem HS.hc(hs:HS B F H L R){i b:Nat}{cs}(hi:L[i]?=some [(b,.cells cs none false)]):HC H.get b 0 cs:=HC.same (hs.get hi (a0I.2 V))
theorem os_set(h:OS F v l p)(hs:HS B F H L R){i j:Nat}(hi:L[i]?=some p){x x'}{off:Nat}{cl}(hx:l[j]?=some x)(h1:nw Value.oneCell' cl=true)
  (hr: ∀cs,Rp.rep F cs x->off+cl.length<=cs.length/\Rp.rep F (be cs off cl) x'):
  ∃H1 p',H.storeL ⟨sB v,sO v+j *Rp.sz α+off,none⟩ cl=some H1/\OS F v (l.set j x') p'/\HS B F H1 (L.set i p') R/\∀b cs E,p=[(b,.cells cs E false)]->∃Z,p'=[(b,.cells Z E false)]:=by
 have hj:=(a0A.1 hx).1
 rcases h with⟨_,rfl,_⟩|⟨b,o,k,cs,E,rfl,rfl,bt,bn,bF,U,h3,h4,h5,h6⟩
 ·simp at hj
 injection U with e1 e2 e3
 subst e1 e2 e3
 replace h3:=h3 V
 have al:=h5.at hx
 have aA:=h5.length
 have a5:j *Rp.sz α+Rp.sz α<=l.length *Rp.sz α:=by rw[←a1D];exact a0G _ hj
 have bw:l.length *Rp.sz α<=k *Rp.sz α:=a0G _ h4
 obtain⟨O,g2⟩:=hr _ al
 have T:=Rp.len al
 have hb:o+j *Rp.sz α+off+cl.length<=cs.length:=by rw[T]at O;omega
 refine⟨_,_,mc (o:=o+j *Rp.sz α+off) (hs.get hi (a0I.2 V)) hb h1,.inr ⟨b,o,k,_,E,by rw[a0u],V,_,_,_,V,?_,by rw[a0u];exact h4,?_,h6⟩,hs.put hi,?_⟩
 ·intro _;rw[cP _ _ _ hb];exact h3
 rotate_left
 ·intro b' Z bl U;simp only[List.cons.injEq,a05,AObj.cells.injEq,and_true]at U;obtain⟨rfl,rfl,rfl⟩:=U;exact⟨_,V⟩
 rw[a0u]
 have key:((be cs (o+j *Rp.sz α+off) cl).drop o).take (l.length *Rp.sz α)=be ((cs.drop o).take (l.length *Rp.sz α)) (j *Rp.sz α) (be ((((cs.drop o).take (l.length *Rp.sz α)).drop (j *Rp.sz α)).take (Rp.sz α)) off cl):=by
  have hA:(be ((((cs.drop o).take (l.length *Rp.sz α)).drop (j *Rp.sz α)).take (Rp.sz α)) off cl).length=Rp.sz α:=by rw[cP _ _ _ O,T]
  have hB:((cs.drop o).take (l.length *Rp.sz α)).length=l.length *Rp.sz α:=aA;apply a1A;intro q;rw[bD _ _ _ _ (by rw[hA,hB];exact a5),a0F,a0L,bD _ _ _ _ hb,hA];rw[T]at O;by_cases c1:q<l.length *Rp.sz α
  ·rw[if_pos c1];by_cases c2:o+j *Rp.sz α+off<=o+q/\o+q<o+j *Rp.sz α+off+cl.length
   ·rw[if_pos c2,if_pos M,bD _ _ _ _ (by rw[T];exact O),if_pos M];congr 1;omega
   rw[if_neg c2];by_cases c3:j *Rp.sz α<=q/\q<j *Rp.sz α+Rp.sz α
   ·rw[if_pos c3,bD _ _ _ _ (by rw[T];exact O),if_neg M,a0F,if_pos M,a0L,a0F,if_pos M,a0L];congr 1;omega
   rw[if_neg c3,a0F,if_pos c1,a0L]
  rw[if_neg c1,if_neg M,a0F,if_neg c1]
 rw[key]
 exact h5.set hj g2
theorem Sv.G9{x:Value}{l2:List α}(h:Sv F H.get x l2):lenA x=some l2.length/\∃new,iq H (Rp.sz α) l2.length x=some new/\RL F new l2:=by
 rcases h with⟨rfl,rfl⟩|⟨b,off,k,o,rfl,O,cs,U,ro,rfl,Z,h4,E,h6⟩
 ·exact⟨V,[],V,V⟩
 refine⟨V,?_⟩;unfold iq;cases hb:Nat.beq l2.length 0 with
 |true=>
  have:=a0a hb
  have e:l2=[]:=a0e this
  subst e
  exact⟨[],V,V⟩
 |false=>
  refine⟨_,?_,E⟩
  simp only[cond_false]
  unfold Heap.loadN
  have T:=E.length
  simp only[O,bL,bX,bp,T,a0Y,cond_true]
theorem os_append(h:OS F v l p)(hs:HS B F H L R){i:Nat}(hi:L[i]?=some p){x l2 new z types}{st xt e:TypeId}{xd:TypeDesc}{a6:Nat}
  (h0:types[0]?=some st) (h1:types[1]?=some xt) (b6:P.underlying st=some (.slice e)) (b9:P.underlying xt=some xd) (b7: ∀k,xd≠ .int k) (hz:dL P e=some (Rp.sz α)) (b1:gW P e=some a6) (ch:dm P e=some z)
  (a9:Nat.beq (fU z) (Rp.sz α)=true) (a7:Nat.ble a6 4096=true) (Z:Nat.beq (Rp.sz α) 0=false) (b8:lenA x=some l2.length) (hf:iq H (Rp.sz α) l2.length x=some new) (E:RL F new l2) (aA:l.length+l2.length<=2147483648):
  ∃a k H1 p',hE P types v x H=some (.slice a (l++l2).length k,H1)/\OS F (.slice a (l++l2).length k) (l++l2) p'/\HS B F H1 (L.set i p') R:=by
 have U:L.set i p=L:=by have⟨A,C,e1,e2⟩:=ip L i p hi;rw[e2 p,←e1]
 have a1:=E.one
 have O:=E.length
 have cp:0<Rp.sz α:=by
  rcases a1g (Rp.sz α) with hq|hq
  ·rw[hq]at Z;cases Z
  exact hq
 have c6: ∀(Y:Option (Value×Heap)),(match xd with| .int _=>none|_=>Y)=Y:=by intro Y;cases xd<;>first|rfl|exact absurd V (b7 _)
 unfold hE
 simp only[h0,h1,b6,b9,hz,b1,ch,b8,hf]
 rcases h with⟨rfl,rfl,rfl⟩|⟨b,o,k,cs,a2,rfl,rfl,c9,c8,dk,he,h3,h4,h5,h6⟩
 ·cases hm:Nat.beq l2.length 0 with
  |true=>
   have:l2=[]:=a0e (a0a hm)
   subst this
   exact⟨_,0,H,[],V,.nil,by rw[U];exact hs⟩
  |false=>
   have ax:Nat.ble l2.length 2147483648=true:=a0z (by simp at aA;omega)
   simp only[cond_false,a9,ax,a7,Z,a1K,a1w,cond_true]
   refine⟨_,_,_,[(_,.cells new _ _)],V,.inr ⟨_,0,_,_,_,V,V,_,_,_,V,?_,by simp,?_,.inr V⟩,?_⟩
   ·intro _;show 0+l2.length *Rp.sz α<=new.length;rw[O];omega
   ·rw[a0R,a0o,←O,a0W];exact E
   refine hs.turn hi (by simp[aP]) (λb hb _=>Heap.get_push_ne _ _ M) (λb o hb=>?_) (by simp) (λb hb=> .inl (by simpa[aP] using hb))
   simp at hb;obtain⟨rfl,rfl⟩:=hb
   exact⟨Heap.get_push_same _ _,by simp[aP],.inl (a07 _)⟩
 injection he with e1 e2 e3
 subst e1 e2 e3
 replace h3:=h3 V
 have hg:=hs.get hi (b:=b) (o:= .cells cs a2 false) (by simp)
 simp only[hg]
 cases hk:Nat.ble (l.length+l2.length) k with
 |true=>
  have a8:=a0d hk
  simp only[cond_true]
  cases hm:Nat.beq l2.length 0 with
  |true=>
   have:l2=[]:=a0e (a0a hm)
   subst this
   simp only[cond_true,a0k]
   exact⟨_,_,_,_,V,.inr ⟨b,o,k,cs,a2,V,V,_,_,_,V,λ_=>h3,h4,h5,h6⟩,by rw[U];exact hs⟩
  |false=>
   simp only[cond_false]
   have b2:(l.length+l2.length) *Rp.sz α<=k *Rp.sz α:=a0G _ a8
   have hb:o+l.length *Rp.sz α+new.length<=cs.length:=by rw[O];rw[a10]at b2;omega
   rw[mc hg hb a1]
   simp only
   refine⟨_,k,_,_,by rw[a00],.inr ⟨b,o,k,_,a2,V,V,_,_,_,V,?_,by rw[a00];exact a8,?_,h6⟩,hs.put hi⟩
   ·intro _;rw[cP _ _ _ hb];exact h3
   have key:((be cs (o+l.length *Rp.sz α) new).drop o).take ((l++l2).length *Rp.sz α)=(cs.drop o).take (l.length *Rp.sz α)++new:=by
    have b3:=h5.length;apply a1A;intro q;rw[a0F,a0L,bD _ _ _ _ hb,a00,a10,List.getElem?_append,b3];by_cases c1:q<l.length *Rp.sz α
    ·rw[if_pos M,if_neg M,if_pos c1,a0F,if_pos c1,a0L]
    rw[if_neg c1];by_cases c2:q<l.length *Rp.sz α+l2.length *Rp.sz α
    ·rw[if_pos c2,if_pos (by rw[O];omega)];congr 1;omega
    rw[if_neg c2,a1l (by rw[O];omega)]
   rw[key]
   exact h5.append E
 |false=>
  simp only[cond_false]
  have ax:Nat.ble (l.length+l2.length) 2147483648=true:=a0z aA
  have b5:Nat.ble l.length k=true:=a0z h4
  simp only[a9,ax,a7,Z,b5,a1K,a1w,cond_true]
  have bw:iq H (Rp.sz α) l.length (.slice (some ⟨b,o,none⟩) l.length k)=some ((cs.drop o).take (l.length *Rp.sz α)):=by
   unfold iq;cases hb:Nat.beq l.length 0 with
   |true=>
    have:=a0a hb
    simp[this]
   |false=>
    simp only[cond_false]
    unfold Heap.loadN
    have hl:=h5.length
    simp only[hg,bL,bX,bp,hl,a0Y,cond_true]
  rw[bw]
  simp only[eO]
  have an:=h5.append E
  have T:=an.length
  have ar: ∀(k':Nat) (bb:Nat),k'=(l++l2).length->OS F (.slice (some ⟨bb,0,none⟩) (l++l2).length k') (l++l2) [(bb,.cells ((cs.drop o).take (l.length *Rp.sz α)++new) (some (Rp.sz α)) false)]:=by rintro k' bb rfl;refine .inr ⟨bb,0,_,_,_,V,V,_,_,_,V,λ_=>(by rw[T];omega),a07 _,?_,.inr V⟩;rw[a0R,←T,a0W];exact an
  rcases h6 with rfl|rfl
  ·simp only;refine⟨_,_,_,_,by rw[a00],ar _ _ (by rw[a00]),?_⟩;refine hs.turn hi (by simp[aP]) (λb hb _=>Heap.get_push_ne _ _ M) (λb o hb=>?_) (by simp) (λb hb=> .inl (by simpa[aP] using hb));simp at hb;obtain⟨rfl,rfl⟩:=hb;exact⟨Heap.get_push_same _ _,by simp[aP],.inl (a07 _)⟩
  simp only[a0Y,a1w,a1,cond_true]
  refine⟨_,_,_,_,by rw[a00],ar _ _ (by rw[a00]),?_⟩
  refine hs.turn hi (by simp[aP]) (λc hb b4=>?_) (λc o hb=>?_) (by simp) (λc hb=>?_)
  ·show((H.put b .dead).push _).get c=_;rw[Heap.get_push_ne _ _ (by simp;omega),Heap.get_put_ne _ _ λe=>b4 (.cells cs (some (Rp.sz α)) false) (by simp[e])]
  ·simp at hb;obtain⟨rfl,rfl⟩:=hb;exact⟨Heap.get_push_same _ _,by simp[aP],.inl (a07 _)⟩
  simp only[aP,Heap.log_push,Heap.log_put]at hb
  rcases a0n.1 hb with rfl|hb
  ·exact .inr (.inr ⟨.cells cs (some (Rp.sz α)) false,by simp⟩)
  exact .inl hb
end
section
variable {P:Program} {G:Nat} {cf:cT} {ops:Array Oper}
theorem lM{s E:St}{d:Option Tmp}{v:Value}(h:s.put d v=some E):E.size=s.size:=by
 unfold St.put at h;cases d with
 |none=>simp only[a01]at h;rw[←h]
 |some d=>
  cases hb:Nat.ble (d+1) s.size with
  |true=>simp only[hb,cond_true,a01]at h;rw[←h]
  |false=>simp only[hb,cond_false]at h;cases h
theorem step_size{o s T}(h:step P G cf ops o s=some T):T.size=s.size:=by
 unfold step at h;cases O:aX ops o s.tmps with
 |false=>simp only[O,cond_false]at h;exact lM h
 |true=>
  simp only[O,cond_true]at h
  cases E:o.op.operands.toList.all (bc G) with
  |false=>rw[E]at h;cases h
  |true=>
   rw[E]at h
   simp only[cond_true]at h
   split at h
   ·have:=lM h;exact this
   ·have:=lM h;exact this
   ·split at h
    ·have:=lM h;exact this
    cases h
   cases h
theorem mo: ∀(l:List Oper) (s E:St),hL P G cf ops l s=some E->E.size=s.size
 | [],_,_,h=>by rw[kD]at h;simp only[a01]at h;rw[←h]
 |o::l,s,E,h=>by
  rw[cw]at h;split at h
  ·rename_i t O;rw[mo l _ _ h,step_size O]
  cases h
theorem kV: ∀(l:List Oper) (i:Nat) (fs:List (Nat×Inf)) (s s':St),bz P G cf ops i fs l s=some s'->s'.size=s.size
 | [],_,_,_,_,h=>by unfold bz at h;simp only[a01]at h;rw[←h]
 |o::l,i,fs,s,s',h=>by
  unfold bz at h;split at h
  ·rename_i t f E;cases O:cM ops (cJ ops) i f fs with
   |false=>rw[O]at h;cases h
   |true=>
    rw[O]at h
    rw[kV l _ _ _ _ h]
    unfold ji at E
    split at E
    ·rename_i U T;simp only[a01,a05]at E;rw[←E.1];have:=step_size T;exact this
    cases E
  cases h
theorem region_size{E s T}(h:cg P G cf ops E s=some T):T.size=s.size:=by
 unfold cg at h;cases E with
 |false=>exact mo _ _ _ h
 |true=>
  simp only[cond_true]at h
  cases O:jU ops&&P.follows .mixedOrders with
  |false=>rw[O]at h;cases h
  |true=>rw[O]at h;exact kV _ _ _ _ _ h
def SizeOK(ex:Code->St->Option (Ex×St)):Prop:= ∀c s e E,ex c s=some (e,E)->E.size=s.size
theorem execC_size{ex}(ar:SizeOK ex):SizeOK (fQ P G ex cf):=by
 intro c;have al: ∀{r:Option (Ex×St)} {k:St->Option (Ex×St)} {n:Nat} {e:Ex} {E:St},(∀e s,r=some (e,s)->s.size=n)->(∀s e E,s.size=n->k s=some (e,E)->E.size=n)->iw r k=some (e,E)->E.size=n:=by
  intro r k n e E hr hk h;cases T:r with
  |none=>rw[T]at h;cases h
  |some y=>
   have⟨Z,U⟩:=y
   have O:=hr Z U T
   rw[T]at h
   cases Z with
   |normal=>exact hk U e E O h
   |exit i=>simp only[iw,a01,a05]at h;rw[←h.2];exact O
   |ret=>simp only[iw,a01,a05]at h;rw[←h.2];exact O
 induction c with
 |skip=>intro s e E h;rw[nV]at h;simp only[a01,a05]at h;rw[←h.2]
 |region id ops draw=>
  intro s e E h
  rw[iu]at h
  cases T:cg P G cf ops draw s with
  |none=>rw[T]at h;cases h
  |some t=>
   rw[T]at h
   simp only[eS,a01,a05]at h
   rw[←h.2];exact region_size T
 |seq a b iha ihb=>
  intro s e E h
  rw[mQ]at h
  exact al (λe U O=>iha s e U O) (λU e E O h2=>(ihb U e E h2).trans O) h
 |cond c t e iht ihe=>
  intro s e E h
  rw[kL]at h
  cases T:bc G c with
  |false=>rw[T]at h;cases h
  |true=>
   rw[T]at h
   simp only[cond_true]at h
   unfold nY at h
   split at h
   ·rename_i b hb;cases b with
    |true=>exact iht s _ E h
    |false=>exact ihe s _ E h
   cases h
 |block id b ih=>
  intro s e E h
  rw[jC]at h
  cases T:fQ P G ex cf b s with
  |none=>rw[T]at h;cases h
  |some y=>
   have⟨Z,U⟩:=y
   have O:=ih s Z U T
   rw[T]at h
   cases Z with
   |normal=>simp only[dT,a01,a05]at h;rw[←h.2];exact O
   |exit i=>
    unfold dT at h
    cases hb:Nat.beq i id with
    |true=>simp only[hb,cond_true,a01,a05]at h;rw[←h.2];exact O
    |false=>simp only[hb,cond_false,a01,a05]at h;rw[←h.2];exact O
   |ret=>simp only[dT,a01,a05]at h;rw[←h.2];exact O
 |loop b ih=>
  intro s e E h
  rw[kK]at h
  exact al (λe U O=>ih s e U O) (λU e E O h2=>(ar _ U e E h2).trans O) h
 |exit id=>intro s e E h;rw[nW]at h;simp only[a01,a05]at h;rw[←h.2]
 |ret=>intro s e E h;rw[execC_ret]at h;simp only[a01,a05]at h;rw[←h.2]
 |_=>intro s e E h;cases h
theorem exec_size{K}: ∀n,SizeOK (nX P G K n)
 |0=>λc s e E h=>by cases h
 |n+1=>λc=>execC_size (exec_size n) c
end
section
variable {P:Program} {G:Nat} {K:bJ} {sz:Nat} {Q Q1:Ex->Fn->Heap->Prop} {c:Code} {k:List Fr} {f:Fn} {H:Heap}
theorem wk_cut(h1:WK P G K sz c [] f H Q1)(h2: ∀E H',Q1 .normal E H'->WK P G K sz .skip k E H' Q)(h3: ∀i E H',Q1 (.exit i) E H'->WK P G K sz (.exit i) k E H' Q)(h4: ∀E H',Q1 .ret E H'->Q .ret E H'):
  WK P G K sz c k f H Q:=⟨λt ht=>by
 have⟨O,e,s1,hx,hq⟩:=h1.out t ht
 have Z:nX P G K (O+1) c ⟨t,sz,H⟩=some (e,s1):=hx
 have a3:=exec_size _ _ _ _ _ Z
 have⟨t1,T,H1⟩:=s1
 have a1:T=sz:=a3
 subst a1
 cases e with
 |ret=>exact⟨O,.ret,_,by rw[Z];exact lL k,h4 _ _ hq⟩
 |normal=>
  have⟨U,e,s',h5,h6⟩:=(h2 _ _ hq).out t1 V
  refine⟨Nat.max O U,e,s',?_,h6⟩
  refine eU (a1v (a1d O U)) k _ _ (λx an=>?_) _ h5
  have:x=(.normal,⟨t1,T,H1⟩):=by have:some (Ex.normal,(⟨t1,T,H1⟩:St))=some x:=an;exact(Option.some.inj this).symm
  subst this
  exact j4 (a1v (a1B O U)) _ _ _ Z
 |exit i=>
  have⟨U,e,s',h5,h6⟩:=(h3 i _ _ hq).out t1 V
  refine⟨Nat.max O U,e,s',?_,h6⟩
  refine eU (a1v (a1d O U)) k _ _ (λx an=>?_) _ h5
  have:x=(.exit i,⟨t1,T,H1⟩):=by have:some (Ex.exit i,(⟨t1,T,H1⟩:St))=some x:=an;exact(Option.some.inj this).symm
  subst this
  exact j4 (a1v (a1B O U)) _ _ _ Z⟩
def inR(lo hi:Nat)(ex:List Nat)(j:Nat):Bool:=(Nat.ble lo j&&Nat.ble j hi)||memB j ex
def hav(lo hi:Nat)(ex:List Nat)(g f:Fn):Fn:=λj=>bif inR lo hi ex j then g j else f j
structure Leaves(lo hi:Nat)(ex:List Nat)(f f':Fn):Prop where
 out: ∀j,inR lo hi ex j=false->f' j=f j
theorem Leaves.refl{lo hi ex f}:Leaves lo hi ex f f:=⟨λ_ _=>rfl⟩
theorem Leaves.upd{lo hi ex f O i v}(T:inR lo hi ex i=true)(h:Leaves lo hi ex f O):Leaves lo hi ex f (upd O i v):=⟨λj E=>by
 unfold Go.R.upd;cases hb:Nat.beq i j with
 |true=>have:=a0a hb;subst this;rw[T]at E;cases E
 |false=>exact h.out j E⟩
theorem Leaves.eq{lo hi ex f E}(h:Leaves lo hi ex f E):E=hav lo hi ex E f:=by
 funext j;unfold hav;cases hb:inR lo hi ex j with
 |true=>rfl
 |false=>exact h.out j hb
theorem dq{id ops O}(lo hi:Nat)(ex:List Nat)(l:List (Nat×Value))(T:Heap->Prop)
  (U:WK P G K sz (.region id ops O) [] f H λe E H'=>e= .normal/\T H'/\Leaves lo hi ex f E/\aI E l)
  (Z: ∀g H',T H'->WK P G K sz .skip k (hY (hav lo hi ex g f) l) H' Q):WK P G K sz (.region id ops O) k f H Q:=by
 refine wk_cut U ?_ ?_ ?_
 ·rintro E H' ⟨_,hH,hl,ha⟩;have:=Z E H' hH;rw[←hl.eq,gz ha]at this;exact this
 ·rintro i E H' ⟨h,_⟩;cases h
 rintro E H' ⟨h,_⟩;cases h
end
inductive ID where
 |v
 |a
 |r
 |l (b:Nat)
 |x (W:List Nat)
 |q (S:Nat->Prop)
 |n (B:Nat)
 |s (W:List Nat)
def ID.fits:ID->Inf->Prop
 | .v,g=>g= .v
 | .a,g=> ∃b,g= .a b
 | .r,g=>iB g=true
 | .l b,g=>g= .l b
 | .x W,g=> ∃w,g= .x w/\∀b,b∈w->b∈W
 | .q S,g=>g= .v\/∃b,g= .l b/\S b
 | .n B,g=> ∃b,g= .a b/\B<=b
 | .s W,g=> ∃w,g= .x w/\∀b,b∈w->b∈W
def ID.nilW:List Nat->Prop
 | []=>True
 |_=>False
def cD:ID->ID->Prop
 | .v,_=>True
 |_,.v=>True
 | .q S,.x W=> ∀b,b∈W->¬S b
 | .x W,.q S=> ∀b,b∈W->¬S b
 | .l b,.x W=>b∉W
 | .x W,.l b=>b∉W
 | .x W,.x U=>ID.nilW W/\ID.nilW U
 | .n B,.x W=> ∀b,b∈W->b<B
 | .x _,.n _=>True
 | .a,.x W=>ID.nilW W
 | .r,.x W=>ID.nilW W
 | .x _,.a=>True
 | .x W,.r=>ID.nilW W
 |_,_=>True
def ID.u:ID->ID
 | .s W=> .x W
 |d=>d
def cE(ops:Array Oper)(j i:Nat):ID->ID->Prop
 | .s W,.s U=>stAt ops j=true/\stAt ops i=true/\∀b,b∈W->b∉U
 |e,d=>cD e.u d.u
theorem ID.fits_u: ∀{d:ID} {g:Inf},d.fits g->d.u.fits g
 | .v,_,h=>h
 | .a,_,h=>h
 | .r,_,h=>h
 | .l _,_,h=>h
 | .x _,_,h=>h
 | .q _,_,h=>h
 | .n _,_,h=>h
 | .s _,_,h=>h
theorem eH{b}: ∀{l:List Nat},b∉l->memB b l=false
 | [],_=>rfl
 |c::l,h=>by
  simp only[a0n,not_or]at h;unfold memB;have:Nat.beq b c=false:=by
   cases hb:Nat.beq b c with
   |false=>rfl
   |true=>exact absurd (a0a hb) h.1
  rw[this,eH h.2];rfl
theorem bS: ∀{d:ID} {g:Inf},d.fits g->(∀W,d≠ .x W)->(∀W,d≠ .s W)->iB g=true
 | .v,_,h,_,_=>by subst h;rfl
 | .a,_,⟨_,h⟩,_,_=>by subst h;rfl
 | .r,_,h,_,_=>h
 | .l _,_,h,_,_=>by subst h;rfl
 | .x W,_,_,h,_=>absurd V (h W)
 | .q _,_,h,_,_=>by rcases h with rfl|⟨_,rfl,_⟩<;>rfl
 | .n _,_,h,_,_=>by obtain⟨_,rfl,_⟩:=h;rfl
 | .s W,_,_,_,h=>absurd V (h W)
theorem fK{W g}(h:ID.nilW W)(E:ID.fits (.x W) g):iB g=true:=by
 obtain⟨w,rfl,O⟩:=E;cases W with
 |nil=>
  cases w with
  |nil=>rfl
  |cons a t=>have:=O a (by simp);simp at this
 |cons _ _=>exact absurd h id
theorem compat_of{d e f g}(hd:d.fits f)(E:e.fits g)(h:cD d e)(O: ∀W,d≠ .s W)(T: ∀W,e≠ .s W):dZ f g=true:=by
 have key:iB f=true->iB g=true->dZ f g=true:=pK;cases d with
 |v=>rw[show f= .v from hd];rfl
 |a=>
  cases e with
  |x W=>exact key (bS hd (by intro W h;cases h) O) (fK h E)
  |v=>rw[show g= .v from E];cases f<;>rfl
  |_=>exact key (bS hd (by intro W h;cases h) O) (bS E (by intro W h;cases h) T)
 |r=>
  cases e with
  |x W=>exact key (bS hd (by intro W h;cases h) O) (fK h E)
  |v=>rw[show g= .v from E];cases f<;>rfl
  |_=>exact key (bS hd (by intro W h;cases h) O) (bS E (by intro W h;cases h) T)
 |l b=>
  cases e with
  |x W=>
   obtain⟨w,rfl,Z⟩:=E
   rw[show f= .l b from hd]
   show(!memB b w)=true
   rw[eH λhb=>h (Z b hb)];rfl
  |v=>rw[show g= .v from E];cases f<;>rfl
  |_=>exact key (bS hd (by intro W h;cases h) O) (bS E (by intro W h;cases h) T)
 |x W=>
  cases e with
  |v=>rw[show g= .v from E];cases f<;>rfl
  |a=>obtain⟨b,rfl⟩:=E;obtain⟨w,rfl,_⟩:=hd;rfl
  |n B=>obtain⟨b,rfl,_⟩:=E;obtain⟨w,rfl,_⟩:=hd;rfl
  |r=>exact key (fK h hd) E
  |q S=>
   obtain⟨w,rfl,Z⟩:=hd
   rcases E with rfl|⟨b,rfl,hb⟩
   ·rfl
   show(!memB b w)=true
   rw[eH λhm=>h b (Z b hm) hb];rfl
  |l b=>
   obtain⟨w,rfl,Z⟩:=hd
   rw[show g= .l b from E]
   show(!memB b w)=true
   rw[eH λhb=>h (Z b hb)];rfl
  |x U=>exact key (fK h.1 hd) (fK h.2 E)
  |s U=>exact absurd V (T U)
 |q S=>
  cases e with
  |x W=>
   obtain⟨w,rfl,Z⟩:=E
   rcases hd with rfl|⟨b,rfl,hb⟩
   ·rfl
   show(!memB b w)=true
   rw[eH λhm=>h b (Z b hm) hb];rfl
  |v=>rw[show g= .v from E];cases f<;>rfl
  |_=>exact key (bS hd (by intro W h;cases h) O) (bS E (by intro W h;cases h) T)
 |n B=>
  cases e with
  |x W=>
   obtain⟨w,rfl,Z⟩:=E
   obtain⟨b,rfl,hb⟩:=hd
   show(!memB b w)=true
   rw[eH λhm=>absurd (h b (Z b hm)) (Nat.not_lt_of_le hb)];rfl
  |v=>rw[show g= .v from E];cases f<;>rfl
  |_=>exact key (bS hd (by intro W h;cases h) O) (bS E (by intro W h;cases h) T)
 |s W=>exact absurd V (O W)
theorem ID.u_ns(d:ID)(W:List Nat):d.u≠ .s W:=by cases d<;>(intro q;cases q)
theorem disj_of{w u}:(∀b,b∈w->b∉u)->disjL w u=true:=by
 induction w with
 |nil=>intro _;rfl
 |cons b w ih=>
  intro h
  unfold disjL
  rw[eH (h b (by simp)),ih λc hc=>h c (by simp[hc])];rfl
theorem cE_ok{ops j i d e f g}(O:e.fits g)(hd:d.fits f)(h:cE ops j i e d):(dZ g f||stst ops j i g f)=true:=by
 rw[a0E];have key:cD e.u d.u->dZ g f=true:=λh=>compat_of (ID.fits_u O) (ID.fits_u hd) h e.u_ns d.u_ns
 cases e with
 |s W=>
  cases d with
  |s U=>
   right
   have⟨T,Z,h3⟩:=h
   obtain⟨w,rfl,hw⟩:=O
   obtain⟨u,rfl,hu⟩:=hd
   unfold stst
   rw[T,Z]
   exact disj_of λb hb E=>h3 b (hw b hb) (hu b E)
  |_=>exact .inl (key h)
 |_=>cases d<;>exact .inl (key h)
def FsD:List (Nat×Inf)->List (Nat×ID)->Prop
 | [],[]=>True
 |(j,g)::fs,(i,d)::D=>j=i/\d.fits g/\FsD fs D
 |_,_=>False
def okD(ops:Array Oper)(i:Nat)(d:ID):List (Nat×ID)->Prop
 | []=>True
 |(j,e)::D=>(aY (cJ ops) j i=true\/cE ops j i e d)/\okD ops i d D
theorem eP{ops i d f}(E:d.fits f): ∀{fs:List (Nat×Inf)} {D:List (Nat×ID)},FsD fs D->okD ops i d D->cM ops (cJ ops) i f fs=true
 | [],[],_,_=>rfl
 |(j,g)::fs,(_,e)::D,⟨rfl,h2,h3⟩,⟨h4,h5⟩=>by
  unfold cM;rw[eP E h3 h5,a0D];rcases h4 with h4|h4
  ·rw[h4];rfl
  rw[a0E];exact .inr (cE_ok h2 E h4)
 | [],_::_,h,_=>absurd h id
 |_::_,[],h,_=>absurd h id
section
variable {P:Program} {G:Nat} {K:bJ} {sz:Nat} {Q:Ex->Fn->Heap->Prop} {ops:Array Oper} {D:List (Nat×ID)} {i:Nat} {os:List Oper} {k:List Fr} {f:Fn} {H H1:Heap} {v:Value}
 {d:Tmp} {op:Op} {ty:TypeId} {pos:String} {af:Array Edge}
structure WF2(P:Program)(G:Nat)(K:bJ)(sz:Nat)(ops:Array Oper)(D:List (Nat×ID))(i:Nat)(os:List Oper)(k:List Fr)(f:Fn)(H:Heap)(Q:Ex->Fn->Heap->Prop):Prop where
 out: ∀t fs,dC t=f->FsD fs D->∃n e s',runK P G K (n+1) k (eS (bz P G (call P G K n) ops i fs os ⟨t,sz,H⟩))=some (e,s')/\Q e (dC s'.tmps) s'.heap
theorem az{id}(T:(jU ops&&P.follows .mixedOrders)=true)(h:WF2 P G K sz ops [] 0 ops.toList k f H Q):WK P G K sz (.region id ops true) k f H Q:=⟨λt U=>by
 have⟨n,e,Z,E,O⟩:=h.out t [] U trivial;refine⟨n,e,Z,?_,O⟩;have:nX P G K (n+1) (.region id ops true) ⟨t,sz,H⟩=eS (bz P G (call P G K n) ops 0 [] ops.toList ⟨t,sz,H⟩):=by show eS (cg P G (call P G K n) ops true ⟨t,sz,H⟩)=_;unfold cg;simp only[cond_true,T]
 rw[this];exact E⟩
theorem fE(h:WK P G K sz .skip k f H Q):WF2 P G K sz ops D i [] k f H Q:=⟨λt fs T _=>by
 have⟨n,e,U,E,O⟩:=h.out t T;exact⟨n,e,U,by unfold bz;exact E,O⟩⟩
def Did(ops:Array Oper)(f:Fn)(o:Oper)(n:Nat)(log:List Nat)(d:ID):Prop:= ∀t sz H,dC t=f->d.fits (fc ops o ⟨t,sz,H⟩ n log)
theorem did_v{o n log}(h:aR o.op=true):Did ops f o n log .v:=λ_ _ _ _=>infOf_value h
theorem did_a{o n log}(O:o.guard=none)(E:aR o.op=false)(h:eG o.op=true):Did ops f o n log .a:=λt sz H _=>by unfold fc aX;simp only[O,a1x,E,Bool.or_self,cond_false,h,cond_true];exact⟨_,V⟩
theorem did_n{o n log}(O:o.guard=none)(E:aR o.op=false)(h:eG o.op=true):Did ops f o n log (.n n):=λt sz H _=>by unfold fc aX;simp only[O,a1x,E,Bool.or_self,cond_false,h,cond_true];exact⟨_,V,a07 _⟩
theorem iz{dd}{lt:TypeId}{a n b o log}(ha:dE f a= .pointer (some ⟨b,o,none⟩)):Did ops f ⟨dd,.load lt a,ty,pos,af,none⟩ n log (.l b):=λt sz H E=>by
 have:dA t a= .pointer (some ⟨b,o,none⟩):=by rw[gi,E];exact ha
 unfold fc aX;simp only[a1x,a1c,cond_false,eG,aR,this];rfl
theorem iN{n b l}(h:b∈eN n l):b∈l/\b<n:=by
 induction l with
 |nil=>simp[eN]at h
 |cons c l ih=>
  unfold eN at h
  cases hb:Nat.ble n c with
  |true=>
   rw[hb]at h
   have:=ih h
   exact⟨a0c _ this.1,this.2⟩
  |false=>
   rw[hb]at h
   rcases a0n.1 h with rfl|h
   ·refine⟨a0m ..,?_⟩;rcases a0p b n with h1|h1
    ·exact h1
    rw[a0z h1]at hb;cases hb
   have:=ih h
   exact⟨a0c _ this.1,this.2⟩
theorem did_r{o n log}(h: ∀b,b∈log->n<=b):Did ops f o n log .r:=λt sz H _=>infOf_benign (below_nil h)
theorem mS{dd x ts n k m a log}(O:dE f x= .slice a k m):Did ops f ⟨dd,.call ⟨.builtin .len, #[x],ts⟩,ty,pos,af,none⟩ n log .v:=λt sz H E=>by
 have:dA t x= .slice a k m:=by rw[gi,E];exact O
 unfold fc aX;simp only[a1x,a1c,cond_false,eG,aR];show ID.fits .v (match eu (dA t) [x] with| [.slice _ _ _]=>Inf.v| [.string _]=> .v|_=> .x (eN n log));show ID.fits .v (match [dA t x] with| [.slice _ _ _]=>Inf.v| [.string _]=> .v|_=> .x (eN n log));rw[this];rfl
def ij:Op->Bool
 | .load _ _| .slice _ _ _ _ _| .call ⟨.builtin .len,_,_⟩=>false
 |o=> !aR o&& !eG o
theorem lF{o n log W}(h:Did ops f o n log (.x W)):Did ops f o n log (.s W):=λt sz H E=>h t sz H E
theorem dl{o n log W}(Z:o.guard=none)(E:ij o.op=true)(h: ∀b,b∈log->n<=b\/b∈W):Did ops f o n log (.x W):=λt sz H _=>by
 have T:aR o.op=false/\eG o.op=false:=by
  unfold ij at E;split at E
  ·cases E
  ·cases E
  ·cases E
  simpa using E
 refine⟨eN n log,?_,λb hb=>?_⟩
 ·unfold fc aX;simp only[Z,a1x,T.1,T.2,Bool.or_self,cond_false];split
  ·rename_i O;rw[O]at E;cases E
  ·rename_i O;rw[O]at E;cases E
  ·rename_i O;rw[O]at E;cases E
  rfl
 have⟨U,h2⟩:=iN hb;rcases h b U with h3|h3
 ·omega
 exact h3
theorem wf_val{id}(ha:AP P (dE f) ⟨some d,op,ty,pos,af,none⟩ {H with log:=[]} (.val v,H1))(ho:op.operands.toList.all (bc G)=true)(hd:Nat.ble (d+1) sz=true)
  (T:Did ops f ⟨some d,op,ty,pos,af,none⟩ H.next H1.log id) (U:okD ops i id D)
  (h: ∀l,(∀b,b∈l->b∈H1.log\/b∈H.log)->WF2 P G K sz ops ((i,id)::D) (i+1) os k (upd f d v) {H1 with log:=l} Q):WF2 P G K sz ops D i (⟨some d,op,ty,pos,af,none⟩::os) k f H Q:=⟨λt fs O E=>by
 obtain⟨t',Z,h2⟩:=oC (P:=P) (G:=G) (ops:=ops) (t:=t) (sz:=sz) (o:=⟨some d,op,ty,pos,af,none⟩) V ho (by rw[O];exact ha.eq) hd
 have hi:=T t sz H O
 obtain⟨n,e,s',h3,h4⟩:=(h (eN H.next H1.log++H.log) (λb hb=>by
  rcases a0f.1 hb with hb|hb
  ·exact .inl (iN hb).1
  exact .inr hb)).out t' ((i,fc ops ⟨some d,op,ty,pos,af,none⟩ ⟨t,sz,H⟩ H.next H1.log)::fs) (by rw[h2,O];rfl) ⟨V,hi,E⟩
 refine⟨n,e,s',?_,h4⟩
 unfold bz ji
 rw[Z]
 simp only[eP hi E U,cond_true]
 exact h3⟩
theorem bh{id}(ha:AP P (dE f) ⟨some d,op,ty,pos,af,none⟩ {H with log:=[]} (.val v,{H with log:=[]}))(ho:op.operands.toList.all (bc G)=true)(hd:Nat.ble (d+1) sz=true)
  (T:Did ops f ⟨some d,op,ty,pos,af,none⟩ H.next [] id) (U:okD ops i id D)
  (h:WF2 P G K sz ops ((i,id)::D) (i+1) os k (upd f d v) H Q):WF2 P G K sz ops D i (⟨some d,op,ty,pos,af,none⟩::os) k f H Q:=⟨λt fs O E=>by
 obtain⟨t',Z,h2⟩:=oC (P:=P) (G:=G) (ops:=ops) (t:=t) (sz:=sz) (o:=⟨some d,op,ty,pos,af,none⟩) V ho (by rw[O];exact ha.eq) hd
 have hi:=T t sz H O
 obtain⟨n,e,s',h3,h4⟩:=h.out t' ((i,fc ops ⟨some d,op,ty,pos,af,none⟩ ⟨t,sz,H⟩ H.next [])::fs) (by rw[h2,O];rfl) ⟨V,hi,E⟩
 refine⟨n,e,s',?_,h4⟩
 unfold bz ji
 rw[Z]
 simp only[eP hi E U,cond_true,eN,a0o]
 exact h3⟩
theorem wf_skip{id}(ha:AP P (dE f) ⟨none,op,ty,pos,af,none⟩ {H with log:=[]} (.skip,H1))(ho:op.operands.toList.all (bc G)=true)
  (T:Did ops f ⟨none,op,ty,pos,af,none⟩ H.next H1.log id) (U:okD ops i id D)
  (h: ∀l,(∀b,b∈l->b∈H1.log\/b∈H.log)->WF2 P G K sz ops ((i,id)::D) (i+1) os k f {H1 with log:=l} Q):WF2 P G K sz ops D i (⟨none,op,ty,pos,af,none⟩::os) k f H Q:=⟨λt fs O E=>by
 obtain⟨t',Z,h2⟩:=step_skip (P:=P) (G:=G) (ops:=ops) (t:=t) (sz:=sz) (o:=⟨none,op,ty,pos,af,none⟩) V ho (by rw[O];exact ha.eq) V
 have hi:=T t sz H O
 obtain⟨n,e,s',h3,h4⟩:=(h (eN H.next H1.log++H.log) (λb hb=>by
  rcases a0f.1 hb with hb|hb
  ·exact .inl (iN hb).1
  exact .inr hb)).out t' ((i,fc ops ⟨none,op,ty,pos,af,none⟩ ⟨t,sz,H⟩ H.next H1.log)::fs) (by rw[h2,O];rfl) ⟨V,hi,E⟩
 refine⟨n,e,s',?_,h4⟩
 unfold bz ji
 rw[Z]
 simp only[eP hi E U,cond_true]
 exact h3⟩
theorem bH{W g args R}(ha:AP P (dE f) ⟨some d,op,ty,pos,af,none⟩ {H with log:=[]} (.enter g args,{H with log:=[]}))(ho:op.operands.toList.all (bc G)=true)(hd:Nat.ble (d+1) sz=true)(hk:ij op=true)
  (hc:C P G K g args {H with log:=[]} R) (a1:okD ops i (.x W) D)
  (h: ∀v E,R v E->(∀b,b∈E.log->H.next<=b\/b∈W)/\∀l,(∀b,b∈l->b∈E.log\/b∈H.log)->WF2 P G K sz ops ((i,.x W)::D) (i+1) os k (upd f d v) {E with log:=l} Q):WF2 P G K sz ops D i (⟨some d,op,ty,pos,af,none⟩::os) k f H Q:=⟨λt fs ht Z=>by
 obtain⟨T,v,E,aA,hr⟩:=hc.out
 obtain⟨al,h0⟩:=h v E hr
 obtain⟨t',h1,h2⟩:=kW (s:=⟨t,sz,E⟩) (d:=some d) (v:=v) hd
 have hi:=dl (ops:=ops) (f:=f) (o:=⟨some d,op,ty,pos,af,none⟩) V hk al t sz H ht
 obtain⟨O,e,s',h3,h4⟩:=(h0 (eN H.next E.log++H.log) (λb hb=>by
  rcases a0f.1 hb with hb|hb
  ·exact .inl (iN hb).1
  exact .inr hb)).out t' ((i,fc ops ⟨some d,op,ty,pos,af,none⟩ ⟨t,sz,H⟩ H.next E.log)::fs) (by rw[h2,ht];rfl) ⟨V,hi,Z⟩
 refine⟨Nat.max T O,e,s',?_,h4⟩
 have a2:step P G (call P G K (Nat.max T O)) ops ⟨some d,op,ty,pos,af,none⟩ ⟨t,sz,{H with log:=[]}⟩=some ⟨t',sz,E⟩:=by unfold step aX;simp only[cond_true,ho,gi,ht,ha.eq,gG (a1B T O) _ _ _ _ aA];exact h1
 unfold bz ji
 rw[a2]
 simp only[eP hi Z a1,cond_true]
 refine eU (a1v (a1d T O)) k _ _ (λx U=>?_) _ h3
 cases hq:bz P G (call P G K O) ops (i+1) ((i,fc ops ⟨some d,op,ty,pos,af,none⟩ ⟨t,sz,H⟩ H.next E.log)::fs) os ⟨t',sz,{E with log:=eN H.next E.log++H.log}⟩ with
 |none=>rw[hq]at U;cases U
 |some y=>
  have:=fY (gG (P:=P) (G:=G) (K:=K) (a1d T O)) _ _ _ _ _ hq
  rw[hq]at U
  rw[this];exact U⟩
theorem inf_guard{t v want j dd}(T:dC t=f)(Z:cZ ops f j=some v)(U:v=want)(sz:Nat)(H:Heap)(n:Nat)(log:List Nat):
  fc ops ⟨dd,op,ty,pos,af,some (j,want)⟩ ⟨t,sz,H⟩ n log=fc ops ⟨dd,op,ty,pos,af,none⟩ ⟨t,sz,H⟩ n log:=by
 have E:aX ops ⟨dd,op,ty,pos,af,some (j,want)⟩ t=true:=by rw[jP T Z _ V,U];cases want<;>rfl
 have O:aX ops ⟨dd,op,ty,pos,af,none⟩ t=true:=rfl
 unfold fc
 simp only[E,O]
theorem eg{v want j dd}(hy:cZ ops f j=some v)(Z:v=want)(h:WF2 P G K sz ops D i (⟨dd,op,ty,pos,af,none⟩::os) k f H Q):WF2 P G K sz ops D i (⟨dd,op,ty,pos,af,some (j,want)⟩::os) k f H Q:=⟨λt fs O T=>by
 have⟨n,e,s',E,h2⟩:=h.out t fs O T;refine⟨n,e,s',?_,h2⟩;unfold bz ji at E⊢;rw[nD O hy Z];cases U:step P G (call P G K n) ops ⟨dd,op,ty,pos,af,none⟩ ⟨t,sz,{H with log:=[]}⟩ with
 |none=>rw[U]at E;exact E
 |some s1=>
  rw[U]at E
  simp only[inf_guard O hy Z]
  exact E⟩
theorem lX{want}{j:Nat}(hw: ∀t,dC t=f->aX ops ⟨some d,op,ty,pos,af,some (j,want)⟩ t=false)(hd:Nat.ble (d+1) sz=true)
  (h:WF2 P G K sz ops ((i,.v)::D) (i+1) os k (upd f d undef) H Q):WF2 P G K sz ops D i (⟨some d,op,ty,pos,af,some (j,want)⟩::os) k f H Q:=⟨λt fs U O=>by
 have⟨Z,h3,h4⟩:=kW (s:=⟨t,sz,{H with log:=[]}⟩) (d:=some d) (v:=undef) hd
 have E:=hw t U
 have hi:fc ops ⟨some d,op,ty,pos,af,some (j,want)⟩ ⟨t,sz,H⟩ H.next []= .v:=by unfold fc;simp only[E,a1K,a1T,cond_true]
 have⟨n,e,s',h1,h2⟩:=h.out Z ((i,.v)::fs) (by rw[h4,U];rfl) ⟨V,V,O⟩
 refine⟨n,e,s',?_,h2⟩
 have T:step P G (call P G K n) ops ⟨some d,op,ty,pos,af,some (j,want)⟩ ⟨t,sz,{H with log:=[]}⟩=some ⟨Z,sz,{H with log:=[]}⟩:=by unfold step;simp only[E,cond_false];exact h3
 have hc:cM ops (cJ ops) i .v fs=true:=lq λj g _=>by cases g<;>simp[dZ]
 unfold bz ji
 rw[T]
 simp only[hi,hc,cond_true,eN,a0o]
 exact h1⟩
theorem eh{v want j}(T:cZ ops f j=some v)(O:v= !want)(hd:Nat.ble (d+1) sz=true)(h:WF2 P G K sz ops ((i,.v)::D) (i+1) os k (upd f d undef) H Q):
  WF2 P G K sz ops D i (⟨some d,op,ty,pos,af,some (j,want)⟩::os) k f H Q:=
 lX (λt E=>by rw[jP E T _ V,O];cases want<;>rfl) hd h
theorem wf_gn{want j}(O:cZ ops f j=none)(hd:Nat.ble (d+1) sz=true)(h:WF2 P G K sz ops ((i,.v)::D) (i+1) os k (upd f d undef) H Q):
  WF2 P G K sz ops D i (⟨some d,op,ty,pos,af,some (j,want)⟩::os) k f H Q:=
 lX (λt E=>by
  unfold aX;have:ny ops t j=none:=by rw[←O,←E];rfl
  simp only[this];cases want<;>rfl) hd h
theorem wf_gsT{v j}(E:cZ ops f j=some v)(hd:Nat.ble (d+1) sz=true)(O:v=true->WF2 P G K sz ops D i (⟨some d,op,ty,pos,af,none⟩::os) k f H Q)(T:v=false->WF2 P G K sz ops ((i,.v)::D) (i+1) os k (upd f d undef) H Q):
  WF2 P G K sz ops D i (⟨some d,op,ty,pos,af,some (j,true)⟩::os) k f H Q:=by
 cases v with
 |true=>exact eg E V (O V)
 |false=>exact eh E V hd (T V)
theorem wf_gsF{v j}(E:cZ ops f j=some v)(hd:Nat.ble (d+1) sz=true)(O:v=false->WF2 P G K sz ops D i (⟨some d,op,ty,pos,af,none⟩::os) k f H Q)(T:v=true->WF2 P G K sz ops ((i,.v)::D) (i+1) os k (upd f d undef) H Q):
  WF2 P G K sz ops D i (⟨some d,op,ty,pos,af,some (j,false)⟩::os) k f H Q:=by
 cases v with
 |true=>exact eh E V hd (T V)
 |false=>exact eg E V (O V)
end
theorem lA{n:Int}(h:in64 n):IntKind.i64.wrap n=n:=by
 have e:IntKind.i64.wrap n=if(true&&decide (n%(2^64:Int)>=(2^63:Int))) then n%(2^64:Int)-(2^64:Int) else n%(2^64:Int):=rfl
 rw[e];have⟨O,T⟩:=h;by_cases E:0<=n
 ·rw[Int.emod_eq_of_lt E M];have:decide (n>=(2^63:Int))=false:=decide_eq_false M;rw[this];rfl
 have:n%(2^64:Int)=n+2^64:=M
 rw[this];have:decide (n+2^64>=(2^63:Int))=true:=decide_eq_true M;rw[this];simp only[a1w,if_true];omega
theorem oy{n:Int}(h:0<=n/\n<18446744073709551616):IntKind.u64.wrap n=n:=by show n%(2^64:Int)=n;exact Int.emod_eq_of_lt h.1 M
theorem w_u8{n:Int}(h:0<=n/\n<256):IntKind.u8.wrap n=n:=by show n%(2^8:Int)=n;exact Int.emod_eq_of_lt h.1 M
theorem gA(b:UInt8):(b.toNat:Int)<256:=by have:=UInt8.toNat_lt b;omega
section
variable {α:Type} [Rp α] {P:Program} {ρ:Operand->Value} {d:Option Tmp} {ty:TypeId} {pos:String} {af:Array Edge} {gd:Option (Nat×Bool)} {B:Base} {F:Fz} {H:Heap} {L R:List Fp} {v:Value} {l:List α} {p:Fp}
variable {t yt:TypeId} {x y:Operand} {k:IntKind} {a b c:Int}
theorem dR(k:IntKind):hN k k=true:=by cases k<;>rfl
theorem iC(O:ρ x= .int k a)(T:ρ y= .int k b)(E:k.wrap (a+b)=c):AP P ρ ⟨d,.binOp .add t x y yt,ty,pos,af,gd⟩ H (.val (.int k c),H):=
 kc O T (by subst E;show(bif hN k k then _ else none:Option Value)=_;rw[dR];rfl)
theorem ap_sub(O:ρ x= .int k a)(T:ρ y= .int k b)(E:k.wrap (a-b)=c):AP P ρ ⟨d,.binOp .sub t x y yt,ty,pos,af,gd⟩ H (.val (.int k c),H):=
 kc O T (by subst E;show(bif hN k k then _ else none:Option Value)=_;rw[dR];rfl)
theorem ap_mul(O:ρ x= .int k a)(T:ρ y= .int k b)(E:k.wrap (a *b)=c):AP P ρ ⟨d,.binOp .mul t x y yt,ty,pos,af,gd⟩ H (.val (.int k c),H):=
 kc O T (by subst E;show(bif hN k k then _ else none:Option Value)=_;rw[dR];rfl)
theorem ap_div(O:ρ x= .int k a)(T:ρ y= .int k b)(hb:b≠0)(E:k.wrap (a.tdiv b)=c):AP P ρ ⟨d,.binOp .quo t x y yt,ty,pos,af,gd⟩ H (.val (.int k c),H):=by subst E;exact ap_quo O T (dR k) (by simpa using hb)
theorem ap_mod(O:ρ x= .int k a)(T:ρ y= .int k b)(hb:b≠0)(E:a.tmod b=c):AP P ρ ⟨d,.binOp .rem t x y yt,ty,pos,af,gd⟩ H (.val (.int k c),H):=by subst E;exact ap_rem O T (dR k) (by simpa using hb)
theorem ap_cv{s:TypeId}{E:IntKind}{u:TypeDesc}(U:ρ x= .int k a)(hs:P.underlying s=some u)(O:P.underlying t=some (.int E))(T:E.wrap a=c):
  AP P ρ ⟨d,.convert s t x,ty,pos,af,gd⟩ H (.val (.int E c),H):=by subst T;exact ap_conv U hs O
theorem ap_ng(O:ρ x= .int k a)(E:k.wrap (0-a)=c):AP P ρ ⟨d,.unOp .neg t x,ty,pos,af,gd⟩ H (.val (.int k c),H):=by subst E;exact ap_neg O
theorem bK{op r}(O:ρ x= .int k a)(T:ρ y= .int k b)(E:nP op k a b=some (.bool r))(hs:mL op=false):AP P ρ ⟨d,.binOp op t x y yt,ty,pos,af,gd⟩ H (.val (.bool r),H):=
 kc O T (by rw[hs,dR];exact E)
variable {s u:List UInt8}
theorem gv{i}{O:IntKind}{j:Int}{E}(Z:ρ x= .string ⟨⟨s⟩⟩)(hi:ρ i= .int O j)(U:P.underlying t=some .string)(T:0<=j)(hc:s[j.toNat]?=some E):
  AP P ρ ⟨d,.index t x i,ty,pos,af,gd⟩ H (.val (.int .u8 E.toNat),H):=by
 refine⟨?_⟩
 obtain⟨m,rfl⟩:=a0T T
 show ne P t (ρ x) (ρ i) H=_
 rw[Z,hi]
 show ovl (strAt P t ⟨⟨s⟩⟩ (.int O (Int.ofNat m))) H=_
 unfold strAt
 rw[U]
 show ovl (match nth s m with|some b=>some (.int .u8 b.toNat)|none=>none) H=_
 rw[hM]
 have:s[m]?=some E:=hc
 rw[this];rfl
theorem ap_eqS(E:ρ x= .string ⟨⟨s⟩⟩)(O:ρ y= .string ⟨⟨u⟩⟩):AP P ρ ⟨d,.binOp .eql t x y yt,ty,pos,af,gd⟩ H (.val (.bool (s==u)),H):=ap_str E O V
theorem ap_neS(E:ρ x= .string ⟨⟨s⟩⟩)(O:ρ y= .string ⟨⟨u⟩⟩):AP P ρ ⟨d,.binOp .neq t x y yt,ty,pos,af,gd⟩ H (.val (.bool (s !=u)),H):=ap_str E O V
theorem ap_leS(E:ρ x= .string ⟨⟨s⟩⟩)(O:ρ y= .string ⟨⟨u⟩⟩):AP P ρ ⟨d,.binOp .leq t x y yt,ty,pos,af,gd⟩ H (.val (.bool (Op.bytesLess s u||s==u)),H):=ap_str E O V
theorem ap_ltS(E:ρ x= .string ⟨⟨s⟩⟩)(O:ρ y= .string ⟨⟨u⟩⟩):AP P ρ ⟨d,.binOp .lss t x y yt,ty,pos,af,gd⟩ H (.val (.bool (Op.bytesLess s u)),H):=ap_str E O V
theorem pL(O:ρ x= .string ⟨⟨s⟩⟩)(T:ρ y= .string ⟨⟨u⟩⟩)(E:J s+J u<=1099511627776):AP P ρ ⟨d,.binOp .add t x y yt,ty,pos,af,gd⟩ H (.val (.string ⟨⟨s++u⟩⟩),H):=
 ap_str O T (by
  show(bif Nat.ble (fU (lU s u)) 1099511627776 then some (Value.string ⟨⟨lU s u⟩⟩) else none)=_;rw[eO,bp,a00,a0z E];rfl)
theorem pI{n k i j lo hi}(O:cy n hi=some j)(T:cy 0 lo=some i)(E:i<=j)(U:j<=k):bnds n k lo hi=some (i,j):=by unfold bnds;simp only[O,T,a0z E,a0z U,a1w,cond_true]
theorem optN{d}{O:IntKind}{j:Int}(E:0<=j):cy d (some (.int O j))=some j.toNat:=by obtain⟨m,rfl⟩:=a0T E;rfl
theorem optN0{d}:cy d none=some d:=rfl
theorem ap_slS{lo hi i j}(hx:ρ x= .string ⟨⟨s⟩⟩)(Z:P.underlying t=some .string)(O:cy (J s) (hi.map ρ)=some j)(T:cy 0 (lo.map ρ)=some i)(E:i<=j)(U:j<=J s):
  AP P ρ ⟨d,.slice t x lo hi none,ty,pos,af,gd⟩ H (.val (.string ⟨⟨(s.drop i).take (j-i)⟩⟩),H):=by
 refine⟨?_⟩
 show ovl (bC P t (ρ x) (lo.map ρ) (hi.map ρ) (Option.map ρ none) H) H=_
 rw[hx]
 unfold bC
 simp only[a1P,Z]
 show ovl (match bnds (fU s) (fU s) (lo.map ρ) (hi.map ρ) with|some (l,r)=>some (.string ⟨⟨eB (eK s l) (r-l)⟩⟩)|none=>none) H=_
 rw[bp,pI O T E U]
 simp only[bL,bX];rfl
theorem Sl_cut{F:Fz}{o:AObj}{off k i j:Nat}{l:List α}(h:Sl F o off k l)(aA:i<=j)(hj:j<=l.length):Sl F o (off+i *Rp.sz α) (k-i) ((l.take j).drop i):=by
 obtain⟨cs,Z,ro,rfl,O,h2,T,h4⟩:=h;have hl:=T.length;have E:((l.take j).drop i).length=j-i:=by simp;omega
 refine⟨cs,Z,ro,V,λU=>?_,by rw[E];omega,?_,h4⟩
 ·replace O:=O U;have:i *Rp.sz α+(k-i) *Rp.sz α=k *Rp.sz α:=by rw[←a10];congr 1;omega
  omega
 have h5:=(T.take j).drop i;have e:((cs.drop (off+i *Rp.sz α)).take (((l.take j).drop i).length *Rp.sz α))=(((cs.drop off).take (l.length *Rp.sz α)).take (j *Rp.sz α)).drop (i *Rp.sz α):=by rw[E,List.take_take,a27,a1F];congr 1;have:j *Rp.sz α<=l.length *Rp.sz α:=a0G _ hj;rw[Nat.min_eq_left this,Nat.sub_mul]
 rw[e];exact h5
theorem Sl_at0{F:Fz}{o:AObj}{off k:Nat}{l:List α}(h:Sl F o off k l):Sl F o off 0 ([]:List α):=by obtain⟨cs,O,Z,rfl,T,h2,h3,U⟩:=h;exact⟨cs,O,Z,V,λE=>(by have:=T E;omega),a07 _,by simp[RL],U⟩
theorem cut_val{lo hi:Option Operand}{t e:TypeId}{i j off k bb:Nat}{o:AObj}(hx:ρ x= .slice (some ⟨bb,off,none⟩) l.length k)(ht:P.underlying t=some (.slice e))(hz:dL P e=some (Rp.sz α))(hb:H.get bb=some o)(h:Sl F o off k l)
  (h1:cy l.length (hi.map ρ)=some j) (h2:cy 0 (lo.map ρ)=some i) (an:i<=j) (hj:j<=l.length):
  ∃U k',AP P ρ ⟨d,.slice t x lo hi none,ty,pos,af,gd⟩ H (.val (.slice (some ⟨bb,U,none⟩) ((l.take j).drop i).length k'),H)/\Sl F o U k' ((l.take j).drop i):=by
 obtain⟨cs,ar,ro,rfl,g1,g2,g3,g4⟩:=h
 have E:((l.take j).drop i).length=j-i:=by simp;omega
 have T:=Sl_cut (F:=F) (o:= .cells cs ar ro) ⟨cs,ar,ro,V,g1,g2,g3,g4⟩ an hj
 have Z: ∀w,bC P t (.slice (some ⟨bb,off,none⟩) l.length k) (lo.map ρ) (hi.map ρ) none H=some w->AP P ρ ⟨d,.slice t x lo hi none,ty,pos,af,gd⟩ H (.val w,H):=by intro w hw;refine⟨?_⟩;show ovl (bC P t (ρ x) (lo.map ρ) (hi.map ρ) (Option.map ρ none) H) H=_;rw[hx,a1P,hw];rfl
 have O:=pI (n:=l.length) (k:=k) h1 h2 an (a0i hj g2)
 rcases g4 with rfl|rfl
 ·cases hk:Nat.beq k i with
  |true=>
   have a8:=a0a hk
   have e0:(l.take j).drop i=[]:=a0e (by rw[E];omega)
   refine⟨off,k-i,Z _ ?_,?_⟩
   ·unfold bC;simp only[ht,O,hz,hb,hk,cond_true,E]
   rw[e0,a8,a24]
   exact Sl_at0 ⟨cs,_,ro,V,g1,g2,g3,.inl V⟩
  |false=>
   refine⟨_,_,Z _ ?_,T⟩
   unfold bC
   simp only[ht,O,hz,hb,hk,cond_false,E]
 refine⟨_,_,Z _ ?_,T⟩
 unfold bC
 simp only[ht,O,hz,hb,a0Y,cond_true,E]
theorem nil_cut{lo hi}{t e:TypeId}{i j sz}(hx:ρ x= .slice none 0 0)(ht:P.underlying t=some (.slice e))(hz:dL P e=some sz)(T:cy 0 (hi.map ρ)=some j)(U:cy 0 (lo.map ρ)=some i)(O:i<=j)(Z:j<=0):
  AP P ρ ⟨d,.slice t x lo hi none,ty,pos,af,gd⟩ H (.val (.slice none 0 0),H):=by
 refine⟨?_⟩
 show ovl (bC P t (ρ x) (lo.map ρ) (hi.map ρ) (Option.map ρ none) H) H=_
 rw[hx]
 unfold bC
 have E:=pI (n:=0) (k:=0) T U O Z
 simp only[a1P,ht,E,hz,Option.isSome_some,cond_true]
 rfl
theorem sr_cut{lo hi}{t e:TypeId}{i j:Nat}(h:SR F v l)(hs:HS B F H L R)(hx:ρ x=v)(ht:P.underlying t=some (.slice e))(hz:dL P e=some (Rp.sz α))
  (T:cy l.length (hi.map ρ)=some j) (U:cy 0 (lo.map ρ)=some i) (E:i<=j) (Z:j<=l.length):
  ∃a k,AP P ρ ⟨d,.slice t x lo hi none,ty,pos,af,gd⟩ H (.val (.slice a ((l.take j).drop i).length k),H)/\SR F (.slice a ((l.take j).drop i).length k) ((l.take j).drop i):=by
 rcases h with⟨rfl,rfl⟩|⟨b,off,k,o,rfl,O,g2⟩
 ·have e0:(([]:List α).take j).drop i=[]:=by simp
  rw[e0];exact⟨_,0,nil_cut hx ht hz T U E (by simpa using Z),SR.nil⟩
 obtain⟨a4,k',h3,h4⟩:=cut_val hx ht hz (hs.fz b o O).1 g2 T U E Z
 exact⟨_,k',h3,.inr ⟨b,_,k',o,V,O,h4⟩⟩
theorem os_lit{t:TypeId}{n:Nat}{z E cells}(hs:HS B F H L R)(hi:ej P t=some (Rp.sz α,z))(hn:Nat.ble (n *Rp.sz α) 16777216=true)
  (U:Instr.fill (λi=>some (i *Rp.sz α,Rp.sz α)) ⟨dY n z⟩ (eu (λp=>(p.1,ρ p.2)) E.toList)=some ⟨cells⟩) (O:RL F cells l) (Z:l.length=n):
  ∃a H1 T,AP P ρ ⟨d,.buildSlice t n E,ty,pos,af,gd⟩ H (.val (.slice a n n),H1)/\OS F (.slice a n n) l T/\HS B F H1 (L++[T]) R/\∀b,b∈H1.log->b∈H.log:=by
 subst Z
 refine⟨_,_,[(_,.cells cells _ _)],ke hi hn U,?_,hs.push _,λb hb=>by simpa using hb⟩
 have:=O.length
 exact .inr ⟨_,0,_,_,_,V,V,_,_,_,V,λ_=>M,a07 _,by rw[a0R,←this,a0W];exact O,.inl V⟩
theorem ap_app{E O}{st T:TypeId}{u w H1}(Z:ρ E=v)(hy:ρ O=u)(U:hE P #[st,T] v u H=some (w,H1)):AP P ρ ⟨d,.call ⟨.builtin .append, #[E,O], #[st,T]⟩,ty,pos,af,gd⟩ H (.val w,H1):=by refine⟨?_⟩;show ovh (hE P #[st,T] (ρ E) (ρ O) H)=_;rw[Z,hy,U];rfl
theorem os_app{s0 x0}{st e:TypeId}{u l2}{q O:Nat}{z}(h:OS F v l p)(hs:HS B F H L R)(hq:L[q]?=some p)(hx:ρ s0=v)(hy:ρ x0=u)(hu:Sv F H.get u l2)(ht:P.underlying st=some (.slice e))
  (hz:dL P e=some (Rp.sz α)) (Z:gW P e=some O) (ax:dm P e=some z) (ar:Nat.beq (fU z) (Rp.sz α)=true) (U:Nat.ble O 4096=true) (an:Nat.beq (Rp.sz α) 0=false) (T:l.length+l2.length<=2147483648):
  ∃a k H1 E,AP P ρ ⟨d,.call ⟨.builtin .append, #[s0,x0], #[st,st]⟩,ty,pos,af,gd⟩ H (.val (.slice a (l++l2).length k),H1)/\OS F (.slice a (l++l2).length k) (l++l2) E/\HS B F H1 (L.set q E) R:=by
 have⟨h1,new,h2,h3⟩:=hu.G9
 have⟨a,k,H1,E,h4,h5,h6⟩:=os_append (types:= #[st,st]) h hs hq (x:=u) V V ht ht (by intro k hk;cases hk) hz Z ax ar U an h1 h2 h3 T
 exact⟨a,k,H1,E,ap_app hx hy h4,h5,h6⟩
theorem os_st{t:TypeId}{a0 U j q off n b o w y Z cl}(h:OS F v l p)(hs:HS B F H L R)(hq:L[q]?=some p)(ha:ρ a0= .pointer (some ⟨b,o,none⟩))(hb:b=sB v)(ho:o=sO v+j *Rp.sz α+off)(hx:ρ U=w)(hn:dL P t=some n)(hc:w.cells.toList=cl)(hl:Nat.beq (J cl) n=true)
  (hy:l[j]?=some y) (h1:nw Value.oneCell' cl=true) (hr: ∀cs,Rp.rep F cs y->off+J cl<=J cs/\Rp.rep F (be cs off cl) Z):
  ∃H1 E,AP P ρ ⟨d,.store t a0 U,ty,pos,af,gd⟩ H (.skip,H1)/\OS F v (l.set j Z) E/\HS B F H1 (L.set q E) R/\∀b cs O,p=[(b,.cells cs O false)]->∃T,E=[(b,.cells T O false)]:=by
 subst hb ho
 have⟨H1,E,h2,h3,h4,h5⟩:=os_set h hs hq hy h1 hr
 exact⟨H1,E,ap_st ha hx hn hc hl h2,h3,h4,h5⟩
end
theorem agN{f}:aI f []:=trivial
theorem agC{f i v l}(h:f i=v)(t:aI f l):aI f ((i,v)::l):=⟨h,t⟩
theorem lC{ops i}: ∀D,okD ops i .v D
 | []=>trivial
 |(_,e)::D=>⟨.inr (by cases e<;>trivial),lC D⟩
def fcL{α β:Type}:List α->(List α->β)->β
 | [],k=>k []
 |a::l,k=>fcL l λr=>k (a::r)
theorem nU{α β:Type}: ∀(l:List α) (k:List α->β),fcL l k=k l
 | [],_=>rfl
 |_::l,_=>nU l _
structure Rs where
 v:Value
 H:Heap
 p:Fp
section
variable {P:Program} {G:Nat} {K:bJ} {sz:Nat} {Q:Ex->Fn->Heap->Prop} {ops:Array Oper} {D:List (Nat×ID)} {i:Nat} {os:List Oper} {k:List Fr} {f:Fn} {H H1:Heap} {v:Value}
 {d:Tmp} {op:Op} {ty:TypeId} {pos:String} {af:Array Edge} {Φ:Rs->Prop}
theorem bd(ha: ∃r:Rs,AP P (dE f) ⟨some d,op,ty,pos,af,none⟩ H (.val r.v,r.H)/\Φ r)(T:op.operands.toList.all (bc G)=true)(hd:Nat.ble (d+1) sz=true)
  (h: ∀v H1 p,Φ ⟨v,H1,p⟩->WO P G K sz ops os k (upd f d v) H1 Q):WO P G K sz ops (⟨some d,op,ty,pos,af,none⟩::os) k f H Q:=by
 have⟨⟨v,H1,p⟩,E,O⟩:=ha
 exact ad E T hd (h v H1 p O)
theorem gy(ha: ∃r:Rs,AP P (dE f) ⟨none,op,ty,pos,af,none⟩ H (.skip,r.H)/\Φ r)(T:op.operands.toList.all (bc G)=true)
  (h: ∀v H1 p,Φ ⟨v,H1,p⟩->WO P G K sz ops os k f H1 Q):WO P G K sz ops (⟨none,op,ty,pos,af,none⟩::os) k f H Q:=by
 have⟨⟨v,H1,p⟩,E,O⟩:=ha
 exact wo_skip E T (h v H1 p O)
theorem kv{id}(ha: ∃r:Rs,AP P (dE f) ⟨some d,op,ty,pos,af,none⟩ {H with log:=[]} (.val r.v,r.H)/\Φ r)(Z:op.operands.toList.all (bc G)=true)(hd:Nat.ble (d+1) sz=true)
  (O: ∀v H1 p,Φ ⟨v,H1,p⟩->Did ops f ⟨some d,op,ty,pos,af,none⟩ H.next H1.log id) (T:okD ops i id D)
  (h: ∀v H1 p,Φ ⟨v,H1,p⟩->∀l,(∀b,b∈l->b∈H1.log\/b∈H.log)->WF2 P G K sz ops ((i,id)::D) (i+1) os k (upd f d v) {H1 with log:=l} Q):
  WF2 P G K sz ops D i (⟨some d,op,ty,pos,af,none⟩::os) k f H Q:=by
 have⟨⟨v,H1,p⟩,U,E⟩:=ha
 exact wf_val U Z hd (O v H1 p E) T (h v H1 p E)
theorem ef{id}(ha: ∃r:Rs,AP P (dE f) ⟨none,op,ty,pos,af,none⟩ {H with log:=[]} (.skip,r.H)/\Φ r)(Z:op.operands.toList.all (bc G)=true)
  (O: ∀v H1 p,Φ ⟨v,H1,p⟩->Did ops f ⟨none,op,ty,pos,af,none⟩ H.next H1.log id) (T:okD ops i id D)
  (h: ∀v H1 p,Φ ⟨v,H1,p⟩->∀l,(∀b,b∈l->b∈H1.log\/b∈H.log)->WF2 P G K sz ops ((i,id)::D) (i+1) os k f {H1 with log:=l} Q):
  WF2 P G K sz ops D i (⟨none,op,ty,pos,af,none⟩::os) k f H Q:=by
 have⟨⟨v,H1,p⟩,U,E⟩:=ha
 exact wf_skip U Z (O v H1 p E) T (h v H1 p E)
end
section
variable {α:Type} [Rp α] {P:Program} {ρ:Operand->Value} {d:Option Tmp} {ty:TypeId} {pos:String} {af:Array Edge} {gd:Option (Nat×Bool)} {B:Base} {F:Fz} {H:Heap} {L R:List Fp} {v:Value} {l:List α} {p:Fp}
def Wr(H H1:Heap)(W:List Nat):Prop:= ∀b,b∈H1.log->b∈H.log\/H.next<=b\/b∈W
theorem Wr.did{H1 W}(h:Wr {H with log:=[]} H1 W): ∀b,b∈H1.log->H.next<=b\/b∈W:=λb hb=>by
 rcases h b hb with h|h|h
 ·simp at h
 ·exact .inl h
 exact .inr h
theorem Wr.nil{H1}(h: ∀b,b∈H1.log->b∈H.log):Wr H H1 []:=λb hb=> .inl (h b hb)
theorem HS.lg{B F O E H1 L T R U}(h:HS B F H1 L R)(Z:HS B O E T U){l}(hl: ∀b,b∈l->b∈H1.log\/b∈E.log):HS B F {H1 with log:=l} L R:=
 h.relog λb hb=>by
  rcases hl b hb with h1|h1
  ·exact h.log b h1
  exact Z.log b h1
theorem nG{e:TypeId}{z}(hs:HS B F H L R)(E:dm P e=some z):
  ∃r:Rs,AP P ρ ⟨d,.alloc e,ty,pos,af,gd⟩ H (.val r.v,r.H)/\(∃b,r.v= .pointer (some ⟨b,0,none⟩)/\HS B F r.H (L++[[(b,.cells z none false)]]) R/\Wr H r.H []):=
 ⟨⟨_,_,[]⟩,ap_alloc E,_,V,hs.push _,.nil λb hb=>by simpa using hb⟩
theorem aW{e:TypeId}{x u cs}(hs:HS B F H L R)(E:ρ x=u)(hc:u.cells.toList=cs):
  ∃r:Rs,AP P ρ ⟨d,.box e x,ty,pos,af,gd⟩ H (.val r.v,r.H)/\(∃b,r.v= .pointer (some ⟨b,0,none⟩)/\HS B F r.H (L++[[(b,.cells cs none false)]]) R/\Wr H r.H []):=
 ⟨⟨_,_,[]⟩,ap_box (by rw[E];exact hc),_,V,hs.push _,.nil λb hb=>by simpa using hb⟩
theorem ja{t:TypeId}{n z E ps cells}(l:List α)(hs:HS B F H L R)(T:eu (λp=>(p.1,ρ p.2)) E.toList=ps)(hi:ej P t=some (Rp.sz α,z))(hn:Nat.ble (n *Rp.sz α) 16777216=true)
  (hf:Instr.fill (λi=>some (i *Rp.sz α,Rp.sz α)) ⟨dY n z⟩ ps=some ⟨cells⟩) (hr:RL F cells l) (O:J l=n):
  ∃r:Rs,AP P ρ ⟨d,.buildSlice t n E,ty,pos,af,gd⟩ H (.val r.v,r.H)/\(∃a k,r.v= .slice a (J l) k/\OS F (.slice a (J l) k) l r.p/\HS B F r.H (L++[r.p]) R/\Wr H r.H []):=by
 subst T
 have⟨a,H1,p',U,Z,h3,h4⟩:=os_lit (d:=d) (ty:=ty) (pos:=pos) (af:=af) (gd:=gd) hs hi hn hf hr O
 exact⟨⟨_,H1,p'⟩,U,a,n,by rw[O],by rw[O];exact Z,h3,.nil h4⟩
theorem rs_cut{x lo hi}{t e:TypeId}{i j}(h:SR F v l)(hs:HS B F H L R)(hx:ρ x=v)(ht:P.underlying t=some (.slice e))(hz:dL P e=some (Rp.sz α))
  (U:cy (J l) (hi.map ρ)=some j) (Z:cy 0 (lo.map ρ)=some i) (E:i<=j) (hj:j<=J l):
  ∃r:Rs,AP P ρ ⟨d,.slice t x lo hi none,ty,pos,af,gd⟩ H (.val r.v,r.H)/\(∃a k,r.v= .slice a (J ((l.take j).drop i)) k/\r.H=H/\SR F (.slice a (J ((l.take j).drop i)) k) ((l.take j).drop i)):=by
 have⟨a,k,O,T⟩:=sr_cut (d:=d) (ty:=ty) (pos:=pos) (af:=af) (gd:=gd) h hs hx ht hz U Z E hj
 exact⟨⟨_,H,[]⟩,O,a,k,V,V,T⟩
theorem rs_app{s0 x0}{st e:TypeId}{u l2 q E z}(h:OS F v l p)(hs:HS B F H L R)(hq:L[q]?=some p)(hx:ρ s0=v)(hy:ρ x0=u)(hu:Sv F H.get u l2)(ht:P.underlying st=some (.slice e))
  (hz:dL P e=some (Rp.sz α)) (Z:gW P e=some E) (ax:dm P e=some z) (ar:Nat.beq (fU z) (Rp.sz α)=true) (U:Nat.ble E 4096=true) (an:Nat.beq (Rp.sz α) 0=false) (O:J l+J l2<=2147483648):
  ∃r:Rs,AP P ρ ⟨d,.call ⟨.builtin .append, #[s0,x0], #[st,st]⟩,ty,pos,af,gd⟩ H (.val r.v,r.H)/\(∃a k,r.v= .slice a (J (l++l2)) k/\OS F (.slice a (J (l++l2)) k) (l++l2) r.p/\HS B F r.H (L.set q r.p) R/\Wr H r.H (p.map Prod.fst)):=by
 have hc:=hs.Gh hq
 have⟨a,k,H1,p',h1,h2,T⟩:=os_app (d:=d) (ty:=ty) (pos:=pos) (af:=af) (gd:=gd) (q:=0) h hc V hx hy hu ht hz Z ax ar U an O
 have h4:=hs.backOwn (b_:=[]) hq V (λb hb=>hb) T
 exact⟨⟨_,H1,p'⟩,h1,a,k,V,h2,by simpa using h4,λb hb=>T.log b hb⟩
theorem jS{t:TypeId}{a0 U j q off n b o w y}(Z:α){cl}(h:OS F v l p)(hs:HS B F H L R)(T:L[q]?=some p)(ha:ρ a0= .pointer (some ⟨b,o,none⟩))(hb:b=sB v)(ho:o=sO v+j *Rp.sz α+off)(hx:ρ U=w)(hn:dL P t=some n)(hc:w.cells.toList=cl)(hl:Nat.beq (J cl) n=true)
  (hy:l[j]?=some y) (h1:nw Value.oneCell' cl=true) (hr: ∀cs,Rp.rep F cs y->off+J cl<=J cs/\Rp.rep F (be cs off cl) Z):
  ∃r:Rs,AP P ρ ⟨d,.store t a0 U,ty,pos,af,gd⟩ H (.skip,r.H)/\(OS F v (l.set j Z) r.p/\HS B F r.H (L.set q r.p) R/\Wr H r.H (p.map Prod.fst)):=by
 have O:=hs.Gh T
 have⟨H1,p',g1,g2,E,_⟩:=os_st (d:=d) (ty:=ty) (pos:=pos) (af:=af) (gd:=gd) (q:=0) h O V ha hb ho hx hn hc hl hy h1 hr
 have h4:=hs.backOwn (b_:=[]) T V (λb hb=>hb) E
 exact⟨⟨.bool true,H1,p'⟩,g1,g2,by simpa using h4,λb hb=>E.log b hb⟩
theorem ck{t:TypeId}{a0 x0 q n b o w cl cs E}(hs:HS B F H L R)(Z:L[q]?=some [(b,.cells cs none false)])(ha:ρ a0= .pointer (some ⟨b,o,none⟩))(hx:ρ x0=w)(hn:dL P t=some n)(hc:w.cells.toList=cl)(hl:Nat.beq (J cl) n=true)
  (hb:Nat.ble (o+J cl) (J cs)=true) (h1:nw Value.oneCell' cl=true) (O:fcL (be cs o cl) some=some E):
  ∃r:Rs,AP P ρ ⟨d,.store t a0 x0,ty,pos,af,gd⟩ H (.skip,r.H)/\(HS B F r.H (L.set q [(b,.cells E none false)]) R/\Wr H r.H [b]):=by
 have O:be cs o cl=E:=by rw[nU]at O;exact Option.some.inj O
 have U:=hs.Gh Z
 have⟨H1,g1,T⟩:=U.st (i:=0) V hb h1 O
 have h4:=hs.backOwn (b_:=[]) Z V (λb hb=>hb) T
 exact⟨⟨.bool true,H1,[]⟩,ap_st ha hx hn hc hl g1,by simpa using h4,λb hb=>T.log b hb⟩
end
theorem flat_sub{β:Type}{E L:List (List β)}(h:List.Sublist E L):List.Sublist E.flatten L.flatten:=by
 induction h with
 |slnil=>exact List.Sublist.refl _
 |cons a _ ih=>rw[a0X];exact ih.trans (List.sublist_append_right _ _)
 |cons_cons a _ ih=>rw[a0X,a0X];exact(List.Sublist.refl a).append ih
theorem HS.sub{B F H L T R}(h:HS B F H L R)(E:List.Sublist T L):HS B F H T R:=
 ⟨h.fz,λp O b o hb=>h.own p (O.imp (λx=>E.subset x) id) b o hb,((flat_sub (E.append (List.Sublist.refl R))).map _).nodup h.nd,h.n0,h.log,λp O=>h.mine p (E.subset O)⟩
theorem HS.G3{B F H L R}(h:HS B F H L R):HS B F H [] R:=h.sub (List.nil_sublist _)
theorem HS.only{B F H L R p}(h:HS B F H L R){i:Nat}(hi:L[i]?=some p):HS B F H [p] R:=h.sub (List.singleton_sublist.2 (a0w hi))
theorem HS.thaw{B F Z F2 H H' L R i p}(h:HS B F H L R)(hi:L[i]?=some p)(hF:F.le Z)(hp: ∀b o,(b,o)∈p->Z b=some o)(T:Z.le F2)(k:HS B F2 H' (L.set i []) R):HS B F H' L R:=by
 have⟨A,C,e1,e2⟩:=ip L i p hi;refine⟨λb o hb=>k.fz b o (T _ _ (hF _ _ hb)),λx E b o hb=>?_,h.nd,k.n0,k.log,h.mine⟩;have O:=(h.own x E b o hb).2.2;by_cases U:x=p
 ·subst U;have⟨g1,g2⟩:=k.fz b o (T _ _ (hp b o hb));exact⟨g1,g2,O⟩
 have hk:x∈L.set i []\/x∈R:=by
  rcases E with E|E
  ·left;rw[e2];rw[e1]at E;rcases a0f.1 E with E|E
   ·exact a0f.2 (.inl E)
   rcases a0n.1 E with E|E
   ·exact absurd E U
   exact a0f.2 (.inr (a0c _ E))
  exact .inr E
 have⟨g1,g2,_⟩:=k.own x hk b o hb;exact⟨g1,g2,O⟩
section
variable {α:Type} [Rp α] {F:Fz} {B:Base} {H:Heap} {L R:List Fp} {v:Value} {l:List α} {p:Fp}
theorem OS.Gi(h:OS F v l p)(hs:HS B F H L R){i:Nat}(hi:L[i]?=some p): ∃F',F.le F'/\HS B F' H (L.set i []) R/\SR F' v l/\∀b o,(b,o)∈p->F' b=some o:=by
 obtain⟨F',T,Z,U⟩:=hs.freeze hi;refine⟨F',T,Z,?_,U⟩;rcases h with⟨E,O,_⟩|⟨b,off,k,cs,an,E,O,h6⟩
 ·exact .inl ⟨E,O⟩
 exact .inr ⟨b,off,k,_,E,U b _ (by rw[O];simp),h6.ac T⟩
end
theorem aT{β:Type}{l:List β}{j:Nat}{x:β}(h:j<l.length):l[j]?=some (l.getD j x):=by rw[a09,a08 h];rfl
theorem BS:(∀a b:Bool,((a&&b)=true)=(a=true/\b=true))/\(∀a b:Bool,((a||b)=true)=(a=true\/b=true))/\(∀a b:Bool,((a&&b)=false)=(a=true->b=false))/\(∀a b:Bool,((a||b)=false)=(a=false/\b=false))/\
  (∀a:Bool,((!a)=true)=(a=false))/\(∀a:Bool,((!a)=false)=(a=true))/\(∀(q:Prop) [Decidable q],(decide q=true)=q)/\(∀(q:Prop) [Decidable q],(decide q=false)= ¬q)/\
  (∀a b:Int,((a==b)=true)=(a=b))/\(∀a b:Int,((a==b)=false)=(a≠b))/\(∀a b:Int,((a !=b)=true)=(a≠b))/\(∀a b:Int,((a !=b)=false)=(a=b))/\
  (∀a b:List UInt8,((a==b)=true)=(a=b))/\(∀a b:List UInt8,((a==b)=false)=(a≠b))/\(∀a b:List UInt8,((a !=b)=true)=(a≠b))/\(∀a b:List UInt8,((a !=b)=false)=(a=b))/\
  (∀a b:Bool,((a==b)=true)=(a=b))/\(∀a b:Bool,((a==b)=false)=(a≠b))/\(∀a b:Bool,((a !=b)=true)=(a≠b))/\(∀a b:Bool,((a !=b)=false)=(a=b)):=by
 refine⟨?_,?_,?_,?_,?_,?_,?_,?_,?_,?_,?_,?_,?_,?_,?_,?_,?_,?_,?_,?_⟩<;>intros<;>simp
theorem BT:(∀a:Bool,(true&&a)=a)/\(∀a:Bool,(false&&a)=false)/\(∀a:Bool,(a&&true)=a)/\(∀a:Bool,(a&&false)=false)/\(∀a:Bool,(true||a)=true)/\(∀a:Bool,(false||a)=a)/\(∀a:Bool,(a||true)=true)/\(∀a:Bool,(a||false)=a)/\(!true)=false/\(!false)=true:=by simp
theorem Lr{lo hi ex f}:Leaves lo hi ex f f:= .refl
theorem Lu{lo hi ex f E i v}(O:inR lo hi ex i=true)(h:Leaves lo hi ex f E):Leaves lo hi ex f (upd E i v):= .upd O h
section
variable {P:Program} {G:Nat} {K:bJ} {sz:Nat} {Q:Ex->Fn->Heap->Prop} {ops:Array Oper} {D:List (Nat×ID)} {i:Nat} {os:List Oper} {k:List Fr} {f:Fn} {H H1:Heap} {d:Tmp} {ty:TypeId} {pos:String} {af:Array Edge} {x:Operand}
theorem wm(v:Value)(O:dE f x=v)(E:(Op.move x).operands.toList.all (bc G)=true)(hd:Nat.ble (d+1) sz=true)(h:WO P G K sz ops os k (upd f d v) H Q):WO P G K sz ops (⟨some d,.move x,ty,pos,af,none⟩::os) k f H Q:=ad (ap_move O) E hd h
theorem wa(v:Value)(O:dE f x=v)(E:(Op.assign x).operands.toList.all (bc G)=true)(hd:Nat.ble (d+1) sz=true)(h:WO P G K sz ops os k (upd f d v) H Q):WO P G K sz ops (⟨some d,.assign x,ty,pos,af,none⟩::os) k f H Q:=ad (m4 O) E hd h
theorem fm(v:Value)(O:dE f x=v)(E:(Op.move x).operands.toList.all (bc G)=true)(hd:Nat.ble (d+1) sz=true)(h:WF2 P G K sz ops ((i,.v)::D) (i+1) os k (upd f d v) H Q):WF2 P G K sz ops D i (⟨some d,.move x,ty,pos,af,none⟩::os) k f H Q:=bh (ap_move O) E hd (did_v V) (lC _) h
theorem fa(v:Value)(O:dE f x=v)(E:(Op.assign x).operands.toList.all (bc G)=true)(hd:Nat.ble (d+1) sz=true)(h:WF2 P G K sz ops ((i,.v)::D) (i+1) os k (upd f d v) H Q):WF2 P G K sz ops D i (⟨some d,.assign x,ty,pos,af,none⟩::os) k f H Q:=bh (m4 O) E hd (did_v V) (lC _) h
end
section
variable {P:Program} {G:Nat} {K:bJ} {sz:Nat} {Q:Ex->Fn->Heap->Prop} {ops:Array Oper} {D:List (Nat×ID)} {i:Nat} {os:List Oper} {k:List Fr} {f:Fn} {H:Heap} {v:Value}
 {d:Tmp} {op:Op} {ty:TypeId} {pos:String} {af:Array Edge}
def cB:ID->ID->Bool
 | .v,_=>true
 |_,.v=>true
 |_,.x _=>false
 | .x _,.a=>true
 | .x _,_=>false
 | .s _,_=>false
 |_,.s _=>false
 |_,_=>true
theorem cB_ok{j i e d}(h:cB e d=true):cE ops j i e d:=by cases e<;>cases d<;>first|exact trivial|cases h
def okB(ops:Array Oper)(i:Nat)(d:ID):List (Nat×ID)->Bool
 | []=>true
 |(j,e)::D=>(cB e d||aY (cJ ops) j i)&&okB ops i d D
theorem kb: ∀{D:List (Nat×ID)} {e:ID},okB ops i e D=true->okD ops i e D
 | [],_,_=>trivial
 |(j,g)::D,e,h=>by unfold okB at h;rw[a04,a0E]at h;exact⟨h.1.elim (λh=> .inr (cB_ok h)) .inl,kb h.2⟩
theorem wfv(ha:AP P (dE f) ⟨some d,op,ty,pos,af,none⟩ {H with log:=[]} (.val v,{H with log:=[]}))
  (h:WF2 P G K sz ops ((i,.v)::D) (i+1) os k (upd f d v) H Q) (O:aR op=true:=by rfl) (E:op.operands.toList.all (bc G)=true:=by rfl) (hd:Nat.ble (d+1) sz=true:=by rfl):WF2 P G K sz ops D i (⟨some d,op,ty,pos,af,none⟩::os) k f H Q:=bh ha E hd (did_v O) (lC _) h
end
open Go
section
variable {I d_:Int->Value->Prop} {es:List (Value×Value)}
end
section
variable {P:Program} {ρ:Operand->Value} {d:Option Tmp} {ty:TypeId} {pos:String} {af:Array Edge} {gd:Option (Nat×Bool)} {B:Base} {F:Fz} {H:Heap} {L R:List Fp} {I:Int->Value->Prop} {es:List (Value×Value)}
end
end Go.R
end
