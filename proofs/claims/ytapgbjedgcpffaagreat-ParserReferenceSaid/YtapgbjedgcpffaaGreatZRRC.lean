/-
Symbolic runs: heaps with owners, what cells stand for.
-/
import Derived.Test.YtapgbjedgcpffaaGreatZRRB
noncomputable section
set_option linter.unusedVariables false
set_option linter.unusedSimpArgs false
namespace Go.R
abbrev Fn:=Nat->Value
def upd(f:Fn)(i:Nat)(v:Value):Fn:=fun j=>bif Nat.beq i j then v else f j
def updO(f:Fn)(d:Option Tmp)(v:Value):Fn:=match d with
 |some d=>upd f d v
 |none=>f
def gO(f:Fn):List (Nat×Value)->Fn
 | []=>f
 |(i,v)::l=>upd (gO f l) i v
def aJ(f:Fn):List (Nat×Value)->Prop
 | []=>True
 |(i,v)::l=>f i=v/\aJ f l
def dJ(f:Fn):Operand->Value
 | .tmp t=>f t
 | .const v=>v
 | .global g=> .pointer (some ⟨g,0,none⟩)
 | .func i=> .func (.func i) #[] #[]
def argF(l:List Value):Fn:=fun j=>l.getD j undef
theorem upd_self(f:Fn){i:Nat}{v:Value}(h:f i=v):upd f i v=f:=by
 funext j;unfold upd;cases hb:Nat.beq i j with
 |true=>have:=a06 hb;subst this;exact h.symm
 |false=>rfl
theorem fS{f:Fn}: ∀{l:List (Nat×Value)},aJ f l->gO f l=f
 | [],_=>rfl
 |(i,v)::l,h=>by unfold gO;rw[fS h.2];exact upd_self f h.1
theorem lget_lset_fn(t:Tr Value)(d:Nat)(v:Value):dm (lset t d v)=upd (dm t) d v:=by
 funext j;rw[gZ];unfold upd;by_cases h:d=j
 ·subst h;rw[if_pos V,a0M];rfl
 rw[if_neg h];cases hb:Nat.beq d j with
 |true=>exact absurd (a06 hb) h
 |false=>rfl
theorem fH(t:Tr Value):dQ t=dJ (dm t):=by funext x;cases x<;>rfl
theorem argTmps_fn(args:List Value):dm (fL 0 args .nil)=argF args:=by
 funext j;rw[iV];unfold argF;by_cases h:j<args.length
 ·rw[if_pos M];rfl
 rw[if_neg M,a08,a1f M];rfl
inductive Fr where
 |seq (b:Code)
 |block (id:Nat)
section
variable {P:Program} {G:Nat} {K:bM} {sz:Nat} {Q:Ex->Fn->Heap->Prop}
def runK(P:Program)(G:Nat)(K:bM)(n:Nat):List Fr->Option (Ex×St)->Option (Ex×St)
 | [],r=>r
 | .seq b::k,r=>runK P G K n k (hM r (mK P G K n b))
 | .block id::k,r=>runK P G K n k (dH id r)
theorem ep{n m:Nat}(h:n<=m): ∀(k:List Fr) (r r':Option (Ex×St)),(∀x,r=some x->r'=some x)->∀x,runK P G K n k r=some x->runK P G K m k r'=some x
 | [],r,r',hr,x,hx=>hr x hx
 | .seq b::k,r,r',hr,x,hx=>ep h k _ _ (fun _ E=>ir hr (fun s y E=>jq h b s y E) E) x hx
 | .block id::k,r,r',hr,x,hx=>ep h k _ _ (fun _ E=>kh hr E) x hx
structure WK(P:Program)(G:Nat)(K:bM)(sz:Nat)(c:Code)(k:List Fr)(f:Fn)(H:Heap)(Q:Ex->Fn->Heap->Prop):Prop where
 out: ∀t,dm t=f->∃n e s',runK P G K (n+1) k (mK P G K (n+1) c ⟨t,sz,H⟩)=some (e,s')/\Q e (dm s'.tmps) s'.heap
structure WO(P:Program)(G:Nat)(K:bM)(sz:Nat)(ops:Array Oper)(os:List Oper)(k:List Fr)(f:Fn)(H:Heap)(Q:Ex->Fn->Heap->Prop):Prop where
 out: ∀t,dm t=f->∃n e s',runK P G K (n+1) k (ek (gD P G (call P G K n) ops os ⟨t,sz,H⟩))=some (e,s')/\Q e (dm s'.tmps) s'.heap
structure C(P:Program)(G:Nat)(K:bM)(f:FuncId)(args:List Value)(H:Heap)(R:Value->Heap->Prop):Prop where
 out: ∃n v H',call P G K n f args H=some (v,H')/\R v H'
theorem C.mono{f:FuncId}{args:List Value}{H:Heap}{R E:Value->Heap->Prop}(h:C P G K f args H R)(U: ∀v H',R v H'->E v H'):C P G K f args H E:=by obtain⟨n,v,H',O,T⟩:=h.out;exact⟨n,v,H',O,U _ _ T⟩
variable {c:Code} {k:List Fr} {f:Fn} {H:Heap}
theorem ap(h:Q .normal f H):WK P G K sz .skip [] f H Q:=⟨fun t E=>⟨0,.normal,⟨t,sz,H⟩,V,by rw[E];exact h⟩⟩
theorem aj{b:Code}(h:WK P G K sz b k f H Q):WK P G K sz .skip (.seq b::k) f H Q:=⟨h.out⟩
theorem eM{id:Nat}(h:WK P G K sz .skip k f H Q):WK P G K sz .skip (.block id::k) f H Q:=⟨h.out⟩
theorem aI{a b:Code}(h:WK P G K sz a (.seq b::k) f H Q):WK P G K sz (.seq a b) k f H Q:=⟨h.out⟩
theorem gf{id:Nat}{b:Code}(h:WK P G K sz b (.block id::k) f H Q):WK P G K sz (.block id b) k f H Q:=⟨h.out⟩
theorem aY{b:Code}(h:WK P G K sz b (.seq (.loop b)::k) f H Q):WK P G K sz (.loop b) k f H Q:=⟨fun t U=>by
 obtain⟨n,e,Z,O,T⟩:=h.out t U;refine⟨n+1,e,Z,?_,T⟩;refine ep (Nat.le_succ (n+1)) k _ _ (fun x Y=>?_) _ O;show hM (mK P G K (n+2) b ⟨t,sz,H⟩) (mK P G K (n+1) (.loop b))=some x;exact ir (fun y E=>jo _ _ _ _ E) (fun _ _ E=>E) Y⟩
theorem dC{id:Nat}{b:Code}(h:WK P G K sz (.exit id) k f H Q):WK P G K sz (.exit id) (.seq b::k) f H Q:=⟨h.out⟩
theorem eN{id:Nat}(h:WK P G K sz .skip k f H Q):WK P G K sz (.exit id) (.block id::k) f H Q:=⟨fun t T=>by
 obtain⟨n,e,U,E,O⟩:=h.out t T;refine⟨n,e,U,?_,O⟩;show runK P G K (n+1) k (dH id (some (.exit id,⟨t,sz,H⟩)))=_;unfold dH;simp only[a0M,cond_true];exact E⟩
theorem kw{id E:Nat}(O:Nat.beq id E=false)(h:WK P G K sz (.exit id) k f H Q):WK P G K sz (.exit id) (.block E::k) f H Q:=⟨fun t Y=>by
 obtain⟨n,e,Z,T,U⟩:=h.out t Y;refine⟨n,e,Z,?_,U⟩;show runK P G K (n+1) k (dH E (some (.exit id,⟨t,sz,H⟩)))=_;unfold dH;simp only[O,cond_false];exact T⟩
theorem kP{n:Nat}{s:St}: ∀k:List Fr,runK P G K n k (some (.ret,s))=some (.ret,s)
 | []=>rfl
 | .seq _::k=>kP k
 | .block _::k=>kP k
theorem ae(h:Q .ret f H):WK P G K sz .ret k f H Q:=⟨fun t E=>⟨0,.ret,⟨t,sz,H⟩,kP k,by rw[E];exact h⟩⟩
theorem cN{x:Operand}{a b:Code}{v:Bool}(hx:dJ f x= .bool v)(ho:bm G x=true)(ht:v=true->WK P G K sz a k f H Q)(Z:v=false->WK P G K sz b k f H Q):WK P G K sz (.cond x a b) k f H Q:=⟨fun t U=>by
 have E: ∀n,mK P G K (n+1) (.cond x a b) ⟨t,sz,H⟩=bif v then mK P G K (n+1) a ⟨t,sz,H⟩ else mK P G K (n+1) b ⟨t,sz,H⟩:=by intro n;show(bif bm G x then mL (dQ t x) _ _ else none)=_;rw[ho,fH,U,hx];rfl
 cases v with
 |true=>
  obtain⟨n,e,Y,O,T⟩:=(ht V).out t U
  exact⟨n,e,Y,by rw[E];exact O,T⟩
 |false=>
  obtain⟨n,e,Y,O,T⟩:=(Z V).out t U
  exact⟨n,e,Y,by rw[E];exact O,T⟩⟩
theorem wk_true{x:Operand}{a b:Code}{v:Bool}(T:dJ f x= .bool v)(O:v=true)(E:bm G x=true)(h:WK P G K sz a k f H Q):WK P G K sz (.cond x a b) k f H Q:=
 cN T E (fun _=>h) (fun e=>by rw[O]at e;cases e)
theorem mY{x:Operand}{a b:Code}{v:Bool}(T:dJ f x= .bool v)(O:v=false)(E:bm G x=true)(h:WK P G K sz b k f H Q):WK P G K sz (.cond x a b) k f H Q:=
 cN T E (fun e=>by rw[O]at e;cases e) (fun _=>h)
theorem ab{id:Nat}{ops:Array Oper}(h:WO P G K sz ops ops.toList k f H Q):WK P G K sz (.region id ops false) k f H Q:=⟨h.out⟩
theorem ay{ops:Array Oper}(h:WK P G K sz .skip k f H Q):WO P G K sz ops [] k f H Q:=⟨h.out⟩
theorem az(l:List (Nat×Value))(E:aJ f l)(h: ∀g,WK P G K sz c k (gO g l) H Q):WK P G K sz c k f H Q:=by have:=h f;rwa [fS E]at this
structure AP(P:Program)(ρ:Operand->Value)(o:Oper)(H:Heap)(r:AN×Heap):Prop where
 eq:aop P ρ o H=some r
def dstOK(d:Option Tmp)(sz:Nat):Bool:=match d with
 |some d=>Nat.ble (d+1) sz
 |none=>true
theorem j6{s:St}{d:Option Tmp}{v:Value}(hd:dstOK d s.size=true): ∃O,s.put d v=some {s with tmps:=O}/\dm O=updO (dm s.tmps) d v:=by
 unfold St.put;cases d with
 |none=>exact⟨s.tmps,V,V⟩
 |some d=>
  have E:Nat.ble (d+1) s.size=true:=hd
  simp only[E,cond_true]
  exact⟨lset s.tmps d v,V,lget_lset_fn _ _ _⟩
section
variable {ops:Array Oper} {o:Oper} {os:List Oper} {v:Value} {H1:Heap}
theorem m7{t:Tr Value}(U:o.guard=none)(Y:o.op.operands.toList.all (bm G)=true)(ha:aop P (dJ (dm t)) o H=some (.val v,H1))(hd:dstOK o.dst sz=true):
  ∃E,(∀cf,step P G cf ops o ⟨t,sz,H⟩=some ⟨E,sz,H1⟩)/\dm E=updO (dm t) o.dst v:=by
 obtain⟨E,O,T⟩:=j6 (s:=⟨t,sz,H1⟩) (v:=v) hd
 refine⟨E,fun cf=>?_,T⟩
 unfold step bg
 simp only[U,cond_true,Y,fH,ha]
 exact O
theorem step_skip{t:Tr Value}(U:o.guard=none)(Y:o.op.operands.toList.all (bm G)=true)(ha:aop P (dJ (dm t)) o H=some (.skip,H1))(hd:dstOK o.dst sz=true):
  ∃E,(∀cf,step P G cf ops o ⟨t,sz,H⟩=some ⟨E,sz,H1⟩)/\dm E=updO (dm t) o.dst undef:=by
 obtain⟨E,O,T⟩:=j6 (s:=⟨t,sz,H1⟩) (v:=undef) hd
 refine⟨E,fun cf=>?_,T⟩
 unfold step bg
 simp only[U,cond_true,Y,fH,ha]
 exact O
theorem ad{d:Tmp}{op:Op}{ty:TypeId}{pos:String}{af:Array Edge}(ha:AP P (dJ f) ⟨some d,op,ty,pos,af,none⟩ H (.val v,H1))(Z:op.operands.toList.all (bm G)=true)(hd:Nat.ble (d+1) sz=true)
  (h:WO P G K sz ops os k (upd f d v) H1 Q):WO P G K sz ops (⟨some d,op,ty,pos,af,none⟩::os) k f H Q:=⟨fun t E=>by
 obtain⟨t',O,T⟩:=m7 (P:=P) (G:=G) (ops:=ops) (t:=t) (o:=⟨some d,op,ty,pos,af,none⟩) V Z (by rw[E];exact ha.eq) hd
 obtain⟨n,e,s',U,Y⟩:=h.out t' (by rw[T,E];rfl)
 refine⟨n,e,s',?_,Y⟩
 rw[cu,O]
 exact U⟩
theorem wo_skip{op:Op}{ty:TypeId}{pos:String}{af:Array Edge}(ha:AP P (dJ f) ⟨none,op,ty,pos,af,none⟩ H (.skip,H1))(Z:op.operands.toList.all (bm G)=true)
  (h:WO P G K sz ops os k f H1 Q):WO P G K sz ops (⟨none,op,ty,pos,af,none⟩::os) k f H Q:=⟨fun t E=>by
 obtain⟨t',O,T⟩:=step_skip (P:=P) (G:=G) (ops:=ops) (t:=t) (sz:=sz) (o:=⟨none,op,ty,pos,af,none⟩) V Z (by rw[E];exact ha.eq) V
 obtain⟨n,e,s',U,Y⟩:=h.out t' (by rw[T,E];rfl)
 refine⟨n,e,s',?_,Y⟩
 rw[cu,O]
 exact U⟩
theorem wo_callG{d:Option Tmp}{op:Op}{ty:TypeId}{pos:String}{af:Array Edge}{g:FuncId}{args:List Value}{R:Value->Heap->Prop}(ha:AP P (dJ f) ⟨d,op,ty,pos,af,none⟩ H (.enter g args,H1))(ho:op.operands.toList.all (bm G)=true)(hd:dstOK d sz=true)
  (hc:C P G K g args H1 R) (h: ∀v E,R v E->WO P G K sz ops os k (updO f d v) E Q):WO P G K sz ops (⟨d,op,ty,pos,af,none⟩::os) k f H Q:=⟨fun t ht=>by
 obtain⟨T,v,E,al,hr⟩:=hc.out
 have h0:=h v E hr
 obtain⟨Z,h1,h2⟩:=j6 (s:=⟨t,sz,E⟩) (v:=v) hd
 obtain⟨O,e,s',h3,h4⟩:=h0.out Z (by rw[h2,ht])
 refine⟨Nat.max T O,e,s',?_,h4⟩
 have an:step P G (call P G K (Nat.max T O)) ops ⟨d,op,ty,pos,af,none⟩ ⟨t,sz,H⟩=some ⟨Z,sz,E⟩:=by unfold step bg;simp only[cond_true,ho,fH,ht,ha.eq,gc (a1k T O) _ _ _ _ al];exact h1
 rw[cu,an]
 refine ep (a1d (a0V T O)) k _ _ (fun x U=>?_) _ h3
 simp only
 cases Y:gD P G (call P G K O) ops os ⟨Z,sz,E⟩ with
 |none=>rw[Y]at U;cases U
 |some y=>rw[iE (gc (a0V T O)) _ _ _ Y];rw[Y]at U;exact U⟩
theorem e9{d:Tmp}{op:Op}{ty:TypeId}{pos:String}{af:Array Edge}{g:FuncId}{args:List Value}{R:Value->Heap->Prop}(ha:AP P (dJ f) ⟨some d,op,ty,pos,af,none⟩ H (.enter g args,H1))(O:op.operands.toList.all (bm G)=true)(hd:Nat.ble (d+1) sz=true)
  (hc:C P G K g args H1 R) (h: ∀v E,R v E->WO P G K sz ops os k (upd f d v) E Q):WO P G K sz ops (⟨some d,op,ty,pos,af,none⟩::os) k f H Q:=wo_callG ha O hd hc h
end
theorem aq{b:Code}(I:Nat->Fn->Heap->Prop)(m:Nat)(Z:I m f H)
  (step: ∀m f H,I m f H->(∀O E H',O<m->I O E H'->WK P G K sz (.loop b) k E H' Q)->WK P G K sz b (.seq (.loop b)::k) f H Q):WK P G K sz (.loop b) k f H Q:=by
 have key: ∀n m,m<=n->∀f H,I m f H->WK P G K sz (.loop b) k f H Q:=by
  intro n;induction n with
  |zero=>
   intro m hm f H T
   refine aY (step m f H T fun O E H' Y _=>?_)
   omega
  |succ n ih=>
   intro m hm f H T
   exact aY (step m f H T fun O E H' Y U=>ih O M E H' U)
 exact key m m (a07 _) f H Z
def cQ(P:Program)(f:Fn)(H:Heap):List ResultVar->Option (List Value)
 | []=>some []
 | .tmp t::rs=>
  match cQ P f H rs with
  |some l=>some (f t::l)
  |none=>none
 | .cell a t::rs=>
  match f a with
  | .pointer (some p)=>
   match H.loadV P t p,cQ P f H rs with
   |some v,some l=>some (v::l)
   |_,_=>none
  |_=>none
theorem iG(s:St): ∀rs,dj P s rs=cQ P (dm s.tmps) s.heap rs
 | []=>rfl
 | .tmp t::rs=>by unfold dj cQ;rw[iG s rs];cases cQ P (dm s.tmps) s.heap rs<;>rfl
 | .cell a t::rs=>by
  unfold dj cQ;cases dm s.tmps a with
  |pointer p=>cases p with
   |none=>rfl
   |some p=>simp only[iG s rs];cases s.heap.loadV P t p<;>cases cQ P (dm s.tmps) s.heap rs<;>rfl
  |_=>rfl
theorem av{E:FuncId}{fn:Func}{args:List Value}{R:Value->Heap->Prop}(U:P.funcs[E]?=some fn)(hc:fn.body=some c)(hK:K E args H=none)
  (h:WK P G K (Nat.max args.length fn.ntmps) c [] (argF args) H fun e Z H'=>(e= .normal\/e= .ret)/\∃l,cQ P Z H' fn.results.toList=some l/\R (eQ l) H'):C P G K E args H R:=by
 obtain⟨n,e,Y,h1,he,l,O,hr⟩:=h.out (fL 0 args .nil) (argTmps_fn args)
 refine⟨n+1,eQ l,Y.heap,?_,hr⟩
 show lV K (nM P (mK P G K (n+1))) E args H=_
 have T:mK P G K (n+1) c ⟨fL 0 args .nil,Nat.max args.length fn.ntmps,H⟩=some (e,Y):=h1
 unfold lV nM
 rw[hK]
 simp only[U,hc,T]
 rw[←iG]at O
 rcases he with rfl|rfl
 ·simp only[O]
 simp only[O]
theorem c_known{E:FuncId}{args:List Value}{v:Value}{R:Value->Heap->Prop}(O:K E args H=some v)(h:R v H):C P G K E args H R:=
 ⟨0,v,H,by show lV K _ E args H=_;unfold lV;rw[O],h⟩
end
end Go.R
end
noncomputable section
namespace Go.R
section
variable {P:Program} {ρ:Operand->Value} {d:Option Tmp} {ty:TypeId} {pos:String} {af:Array Edge} {gd:Option (Nat×Bool)} {H:Heap}
theorem ap_move{x:Operand}{v:Value}(h:ρ x=v):AP P ρ ⟨d,.move x,ty,pos,af,gd⟩ H (.val v,H):=by subst h;exact⟨V⟩
theorem lZ{x:Operand}{v:Value}(h:ρ x=v):AP P ρ ⟨d,.assign x,ty,pos,af,gd⟩ H (.val v,H):=by subst h;exact⟨V⟩
theorem jx{op:BinOp}{t yt:TypeId}{x y:Operand}{k E:IntKind}{a b:Int}{v:Value}(T:ρ x= .int k a)(U:ρ y= .int E b)
  (O:(bif lM op then shBin op k a b else bif gG k E then mD op k a b else none)=some v):AP P ρ ⟨d,.binOp op t x y yt,ty,pos,af,gd⟩ H (.val v,H):=by
 refine⟨?_⟩
 show aBin P ρ _ op t (ρ x) y H=_
 rw[T]
 show binInt op k a (ρ y) H=_
 rw[U]
 show ovl _ H=_
 rw[O];rfl
theorem ap_str{op:BinOp}{t yt:TypeId}{x y:Operand}{a b:ByteArray}{v:Value}(O:ρ x= .string a)(T:ρ y= .string b)(E:strOp op a b=some v):
  AP P ρ ⟨d,.binOp op t x y yt,ty,pos,af,gd⟩ H (.val v,H):=by
 refine⟨?_⟩
 show aBin P ρ _ op t (ρ x) y H=_
 rw[O]
 show binStr op a (ρ y) H=_
 rw[T]
 show ovl _ H=_
 rw[E];rfl
theorem cg{t:TypeId}{x:Operand}{b:Bool}(E:ρ x= .bool b):AP P ρ ⟨d,.unOp .not t x,ty,pos,af,gd⟩ H (.val (.bool (!b)),H):=by refine⟨?_⟩;show aUn P ρ _ .not (ρ x) H=_;rw[E];rfl
theorem ap_conv{s t:TypeId}{x:Operand}{k E:IntKind}{n:Int}(T:ρ x= .int k n){u:TypeDesc}(hs:P.underlying s=some u)(O:P.underlying t=some (.int E)):
  AP P ρ ⟨d,.convert s t x,ty,pos,af,gd⟩ H (.val (.int E (E.wrap n)),H):=by
 refine⟨?_⟩
 show fJ P ρ _ s t (ρ x) H=_
 rw[T]
 show ovl (nJ P s t n) H=_
 unfold nJ
 rw[hs,O];rfl
theorem ap_neg{t:TypeId}{x:Operand}{k:IntKind}{n:Int}(E:ρ x= .int k n):AP P ρ ⟨d,.unOp .neg t x,ty,pos,af,gd⟩ H (.val (.int k (k.wrap (0-n))),H):=by
 refine⟨?_⟩;show aUn P ρ _ .neg (ρ x) H=_;rw[E];show bL P ρ _ H=_;unfold bL;have O:((Op.unOp .neg t x).operands.toList.all fun x=>jM (ρ x))=true:=by simp[Op.operands,E,jM,dx]
 simp only[O,cond_true];show(match aB P (execOp ρ ⟨d,.unOp .neg t x,ty,pos,af,gd⟩) with|some (.value v)=>bif noA2 v then some (AN.val v,H) else none|_=>none)=_;have T:aB P (execOp ρ ⟨d,.unOp .neg t x,ty,pos,af,gd⟩)=some (.value (.int k (k.wrap (0-n)))):=by unfold execOp;simp only[E];rfl
 rw[T];rfl
theorem ap_cpl{t:TypeId}{x:Operand}{k:IntKind}{n:Int}(E:ρ x= .int k n):AP P ρ ⟨d,.unOp .xor t x,ty,pos,af,gd⟩ H (.val (.int k (bits .xor k (if k.signed then-1 else k.max) n)),H):=by
 refine⟨?_⟩;show aUn P ρ _ .xor (ρ x) H=_;rw[E];show bL P ρ _ H=_;unfold bL;have O:((Op.unOp .xor t x).operands.toList.all fun x=>jM (ρ x))=true:=by simp[Op.operands,E,jM,dx]
 simp only[O,cond_true];have T:aB P (execOp ρ ⟨d,.unOp .xor t x,ty,pos,af,gd⟩)=some (.value (.int k (bits .xor k (if k.signed then-1 else k.max) n))):=by unfold execOp;simp only[E];rfl
 rw[T];rfl
theorem ap_quo{t yt:TypeId}{x y:Operand}{k E:IntKind}{a b:Int}(T:ρ x= .int k a)(U:ρ y= .int E b)(O:gG k E=true)(hb:(b==0)=false):
  AP P ρ ⟨d,.binOp .quo t x y yt,ty,pos,af,gd⟩ H (.val (.int k (k.wrap (a.tdiv b))),H):=
 jx T U (by show(bif gG k E then(bif b==0 then none else some (.int k (k.wrap (a.tdiv b)))) else none:Option Value)=_;rw[O,hb];rfl)
theorem ap_rem{t yt:TypeId}{x y:Operand}{k E:IntKind}{a b:Int}(T:ρ x= .int k a)(U:ρ y= .int E b)(O:gG k E=true)(hb:(b==0)=false):
  AP P ρ ⟨d,.binOp .rem t x y yt,ty,pos,af,gd⟩ H (.val (.int k (a.tmod b)),H):=
 jx T U (by show(bif gG k E then(bif b==0 then none else some (.int k (a.tmod b))) else none:Option Value)=_;rw[O,hb];rfl)
theorem ap_shl{t yt:TypeId}{x y:Operand}{k T:IntKind}{a b:Int}(E:ρ x= .int k a)(O:ρ y= .int T b)(hb:0<=b):
  AP P ρ ⟨d,.binOp .shl t x y yt,ty,pos,af,gd⟩ H (.val (.int k (k.wrap (a *2^(Nat.min b.toNat k.bits)))),H):=by
 refine⟨?_⟩
 obtain⟨n,rfl⟩:=a0R hb
 exact(jx E O V).eq
theorem ap_shr{t yt:TypeId}{x y:Operand}{k T:IntKind}{a b:Int}(E:ρ x= .int k a)(O:ρ y= .int T b)(hb:0<=b):
  AP P ρ ⟨d,.binOp .shr t x y yt,ty,pos,af,gd⟩ H (.val (.int k (a.fdiv (2^(Nat.min b.toNat k.bits)))),H):=by
 refine⟨?_⟩
 obtain⟨n,rfl⟩:=a0R hb
 exact(jx E O V).eq
theorem nR{t:TypeId}{n sz:Nat}{z:List Value}{E:Array (Nat×Operand)}{cells:Array Value}(hs:eo P t=some (sz,z))(T:Nat.ble (n *sz) 16777216=true)
  (O:Instr.fill (fun i=>some (i *sz,sz)) ⟨dM n z⟩ (ec (fun p=>(p.1,ρ p.2)) E.toList)=some cells):
  AP P ρ ⟨d,.buildSlice t n E,ty,pos,af,gd⟩ H (.val (.slice (some ⟨H.next,0,none⟩) n n),H.push (.cells cells.toList none false)):=by
 refine⟨?_⟩
 show bN P t n (ec (fun p=>(p.1,ρ p.2)) E.toList) H=_
 unfold bN
 rw[hs]
 simp only[T,cond_true,O]
 rfl
theorem kr{t e:TypeId}{x i:Operand}{b o n k sz:Nat}{ki:IntKind}{j:Int}(Z:ρ x= .slice (some ⟨b,o,none⟩) n k)(hi:ρ i= .int ki j)(Y:P.underlying t=some (.slice e))(hs:dV P e=some sz)
  (E:0<=j) (hj:j<n) (U:n<=k):AP P ρ ⟨d,.indexAddr t x i,ty,pos,af,gd⟩ H (.val (.pointer (some ⟨b,o+j.toNat *sz,none⟩)),H):=by
 refine⟨?_⟩
 obtain⟨m,rfl⟩:=a0R E
 show ovl (dP P t (ρ x) (ρ i)) H=_
 rw[Z,hi]
 unfold dP
 rw[Y]
 show ovl (match dV P e with|some sz=>bif Nat.ble (m+1) n&&Nat.ble n k then some (.pointer (some ⟨b,o+m *sz,none⟩)) else none|none=>none) H=_
 rw[hs]
 have O:Nat.ble (m+1) n=true:=a0q M
 have T:Nat.ble n k=true:=a0q U
 simp only[O,T,a1g,cond_true]
 rfl
theorem ap_load1{t:TypeId}{x:Operand}{b o:Nat}{cs:List Value}{E:Option Nat}{Y:Bool}{v:Value}(U:ρ x= .pointer (some ⟨b,o,none⟩))(ha:fN P t=some false)(O:H.get b=some (.cells cs E Y))(T:cs[o]?=some v):
  AP P ρ ⟨d,.load t x,ty,pos,af,gd⟩ H (.val v,H):=by
 refine⟨?_⟩
 show eI P t (ρ x) H=_
 rw[U]
 show ovl (H.loadV P t ⟨b,o,none⟩) H=_
 unfold Heap.loadV
 rw[ha]
 simp only
 unfold Heap.cellAt
 simp only[O,gE,T]
 rfl
theorem ap_loadN{t:TypeId}{x:Operand}{b o n:Nat}{cs l:List Value}{E:Option Nat}{Z:Bool}(Y:ρ x= .pointer (some ⟨b,o,none⟩))(ha:fN P t=some true)(hs:dV P t=some n)(O:H.get b=some (.cells cs E Z))(T:(cs.drop o).take n=l)(U:l.length=n):
  AP P ρ ⟨d,.load t x,ty,pos,af,gd⟩ H (.val (.agg ⟨l⟩),H):=by
 refine⟨?_⟩
 show eI P t (ρ x) H=_
 rw[Y]
 show ovl (H.loadV P t ⟨b,o,none⟩) H=_
 unfold Heap.loadV
 rw[ha]
 simp only[hs]
 unfold Heap.loadN
 simp only[O,bR,bW,bz,T,U,a0M,cond_true]
 rfl
structure Keeps(H H':Heap):Prop where
 next:H.next<=H'.next
 get: ∀b,b<H.next->H'.get b=H.get b
 log: ∃d,H'.log=d++H.log/\∀b,b∈d->H.next<=b
theorem appL_nil(l:List Value):appL l []=l:=by rw[ef];simp
theorem aX{args:Array Operand}{E:Array TypeId}{i:FuncId}{fn:Func}{f:Fn}{l:List Value}(O:P.funcs[i]?=some fn)(hb:(fn.body.isSome&& !(fn.name== "runtime.NumGoroutine"))=true)(T:ec (dJ f) args.toList=l):
  AP P (dJ f) ⟨d,.call ⟨.value (.func i),args,E⟩,ty,pos,af,gd⟩ H (.enter i l,H):=by
 refine⟨?_⟩
 show ij (iY P (.func (.func i) #[] #[]) (ec (dJ f) args.toList)) H=_
 unfold iY
 simp only[O,hb,cond_true,T]
 show ij (some (.enter i (appL [] (appL l [])))) H=_
 rw[appL_nil]
 rfl
end
end Go.R
end
noncomputable section
namespace Go.R
def hN:Inf->Bool
 | .x w=>isNilL w
 |_=>true
def vkAt(ops:Array Oper)(j:Nat):Bool:=match ops[j]? with
 |some o=>aS o.op
 |none=>false
def FsOK(ops:Array Oper)(wr:List Nat)(i:Nat)(fs:List (Nat×Inf)):Prop:= ∀j g,(j,g)∈fs->j<i/\(hN g=true\/j∈wr)/\(vkAt ops j=true->g= .v)
theorem nP: ∀{f g:Inf},hN f=true->hN g=true->eL f g=true
 | .v,_,_,_=>rfl
 | .a b,.v,_,_=>rfl
 | .a b,.a c,_,_=>rfl
 | .a b,.l c,_,_=>rfl
 | .a b,.x w,_,h=>by cases w with
  |nil=>rfl
  |cons _ _=>cases h
 | .l b,.v,_,_=>rfl
 | .l b,.a c,_,_=>rfl
 | .l b,.l c,_,_=>rfl
 | .l b,.x w,_,h=>by cases w with
  |nil=>rfl
  |cons _ _=>cases h
 | .x w,.v,_,_=>rfl
 | .x w,.a c,_,_=>rfl
 | .x w,.l c,h,_=>by cases w with
  |nil=>rfl
  |cons _ _=>cases h
 | .x w,.x u,h,h'=>by simp only[hN]at h h';simp only[eL,h,h',a1g]
theorem below_nil{n:Nat}: ∀{l:List Nat},(∀b,b∈l->n<=b)->d8 n l=[]
 | [],_=>rfl
 |c::l,h=>by have E:Nat.ble n c=true:=a0q (h c (a1h ..));unfold d8;rw[E];exact below_nil fun b hb=>h b (a0z _ hb)
theorem infOf_benign{ops:Array Oper}{o:Oper}{s:St}{n:Nat}{log:List Nat}(h:d8 n log=[]):hN (eG ops o s n log)=true:=by
 unfold eG;rw[h];cases (!bg ops o s.tmps||aS o.op) with
 |true=>rfl
 |false=>
  simp only[cond_false]
  cases eF o.op with
  |true=>rfl
  |false=>
   simp only[cond_false]
   split
   ·split<;>rfl
   ·split<;>rfl
   ·split<;>rfl
   rfl
theorem infOf_value{ops:Array Oper}{o:Oper}{s:St}{n:Nat}{log:List Nat}(h:aS o.op=true):eG ops o s n log= .v:=by unfold eG;rw[h,a1A];rfl
theorem ku{l:List Nat}{i:Nat}{f:Inf}: ∀{fs:List (Nat×Inf)},(∀j g,(j,g)∈fs->(bw l j i||eL g f)=true)->cJ l i f fs=true
 | [],_=>rfl
 |(j,g)::fs,h=>by unfold cJ;rw[h j g (a1h ..),ku fun j g E=>h j g (a0z _ E)];rfl
section
variable {P:Program} {G:Nat} {K:bM} {sz:Nat} {Q:Ex->Fn->Heap->Prop} {ops:Array Oper} {wr:List Nat} {i:Nat} {os:List Oper} {k:List Fr} {f:Fn} {H H1:Heap} {v:Value}
 {d:Tmp} {op:Op} {ty:TypeId} {pos:String} {af:Array Edge}
structure WD(P:Program)(G:Nat)(K:bM)(sz:Nat)(ops:Array Oper)(wr:List Nat)(i:Nat)(os:List Oper)(k:List Fr)(f:Fn)(H:Heap)(Q:Ex->Fn->Heap->Prop):Prop where
 out: ∀t fs,dm t=f->FsOK ops wr i fs->∃n e s',runK P G K (n+1) k (ek (bB P G (call P G K n) ops i fs os ⟨t,sz,H⟩))=some (e,s')/\Q e (dm s'.tmps) s'.heap
end
end Go.R
end
noncomputable section
namespace Go.R
def cZ(ops:Array Oper)(f:Fn)(j:Nat):Option Bool:=
 match (ops[j]?).bind (·.dst) with
 |some d=>
  match f d with
  | .bool b=>some b
  |_=>none
 |none=>none
theorem aop_guard{P:Program}{ρ:Operand->Value}{d:Option Tmp}{op:Op}{ty:TypeId}{pos:String}{af:Array Edge}(g E:Option (Nat×Bool))(H:Heap):
  aop P ρ ⟨d,op,ty,pos,af,g⟩ H=aop P ρ ⟨d,op,ty,pos,af,E⟩ H:=by
 cases op<;>rfl
section
variable {P:Program} {G:Nat} {K:bM} {sz:Nat} {Q:Ex->Fn->Heap->Prop} {ops:Array Oper} {wr:List Nat} {i j:Nat} {os:List Oper} {k:List Fr} {f:Fn} {H H1:Heap} {v want:Bool}
 {d:Option Tmp} {op:Op} {ty:TypeId} {pos:String} {af:Array Edge}
theorem jb{t:Tr Value}(O:dm t=f)(T:cZ ops f j=some v)(o:Oper)(E:o.guard=some (j,want)):bg ops o t=(v==want):=by
 unfold bg;rw[E];have:mh ops t j=some v:=by rw[←T,←O];rfl
 simp only[this];cases v<;>cases want<;>rfl
theorem mn{cf:cX}{t:Tr Value}(T:dm t=f)(Y:cZ ops f j=some v)(U:v=want):
  step P G cf ops ⟨d,op,ty,pos,af,some (j,want)⟩ ⟨t,sz,H⟩=step P G cf ops ⟨d,op,ty,pos,af,none⟩ ⟨t,sz,H⟩:=by
 unfold step
 rw[jb T Y _ V,U]
 have E:(want==want)=true:=by cases want<;>rfl
 have O:bg ops ⟨d,op,ty,pos,af,none⟩ t=true:=rfl
 simp only[E,O,cond_true,aop_guard (some (j,want)) none]
theorem m8{cf:cX}{t:Tr Value}(O:dm t=f)(U:cZ ops f j=some v)(T:v= !want):
  step P G cf ops ⟨d,op,ty,pos,af,some (j,want)⟩ ⟨t,sz,H⟩=St.put ⟨t,sz,H⟩ d undef:=by
 unfold step
 rw[jb O U _ V,T]
 have E:((!want)==want)=false:=by cases want<;>rfl
 simp only[E,cond_false]
theorem aA(Y:cZ ops f j=some v)(U:v=want)(h:WO P G K sz ops (⟨d,op,ty,pos,af,none⟩::os) k f H Q):WO P G K sz ops (⟨d,op,ty,pos,af,some (j,want)⟩::os) k f H Q:=⟨fun t O=>by
 obtain⟨n,e,Z,E,T⟩:=h.out t O;refine⟨n,e,Z,?_,T⟩;rw[cu]at E⊢;rw[mn O Y U];exact E⟩
theorem wo_gf{d:Tmp}(hy:cZ ops f j=some v)(Z:v= !want)(hd:Nat.ble (d+1) sz=true)(h:WO P G K sz ops os k (upd f d undef) H Q):WO P G K sz ops (⟨some d,op,ty,pos,af,some (j,want)⟩::os) k f H Q:=⟨fun t E=>by
 obtain⟨t',U,Y⟩:=j6 (s:=⟨t,sz,H⟩) (d:=some d) (v:=undef) hd;obtain⟨n,e,s',O,T⟩:=h.out t' (by rw[Y,E];rfl);refine⟨n,e,s',?_,T⟩;rw[cu,m8 E hy Z,U];exact O⟩
theorem bV{d:Tmp}(O:cZ ops f j=some v)(E:v=false)(hd:Nat.ble (d+1) sz=true)(h:WO P G K sz ops os k (upd f d undef) H Q):WO P G K sz ops (⟨some d,op,ty,pos,af,some (j,true)⟩::os) k f H Q:=wo_gf O E hd h
theorem ag{d:Tmp}(O:cZ ops f j=some v)(E:v=true)(hd:Nat.ble (d+1) sz=true)(h:WO P G K sz ops os k (upd f d undef) H Q):WO P G K sz ops (⟨some d,op,ty,pos,af,some (j,false)⟩::os) k f H Q:=wo_gf O E hd h
theorem cU{d:Tmp}(hy:cZ ops f j=none)(hd:Nat.ble (d+1) sz=true)(h:WO P G K sz ops os k (upd f d undef) H Q):WO P G K sz ops (⟨some d,op,ty,pos,af,some (j,want)⟩::os) k f H Q:=⟨fun t O=>by
 obtain⟨t',Y,Z⟩:=j6 (s:=⟨t,sz,H⟩) (d:=some d) (v:=undef) hd;obtain⟨n,e,s',T,U⟩:=h.out t' (by rw[Z,O];rfl);refine⟨n,e,s',?_,U⟩;have hw:bg ops ⟨some d,op,ty,pos,af,some (j,want)⟩ t=false:=by
  unfold bg;have:mh ops t j=none:=by rw[←hy,←O];rfl
  simp only[this];cases want<;>rfl
 have E:step P G (call P G K n) ops ⟨some d,op,ty,pos,af,some (j,want)⟩ ⟨t,sz,H⟩=St.put ⟨t,sz,H⟩ (some d) undef:=by unfold step;simp only[hw,cond_false]
 rw[cu,E,Y];exact T⟩
theorem gJ{d:Tmp}(E:cZ ops f j=some v)(hd:Nat.ble (d+1) sz=true)(O:v=true->WO P G K sz ops (⟨some d,op,ty,pos,af,none⟩::os) k f H Q)(T:v=false->WO P G K sz ops os k (upd f d undef) H Q):
  WO P G K sz ops (⟨some d,op,ty,pos,af,some (j,true)⟩::os) k f H Q:=by
 cases v with
 |true=>exact aA E V (O V)
 |false=>exact wo_gf E V hd (T V)
theorem bX{d:Tmp}(E:cZ ops f j=some v)(hd:Nat.ble (d+1) sz=true)(O:v=false->WO P G K sz ops (⟨some d,op,ty,pos,af,none⟩::os) k f H Q)(T:v=true->WO P G K sz ops os k (upd f d undef) H Q):
  WO P G K sz ops (⟨some d,op,ty,pos,af,some (j,false)⟩::os) k f H Q:=by
 cases v with
 |true=>exact wo_gf E V hd (T V)
 |false=>exact aA E V (O V)
end
section
variable {P:Program} {ρ:Operand->Value} {d:Option Tmp} {ty:TypeId} {pos:String} {af:Array Edge} {gd:Option (Nat×Bool)} {H:Heap}
theorem au{c a b:Operand}{t:Bool}{v:Value}(hc:ρ c= .bool t)(E:t=true)(O:ρ a=v):AP P ρ ⟨d,.pick c a b,ty,pos,af,gd⟩ H (.val v,H):=by refine⟨?_⟩;show gW ρ c a b H=_;unfold gW;rw[hc,E,←O];rfl
theorem aD{c a b:Operand}{t:Bool}{v:Value}(hc:ρ c= .bool t)(E:t=false)(O:ρ b=v):AP P ρ ⟨d,.pick c a b,ty,pos,af,gd⟩ H (.val v,H):=by refine⟨?_⟩;show gW ρ c a b H=_;unfold gW;rw[hc,E,←O];rfl
def ey(op:BinOp)(t:TypeId)(x y:Operand)(a b:Bool):Sem Next:=
 ((eqGuard op t x y (.bool a) (.bool b))>>=fun _=>binOp op t (.bool a) (.bool b))>>=fun r=>Pure.pure (Next.value r)
theorem ap_boolEq{t yt:TypeId}{x y:Operand}{a b:Bool}(O:ρ x= .bool a)(T:ρ y= .bool b)(E: ∀a b:Bool,aB P (ey .eql t x y a b)=some (.value (.bool (a==b)))):AP P ρ ⟨d,.binOp .eql t x y yt,ty,pos,af,gd⟩ H (.val (.bool (a==b)),H):=by
 refine⟨?_⟩;show aBin P ρ _ .eql t (ρ x) y H=_;rw[O];show bL P ρ _ H=_;unfold bL;have U:((Op.binOp .eql t x y yt).operands.toList.all fun x=>jM (ρ x))=true:=by simp[Op.operands,O,T,jM,dx]
 simp only[U,cond_true];have Y:aB P (execOp ρ ⟨d,.binOp .eql t x y yt,ty,pos,af,gd⟩)=some (.value (.bool (a==b))):=by rw[←E a b];unfold execOp ey;simp only[O,T]
 rw[Y];rfl
end
end Go.R
end
noncomputable section
namespace Go.R
open Go.RowKit
def KX(ex:FuncId):bM:=fun f args _=>match args with
 | []=>bif Nat.beq f ex then some (.bool true) else none
 |_=>none
theorem kx_ok{P:Program}{ex:FuncId}(h: ∀w,Calls P ex #[] w fun e w'=>e= .returned (.bool true)/\Below w.heap.size w w'):hZ P 0 (KX ex):=by
 intro f args H v E;unfold KX at E;split at E
 ·cases T:Nat.beq f ex with
  |false=>rw[T]at E;cases E
  |true=>
   rw[T]at E
   simp only[cond_true,a01]at E
   subst E
   have:=a06 T
   subst this
   refine⟨V,V,fun μ O w hc _ _=>?_⟩
   have:O= #[]:=by cases O;simp_all
   subst this
   exact h w
 cases E
end Go.R
end
noncomputable section
namespace Go.R
abbrev Fz:=Nat->Option AObj
abbrev Fp:=List (Nat×AObj)
def Fz.le(F F':Fz):Prop:= ∀b o,F b=some o->F' b=some o
theorem Fz.le_refl(F:Fz):F.le F:=fun _ _ h=>h
theorem Fz.le_trans{A B C:Fz}(h:A.le B)(k:B.le C):A.le C:=fun b o x=>k b o (h b o x)
def Fz.add(F:Fz)(b:Nat)(o:AObj):Fz:=fun j=>bif Nat.beq b j then some o else F j
def Fz.addL(F:Fz):Fp->Fz
 | []=>F
 |(b,o)::p=>(F.addL p).add b o
abbrev in64(n:Int):Prop:= -9223372036854775808<=n/\n<9223372036854775808
structure Base where
 n0:Nat
 W:List Nat
 lg:List Nat
def Base.of(H:Heap)(W:List Nat):Base:=⟨H.next,W,H.log⟩
structure HS(B:Base)(F:Fz)(H:Heap)(L R:List Fp):Prop where
 fz: ∀b o,F b=some o->H.get b=some o/\b<H.next
 own: ∀p,p∈L\/p∈R->∀b o,(b,o)∈p->H.get b=some o/\b<H.next/\F b=none
 nd:((L++R).flatten.map Prod.fst).Nodup
 n0:B.n0<=H.next
 log: ∀b,b∈H.log->b∈B.lg\/B.n0<=b\/b∈B.W
 mine: ∀p,p∈L->∀b o,(b,o)∈p->B.n0<=b\/b∈B.W
theorem jm{α:Type}: ∀(L:List (List α)) (i:Nat) (p:List α),L[i]?=some p->∃A C,L=A++p::C/\∀q,L.set i q=A++q::C
 | [],_,_,h=>by simp at h
 |x::L,0,p,h=>by simp at h;subst h;exact⟨[],L,V,fun _=>rfl⟩
 |x::L,i+1,p,h=>by obtain⟨A,C,E,O⟩:=jm L i p (by simpa using h);exact⟨x::A,C,by rw[E];rfl,fun q=>by rw[List.set_cons_succ,O];rfl⟩
theorem nB{α:Type}(L:List (List α))(i:Nat)(p q:List α)(h:L[i]?=some p): ∃A C,L=A++p::C/\L.set i q=A++q::C:=by obtain⟨A,C,E,O⟩:=jm L i p h;exact⟨A,C,E,O q⟩
section
variable {B:Base} {F F':Fz} {H H':Heap} {L R:List Fp}
theorem HS.relog(h:HS B F H L R){l:List Nat}(E: ∀b,b∈l->b∈B.lg\/B.n0<=b\/b∈B.W):HS B F {H with log:=l} L R:=⟨h.fz,h.own,h.nd,h.n0,E,h.mine⟩
theorem HS.log0(h:HS B F H L R):HS B F {H with log:=[]} L R:=h.relog fun b hb=>by simp at hb
theorem HS.turn(h:HS B F H L R){i:Nat}{p q:Fp}(hi:L[i]?=some p)(hn:H.next<=H'.next)
  (a5: ∀b,b<H.next->(∀o,(b,o)∉p)->H'.get b=H.get b)
  (hq: ∀b o,(b,o)∈q->H'.get b=some o/\b<H'.next/\(H.next<=b\/∃T,(b,T)∈p)) (b3:(q.map Prod.fst).Nodup)
  (b1: ∀b,b∈H'.log->b∈H.log\/H.next<=b\/∃o,(b,o)∈p):HS B F H' (L.set i q) R:=by
 obtain⟨A,C,e1,e2⟩:=nB L i p q hi
 have a1:p∈L:=a0n hi
 have O:=h.nd
 rw[e1]at O
 have a6: ∀x,x∈L.set i q\/x∈R->x=q\/((x∈L\/x∈R)/\∀b o T,(b,o)∈x->(b,T)∉p):=by
  intro x E;have key: ∀x,x∈A\/x∈C\/x∈R->∀b o T,(b,o)∈x->(b,T)∉p:=by
   intro x E b o T hb al;simp only[a0h,a0K,a0W,a0L,a0Y,a1l,a0e]at O;have an:b∈p.map Prod.fst:=a0t.2 ⟨_,al,V⟩;have bl:b∈x.map Prod.fst:=a0t.2 ⟨_,hb,V⟩;rcases E with E|E|E
   ·have:b∈A.flatten.map Prod.fst:=a0t.2 ⟨(b,o),a0Q.2 ⟨x,E,hb⟩,V⟩;exact O.2.2 b this b (.inl an) V
   ·have:b∈C.flatten.map Prod.fst:=a0t.2 ⟨(b,o),a0Q.2 ⟨x,E,hb⟩,V⟩;exact O.2.1.2.2 b an b (.inl this) V
   have:b∈R.flatten.map Prod.fst:=a0t.2 ⟨(b,o),a0Q.2 ⟨x,E,hb⟩,V⟩;exact O.2.1.2.2 b an b (.inr this) V
  rw[e2]at E;rcases E with E|E
  ·rcases a0e.1 E with E|E
   ·exact .inr ⟨.inl (by rw[e1];exact a0e.2 (.inl E)),key x (.inl E)⟩
   rcases a0m.1 E with rfl|E
   ·exact .inl V
   exact .inr ⟨.inl (by rw[e1];exact a0e.2 (.inr (a0z _ E))),key x (.inr (.inl E))⟩
  exact .inr ⟨.inr E,key x (.inr (.inr E))⟩
 have a9: ∀b o,(b,o)∈p->F b=none/\b<H.next:=fun b o hb=>⟨(h.own p (.inl a1) b o hb).2.2,(h.own p (.inl a1) b o hb).2.1⟩
 refine⟨fun b o hb=>?_,fun x E b o hb=>?_,?_,a0g h.n0 hn,fun b hb=>?_,fun x E b o hb=>?_⟩
 ·obtain⟨U,h2⟩:=h.fz b o hb;refine⟨?_,a0S h2 hn⟩;rw[a5 b h2 fun T a0=>by rw[(a9 b T a0).1]at hb;cases hb];exact U
 ·rcases a6 x E with rfl|⟨bl,hne⟩
  ·obtain⟨U,h2,Y⟩:=hq b o hb;refine⟨U,h2,?_⟩;rcases Y with Y|⟨T,a0⟩
   ·cases hf:F b with
    |none=>rfl
    |some z=>have:=(h.fz b z hf).2;omega
   exact(a9 b T a0).1
  obtain⟨U,h2,Y⟩:=h.own x bl b o hb;exact⟨by rw[a5 b h2 fun T=>hne b o T hb];exact U,a0S h2 hn,Y⟩
 ·rw[e2];have ba: ∀x,x∈A\/x∈C\/x∈R->∀b,b∈x.map Prod.fst->b<H.next/\∀T,(b,T)∉p:=by
   intro x E b hb;obtain⟨⟨Z,o⟩,al,rfl⟩:=a0t.1 hb;have b0:x∈L.set i q\/x∈R:=by
    rw[e2];rcases E with E|E|E
    ·exact .inl (a0e.2 (.inl E))
    ·exact .inl (a0e.2 (.inr (a0z _ E)))
    exact .inr E
   have b4:x∈L\/x∈R:=by
    rw[e1];rcases E with E|E|E
    ·exact .inl (a0e.2 (.inl E))
    ·exact .inl (a0e.2 (.inr (a0z _ E)))
    exact .inr E
   refine⟨(h.own x b4 Z o al).2.1,fun T a0=>?_⟩;have ax:=O;simp only[a0h,a0K,a0W,a0L,a0Y,a1l,a0e]at ax;have an:Z∈p.map Prod.fst:=a0t.2 ⟨_,a0,V⟩;rcases E with E|E|E
   ·exact ax.2.2 Z (a0t.2 ⟨(Z,o),a0Q.2 ⟨x,E,al⟩,V⟩) Z (.inl an) V
   ·exact ax.2.1.2.2 Z an Z (.inl (a0t.2 ⟨(Z,o),a0Q.2 ⟨x,E,al⟩,V⟩)) V
   exact ax.2.1.2.2 Z an Z (.inr (a0t.2 ⟨(Z,o),a0Q.2 ⟨x,E,al⟩,V⟩)) V
  have a4: ∀(c_:List Fp) b,b∈c_.flatten.map Prod.fst->∃x,x∈c_/\b∈x.map Prod.fst:=by intro c_ b hb;obtain⟨y,hy,rfl⟩:=a0t.1 hb;obtain⟨x,E,b5⟩:=a0Q.1 hy;exact⟨x,E,a0t.2 ⟨y,b5,V⟩⟩
  have bb: ∀b,b∈q.map Prod.fst->H.next<=b\/∃T,(b,T)∈p:=by intro b hb;obtain⟨⟨Z,o⟩,al,rfl⟩:=a0t.1 hb;exact(hq Z o al).2.2
  simp only[a0h,a0K,a0W,a0L,a0Y,a1l,a0e]at O⊢;obtain⟨n1,⟨n2,⟨n3,n4,n5⟩,n6⟩,n7⟩:=O;refine⟨n1,⟨b3,⟨n3,n4,n5⟩,fun a ha b hb a3=>?_⟩,fun a ha b hb a3=>?_⟩
  ·subst a3;have E: ∃x,(x∈A\/x∈C\/x∈R)/\a∈x.map Prod.fst:=by
    rcases hb with hb|hb
    ·obtain⟨x,E,U⟩:=a4 C a hb;exact⟨x,.inr (.inl E),U⟩
    obtain⟨x,E,U⟩:=a4 R a hb;exact⟨x,.inr (.inr E),U⟩
   obtain⟨x,E,U⟩:=E;obtain⟨h2,Y⟩:=ba x E a U;rcases bb a ha with h4|⟨T,h4⟩
   ·omega
   exact Y T h4
  subst a3;rcases hb with hb|hb
  ·obtain⟨x,E,U⟩:=a4 A a ha;obtain⟨h2,Y⟩:=ba x (.inl E) a U;rcases bb a hb with h4|⟨T,h4⟩
   ·omega
   exact Y T h4
  exact n7 a ha a (.inr hb) V
 ·rcases b1 b hb with U|U|⟨o,U⟩
  ·exact h.log b U
  ·exact .inr (.inl (a0g h.n0 U))
  exact .inr (h.mine p a1 b o U)
 have b0:=a6 x (.inl E)
 rcases b0 with rfl|⟨_,_⟩
 ·rcases (hq b o hb).2.2 with Y|⟨T,Y⟩
  ·exact .inl (a0g h.n0 Y)
  exact h.mine p a1 b T Y
 rw[e2]at E
 rcases a0e.1 E with E|E
 ·exact h.mine x (by rw[e1];exact a0e.2 (.inl E)) b o hb
 rcases a0m.1 E with rfl|E
 ·rcases (hq b o hb).2.2 with Y|⟨T,Y⟩
  ·exact .inl (a0g h.n0 Y)
  exact h.mine p a1 b T Y
 exact h.mine x (by rw[e1];exact a0e.2 (.inr (a0z _ E))) b o hb
theorem HS.cons(h:HS B F H L R):HS B F H ([]::L) R:=
 ⟨h.fz,fun p E b o hb=>by
  rcases E with E|E
  ·rcases a0m.1 E with rfl|E
   ·simp at hb
   exact h.own p (.inl E) b o hb
  ·exact h.own p (.inr E) b o hb,by simpa using h.nd,h.n0,h.log,fun p E b o hb=>by
  rcases a0m.1 E with rfl|E
  ·simp at hb
  exact h.mine p E b o hb⟩
theorem HS.snoc(h:HS B F H L R):HS B F H (L++[[]]) R:=
 ⟨h.fz,fun p E b o hb=>by
  rcases E with E|E
  ·rcases a0e.1 E with E|E
   ·exact h.own p (.inl E) b o hb
   simp at E;subst E;simp at hb
  ·exact h.own p (.inr E) b o hb,by simpa using h.nd,h.n0,h.log,fun p E b o hb=>by
  rcases a0e.1 E with E|E
  ·exact h.mine p E b o hb
  simp at E;subst E;simp at hb⟩
theorem HS.push(h:HS B F H L R)(o:AObj):HS B F (H.push o) (L++[[(H.next,o)]]) R:=by
 have E:=(h.snoc).turn (H':=H.push o) (i:=L.length) (p:=[]) (q:=[(H.next,o)]) (by simp) (by simp)
  (fun b hb _=>Heap.get_push_ne _ _ M) (fun b O hb=>by
   simp at hb;obtain⟨rfl,rfl⟩:=hb;exact⟨Heap.get_push_same _ _,by simp,.inl (a07 _)⟩) (by simp) (fun b hb=> .inl (by simpa using hb))
 simpa using E
theorem HS.put(h:HS B F H L R){i b:Nat}{o O:AObj}(hi:L[i]?=some [(b,o)]):HS B F (H.put b O) (L.set i [(b,O)]) R:=
 h.turn hi (by simp) (fun c _ E=>Heap.get_put_ne _ _ fun e=>E o (by simp[e])) (fun c T hb=>by
  simp at hb;obtain⟨rfl,rfl⟩:=hb;have:=(h.own _ (.inl (a0n hi)) c o (by simp)).2.1;exact⟨Heap.get_put_same _ _ _,by simpa using this,.inr ⟨o,by simp⟩⟩) (by simp) (fun c hc=>by
  rw[Heap.log_put]at hc;rcases a0m.1 hc with rfl|hc
  ·exact .inr (.inr ⟨o,by simp⟩)
  exact .inl hc)
theorem HS.get(h:HS B F H L R){i b:Nat}{p:Fp}{o:AObj}(hi:L[i]?=some p)(hb:(b,o)∈p):H.get b=some o:=(h.own p (.inl (a0n hi)) b o hb).1
theorem HS.drop(h:HS B F H L R){i:Nat}{p:Fp}(hi:L[i]?=some p):HS B F H (L.set i []) R:=
 h.turn hi (a07 _) (fun _ _ _=>rfl) (fun b o hb=>by simp at hb) (by simp) (fun b hb=> .inl hb)
theorem addL_get{p:Fp}: ∀{b:Nat} {o:AObj},(F.addL p) b=some o->F b=some o\/(b,o)∈p:=by
 induction p with
 |nil=>intro b o h;exact .inl h
 |cons x p ih=>
  obtain⟨E,O⟩:=x
  intro b o h
  simp only[Fz.addL,Fz.add]at h
  cases hb:Nat.beq E b with
  |true=>
   rw[hb]at h;simp only[cond_true,a01]at h;subst h
   have:=a06 hb;subst this
   exact .inr (by simp)
  |false=>
   rw[hb]at h
   rcases ih h with h1|h1
   ·exact .inl h1
   exact .inr (a0z _ h1)
theorem addL_of{p:Fp}: ∀{b:Nat} {o:AObj},(p.map Prod.fst).Nodup->(b,o)∈p->(F.addL p) b=some o:=by
 induction p with
 |nil=>intro b o _ h;simp at h
 |cons x p ih=>
  obtain⟨O,U⟩:=x
  intro b o E h
  simp only[List.map_cons,List.nodup_cons]at E
  simp only[Fz.addL,Fz.add]
  rcases a0m.1 h with e|h
  ·injection e with e1 e2;subst e1 e2;rw[a0M];rfl
  have T:Nat.beq O b=false:=by
   cases hb:Nat.beq O b with
   |false=>rfl
   |true=>have:=a06 hb;subst this;exact absurd (a0t.2 ⟨_,h,V⟩) E.1
  rw[T];exact ih E.2 h
theorem addL_le{p:Fp}(h: ∀b o,(b,o)∈p->F b=none):F.le (F.addL p):=by
 induction p with
 |nil=>exact F.le_refl
 |cons x p ih=>
  obtain⟨E,Y⟩:=x
  intro b o hb
  have O:=ih (fun b o T=>h b o (a0z _ T)) b o hb
  simp only[Fz.addL,Fz.add]
  cases U:Nat.beq E b with
  |false=>exact O
  |true=>
   have:=a06 U;subst this
   rw[h E Y (by simp)]at hb;cases hb
theorem HS.nodup_of(h:HS B F H L R){p:Fp}(E:p∈L):(p.map Prod.fst).Nodup:=by have:=h.nd;obtain⟨A,C,rfl⟩:=List.append_of_mem E;simp only[a0h,a0K,a0W,a0L,a0Y,a1l]at this;exact this.2.1.1
theorem HS.freeze(h:HS B F H L R){i:Nat}{p:Fp}(hi:L[i]?=some p): ∃F',F.le F'/\HS B F' H (L.set i []) R/\∀b o,(b,o)∈p->F' b=some o:=by
 have Y:p∈L:=a0n hi;have Z:=addL_le (F:=F) (p:=p) fun b o hb=>(h.own p (.inl Y) b o hb).2.2
 have hd:=h.drop hi;have al:=h.nodup_of Y;refine⟨F.addL p,Z,⟨fun b o hb=>?_,fun x E b o hb=>?_,hd.nd,hd.n0,hd.log,hd.mine⟩,fun b o hb=>addL_of al hb⟩
 ·rcases addL_get hb with O|O
  ·exact h.fz b o O
  have:=h.own p (.inl Y) b o O;exact⟨this.1,this.2.1⟩
 obtain⟨O,h2,h3⟩:=hd.own x E b o hb;refine⟨O,h2,?_⟩;cases hq:F.addL p b with
 |none=>rfl
 |some z=>
  exfalso
  rcases addL_get hq with h4|h4
  ·rw[h3]at h4;cases h4
  ·--disjoint
   obtain⟨A,C,e1,e2⟩:=nB L i p [] hi;have T:=h.nd;rw[e1]at T;simp only[a0h,a0K,a0W,a0L,a0Y,a1l,a0e]at T;have U:b∈p.map Prod.fst:=a0t.2 ⟨_,h4,V⟩;rcases E with E|E
   ·rw[e2]at E;rcases a0e.1 E with E|E
    ·exact T.2.2 b (a0t.2 ⟨(b,o),a0Q.2 ⟨x,E,hb⟩,V⟩) b (.inl U) V
    rcases a0m.1 E with rfl|E
    ·simp at hb
    exact T.2.1.2.2 b U b (.inl (a0t.2 ⟨(b,o),a0Q.2 ⟨x,E,hb⟩,V⟩)) V
   exact T.2.1.2.2 b U b (.inr (a0t.2 ⟨(b,o),a0Q.2 ⟨x,E,hb⟩,V⟩)) V
theorem HS.call(h:HS B F H L R):HS (.of H []) F H [] (L++R):=
 ⟨h.fz,fun p E b o hb=>by
  rcases E with E|E
  ·simp at E
  exact h.own p (a0e.1 E) b o hb,by simpa using h.nd,a07 _,fun b hb=> .inl hb,fun p E=>by simp at E⟩
theorem HS.back{b_:List Fp}{T:Heap}(h:HS B F H L R)(U:T=H)(k:HS (.of T []) F' H' b_ (L++R)):HS B F' H' (L++b_) R:=by
 subst U;refine⟨k.fz,fun p E b o hb=>k.own p ?_ b o hb,?_,a0g h.n0 k.n0,fun b hb=>?_,fun p E b o hb=>?_⟩
 ·rcases E with E|E
  ·rcases a0e.1 E with E|E
   ·exact .inr (a0e.2 (.inl E))
   exact .inl E
  exact .inr (a0e.2 (.inr E))
 ·have:=k.nd;have O:((L++b_++R).flatten.map Prod.fst).Perm ((b_++(L++R)).flatten.map Prod.fst):=by simp only[a0W,a0Y,a0h];exact a0Z _ _ _
  exact O.nodup_iff.2 this
 ·rcases k.log b hb with h1|h1|h1
  ·exact h.log b h1
  ·exact .inr (.inl (a0g h.n0 h1))
  simp[Base.of]at h1
 rcases a0e.1 E with E|E
 ·exact h.mine p E b o hb
 rcases k.mine p E b o hb with h1|h1
 ·exact .inl (a0g h.n0 h1)
 simp[Base.of]at h1
theorem HS.callOwn(h:HS B F H L R){i:Nat}{p:Fp}(hi:L[i]?=some p):HS (.of H (p.map Prod.fst)) F H [p] (L.set i []++R):=by
 obtain⟨A,C,T,U⟩:=nB L i p [] hi;have Y:p∈L:=a0n hi;refine⟨h.fz,fun x E b o hb=>?_,?_,a07 _,fun b hb=> .inl hb,fun x E b o hb=>?_⟩
 ·rcases E with E|E
  ·simp at E;subst E;exact h.own x (.inl Y) b o hb
  rw[U]at E;simp only[a0h,a0K,a0e,a0m]at E;rcases E with E|rfl|E|E
  ·exact h.own x (.inl (by rw[T];simp[E])) b o hb
  ·simp at hb
  ·exact h.own x (.inl (by rw[T];simp[E])) b o hb
  exact h.own x (.inr E) b o hb
 ·have:=h.nd;rw[T]at this;rw[U];have O:(([p]++(A++[]::C++R)).flatten.map Prod.fst).Perm ((A++p::C++R).flatten.map Prod.fst):=by simp only[a0W,a0L,List.flatten_nil,a0p,a0O,a0Y,a0h];exact a0Z _ _ _
  exact O.nodup_iff.2 this
 simp at E;subst E;exact .inr (a0t.2 ⟨_,hb,V⟩)
theorem HS.backOwn{Z:Heap}{W:List Nat}{p q:Fp}{b_:List Fp}(h:HS B F H L R){i:Nat}(hi:L[i]?=some p)(hH:Z=H)(hW: ∀b,b∈W->b∈p.map Prod.fst)(k:HS (.of Z W) F' H' (q::b_) (L.set i []++R)):HS B F' H' (L.set i q++b_) R:=by
 subst hH;obtain⟨A,C,e1,e2⟩:=jm L i p hi;have ax:p∈L:=a0n hi;have U: ∀b,b∈W->B.n0<=b\/b∈B.W:=fun b hb=>by obtain⟨⟨b',o⟩,an,rfl⟩:=a0t.1 (hW b hb);exact h.mine p ax b' o an
 have ar: ∀x,x∈A++q::C++b_\/x∈R->x∈q::b_\/x∈A++[]::C++R:=by
  intro x E;simp only[a0h,a0K,a0e,a0m]at E⊢;rcases E with(E|E|E|E)|E
  ·exact .inr (.inl E)
  ·exact .inl (.inl E)
  ·exact .inr (.inr (.inr (.inl E)))
  ·exact .inl (.inr E)
  exact .inr (.inr (.inr (.inr E)))
 have Y: ∀x,x∈q::b_->∀b o,(b,o)∈x->B.n0<=b\/b∈B.W:=fun x E b o hb=>by
  rcases k.mine x E b o hb with O|O
  ·exact .inl (a0g h.n0 O)
  exact U b O
 rw[e2]at k⊢;refine⟨k.fz,fun x E b o hb=>k.own x (ar x E) b o hb,?_,a0g h.n0 k.n0,fun b hb=>?_,fun x E b o hb=>?_⟩
 ·have:=k.nd;have T:((A++q::C++b_++R).flatten.map Prod.fst).Perm ((q::b_++(A++[]::C++R)).flatten.map Prod.fst):=by
   simp only[a0W,a0L,a0O,a0Y,a0h,a0K];have O: ∀(a c m q r:List Nat),(a++(q++(c++(m++r)))).Perm (q++(m++(a++(c++r)))):=by intro a c m q r;refine List.Perm.trans (a0Z a q _) (List.Perm.append_left q ?_);refine List.Perm.trans (List.Perm.append_left a (a0Z c m r)) ?_;exact a0Z a m _
   exact O _ _ _ _ _
  exact T.nodup_iff.2 this
 ·rcases k.log b hb with O|O|O
  ·exact h.log b O
  ·exact .inr (.inl (a0g h.n0 O))
  exact .inr (U b O)
 simp only[a0h,a0K,a0e,a0m]at E;rcases E with E|rfl|E|E
 ·exact h.mine x (by rw[e1];simp[E]) b o hb
 ·exact Y x (by simp) b o hb
 ·exact h.mine x (by rw[e1];simp[E]) b o hb
 exact Y x (by simp[E]) b o hb
end
end Go.R
end
noncomputable section
namespace Go.R
class Rp(α:Type) where
 sz:Nat
 rep:Fz->List Value->α->Prop
 len: ∀{F:Fz} {cs:List Value} {x:α},rep F cs x->cs.length=sz
 one: ∀{F:Fz} {cs:List Value} {x:α},rep F cs x->nW Value.oneCell' cs=true
 mono: ∀{F F':Fz} {cs:List Value} {x:α},F.le F'->rep F cs x->rep F' cs x
def RL{α:Type} [Rp α](F:Fz):List Value->List α->Prop
 |cs,[]=>cs=[]
 |cs,x::l=> ∃c r,cs=c++r/\Rp.rep F c x/\RL F r l
theorem allL_app{p:Value->Bool}(a b:List Value):nW p (a++b)=(nW p a&&nW p b):=by simp only[nV,List.all_append]
section
variable {α:Type} [Rp α] {F F':Fz}
theorem RL.length: ∀{l:List α} {cs:List Value},RL F cs l->cs.length=l.length *Rp.sz α
 | [],cs,h=>by simp only[RL]at h;subst h;simp
 |x::l,cs,h=>by obtain⟨c,r,rfl,E,O⟩:=h;rw[a00,Rp.len E,RL.length O,a02,a1m,Nat.add_comm]
theorem RL.mono(E:F.le F'): ∀{l:List α} {cs:List Value},RL F cs l->RL F' cs l
 | [],_,h=>h
 |_::_,_,⟨c,r,e,h1,h2⟩=>⟨c,r,e,Rp.mono E h1,RL.mono E h2⟩
theorem RL.one: ∀{l:List α} {cs:List Value},RL F cs l->nW Value.oneCell' cs=true
 | [],cs,h=>by simp only[RL]at h;subst h;rfl
 |x::l,cs,h=>by obtain⟨c,r,rfl,E,O⟩:=h;rw[allL_app,Rp.one E,RL.one O];rfl
theorem RL.append: ∀{l m:List α} {cs E:List Value},RL F cs l->RL F E m->RL F (cs++E) (l++m)
 | [],_,cs,_,h,k=>by simp only[RL]at h;subst h;exact k
 |_::_,_,_,_,⟨c,r,e,h1,h2⟩,k=>⟨c,_,by rw[e,a0h],h1,RL.append h2 k⟩
theorem RL.take: ∀{l:List α} {cs:List Value} (n:Nat),RL F cs l->RL F (cs.take (n *Rp.sz α)) (l.take n)
 |l,cs,0,h=>by simp[RL]
 | [],cs,n+1,h=>by simp only[RL]at h;subst h;simp[RL]
 |x::l,cs,n+1,h=>by
  obtain⟨c,r,rfl,E,U⟩:=h;refine⟨c,r.take (n *Rp.sz α),?_,E,RL.take n U⟩;rw[List.take_append,Rp.len E];have O:List.take ((n+1) *Rp.sz α) c=c:=a0D (by rw[Rp.len E,a1m];omega);have T:(n+1) *Rp.sz α-Rp.sz α=n *Rp.sz α:=by rw[a1m];omega
  rw[O,T]
theorem RL.drop: ∀{l:List α} {cs:List Value} (n:Nat),RL F cs l->RL F (cs.drop (n *Rp.sz α)) (l.drop n)
 |l,cs,0,h=>by simpa using h
 | [],cs,n+1,h=>by simp only[RL]at h;subst h;simp[RL]
 |x::l,cs,n+1,h=>by
  obtain⟨c,r,rfl,E,U⟩:=h;have:=RL.drop n U;rw[List.drop_append,Rp.len E];have O:List.drop ((n+1) *Rp.sz α) c=[]:=a1r (by rw[Rp.len E,a1m];omega);have T:(n+1) *Rp.sz α-Rp.sz α=n *Rp.sz α:=by rw[a1m];omega
  rw[O,T];exact this
theorem RL.head{l:List α}{x:α}{cs:List Value}(h:RL F cs (x::l)):Rp.rep F (cs.take (Rp.sz α)) x:=by obtain⟨c,r,rfl,E,_⟩:=h;rw[List.take_append,Rp.len E,a1U,List.take_zero,a0p,a0D (by rw[Rp.len E];omega)];exact E
theorem RL.at{l:List α}{cs:List Value}{j:Nat}{x:α}(h:RL F cs l)(O:l[j]?=some x):Rp.rep F ((cs.drop (j *Rp.sz α)).take (Rp.sz α)) x:=by
 have E:=h.drop j;have U:=(a0r.1 O).1;have T:l.drop j=x::l.drop (j+1):=by rw[a0T U];congr 1;exact(a0r.1 O).2
 rw[T]at E;exact E.head
theorem splice_eq(cs vs:List Value)(o:Nat)(h:o+vs.length<=cs.length):bx cs o vs=cs.take o++vs++cs.drop (o+vs.length):=by
 apply a1w;intro i;rw[bF cs o vs i h];simp only[a0h,List.getElem?_append,a0d,a0x,a0F];have e:min o cs.length=o:=M
 rw[e];by_cases E:i<o
 ·rw[if_pos E,if_neg M];simp[E]
 rw[if_neg E];by_cases O:i<o+vs.length
 ·rw[if_pos M,if_pos M]
 rw[if_neg M,if_neg M];congr 1;omega
theorem RL.set{l:List α}{cs c:List Value}{j:Nat}{x:α}(h:RL F cs l)(E:j<l.length)(hc:Rp.rep F c x):RL F (bx cs (j *Rp.sz α) c) (l.set j x):=by
 have O:=h.length;have hb:j *Rp.sz α+Rp.sz α<=cs.length:=by rw[O,←a1m];exact a0y _ E
 rw[splice_eq _ _ _ (by rw[Rp.len hc];exact hb),List.set_eq_take_append_cons_drop,if_pos E,Rp.len hc,a0h];refine(h.take j).append ?_;refine⟨c,_,V,hc,?_⟩;have:=h.drop (j+1);rw[a1m]at this;exact this
def Sl(F:Fz)(o:AObj)(off k:Nat)(l:List α):Prop:= ∃cs E O,o= .cells cs E O/\(O=false->off+k *Rp.sz α<=cs.length)/\l.length<=k/\RL F ((cs.drop off).take (l.length *Rp.sz α)) l/\(E=none\/E=some (Rp.sz α))
def Sv(F:Fz)(get:Nat->Option AObj)(v:Value)(l:List α):Prop:=
 (v= .slice none 0 0/\l=[])\/∃b off k o,v= .slice (some ⟨b,off,none⟩) l.length k/\get b=some o/\Sl F o off k l
def SR(F:Fz)(v:Value)(l:List α):Prop:=Sv F F v l
def OS(F:Fz)(v:Value)(l:List α)(p:Fp):Prop:=
 (v= .slice none 0 0/\l=[]/\p=[])\/∃b off k cs E,v= .slice (some ⟨b,off,none⟩) l.length k/\p=[(b,.cells cs E false)]/\Sl F (.cells cs E false) off k l
theorem Sl.mono(hF:F.le F'){o:AObj}{off k:Nat}{l:List α}(h:Sl F o off k l):Sl F' o off k l:=by obtain⟨cs,E,ro,O,T,U,Y,Z⟩:=h;exact⟨cs,E,ro,O,T,U,Y.mono hF,Z⟩
theorem SR.mono(E:F.le F'){v:Value}{l:List α}(h:SR F v l):SR F' v l:=by
 rcases h with h|⟨b,off,k,o,h1,h2,h3⟩
 ·exact .inl h
 exact .inr ⟨b,off,k,o,h1,E _ _ h2,h3.mono E⟩
theorem OS.mono(E:F.le F'){v:Value}{l:List α}{p:Fp}(h:OS F v l p):OS F' v l p:=by
 rcases h with h|⟨b,off,k,cs,opn,h1,h2,h3⟩
 ·exact .inl h
 exact .inr ⟨b,off,k,cs,opn,h1,h2,h3.mono E⟩
theorem SR.nil:SR F (.slice none 0 0) ([]:List α):= .inl ⟨V,V⟩
theorem OS.nil:OS F (.slice none 0 0) ([]:List α) []:= .inl ⟨V,V,V⟩
variable {B:Base} {H:Heap} {L R:List Fp} {v:Value} {l:List α} {p:Fp}
theorem SR.sv(h:SR F v l)(hs:HS B F H L R):Sv F H.get v l:=by
 rcases h with h|⟨b,off,k,o,h1,h2,h3⟩
 ·exact .inl h
 exact .inr ⟨b,off,k,o,h1,(hs.fz b o h2).1,h3⟩
theorem OS.sv(h:OS F v l p)(hs:HS B F H L R){i:Nat}(hi:L[i]?=some p):Sv F H.get v l:=by
 rcases h with⟨E,O,_⟩|⟨b,off,k,cs,U,E,O,T⟩
 ·exact .inl ⟨E,O⟩
 exact .inr ⟨b,off,k,_,E,hs.get hi (by rw[O];simp),T⟩
def sB:Value->Nat
 | .slice (some a) _ _=>a.block
 |_=>0
def sO:Value->Nat
 | .slice (some a) _ _=>a.off
 |_=>0
def HC(get:Nat->Option AObj)(b o:Nat)(cs:List Value):Prop:= ∃all E O,get b=some (.cells all E O)/\(all.drop o).take cs.length=cs
theorem Sv.at{get:Nat->Option AObj}(h:Sv F get v l){j:Nat}{x:α}(E:l[j]?=some x): ∃cs,Rp.rep F cs x/\HC get (sB v) (sO v+j *Rp.sz α) cs:=by
 rcases h with⟨_,rfl⟩|⟨b,off,k,o,rfl,U,cs,T,ro,rfl,h3,h4,Y,h6⟩
 ·simp at E
 have Z:=(a0r.1 E).1;have O:=Y.at E;refine⟨_,O,cs,T,ro,U,?_⟩;rw[Rp.len O];show(cs.drop (off+j *Rp.sz α)).take (Rp.sz α)=(((cs.drop off).take (l.length *Rp.sz α)).drop (j *Rp.sz α)).take (Rp.sz α);rw[a1W,List.take_take,List.drop_drop];congr 1;have:Rp.sz α<=l.length *Rp.sz α-j *Rp.sz α:=by have:=a0y (Rp.sz α) (show j+1<=l.length from Z);rw[a1m]at this;omega
 omega
theorem HC.get{get:Nat->Option AObj}{b o:Nat}{cs:List Value}(h:HC get b o cs){i:Nat}{v:Value}(E:cs[i]?=some v): ∃all O T,get b=some (.cells all O T)/\all[o+i]?=some v:=by
 obtain⟨all,O,T,U,Y⟩:=h;refine⟨all,O,T,U,?_⟩;rw[←Y,a0x]at E;split at E
 ·rw[a0F]at E;exact E
 cases E
theorem HC.part{get:Nat->Option AObj}{b o:Nat}{cs:List Value}(h:HC get b o cs){i n:Nat}(Z:i+n<=cs.length): ∃all E T,get b=some (.cells all E T)/\(all.drop (o+i)).take n=(cs.drop i).take n/\((cs.drop i).take n).length=n:=by
 obtain⟨all,E,T,U,Y⟩:=h;refine⟨all,E,T,U,?_,by rw[a0d,a0a];omega⟩;have O:(((all.drop o).take cs.length).drop i).take n=(cs.drop i).take n:=by rw[Y]
 rw[a1W,List.take_take,List.drop_drop]at O;rw[show min n (cs.length-i)=n by omega]at O;exact O
theorem HC.same{get:Nat->Option AObj}{b:Nat}{cs:List Value}{E:Option Nat}{O:Bool}(h:get b=some (.cells cs E O)):HC get b 0 cs:=⟨cs,E,O,h,by simp⟩
instance :Rp Int where
 sz:=1
 rep _ cs n:=cs=[.int .i64 n]/\in64 n
 len:=by rintro F cs x ⟨rfl,_⟩;rfl
 one:=by rintro F cs x ⟨rfl,_⟩;rfl
 mono:=by intro F F' cs x _ h;exact h
instance :Rp Bool where
 sz:=1
 rep _ cs n:=cs=[.bool n]
 len:=by rintro F cs x rfl;rfl
 one:=by rintro F cs x rfl;rfl
 mono:=by intro F F' cs x _ h;exact h
structure Str where
 b:List UInt8
 deriving DecidableEq,Inhabited
instance :Rp Str where
 sz:=1
 rep _ cs s:=cs=[.string ⟨⟨s.b⟩⟩]
 len:=by rintro F cs x rfl;rfl
 one:=by rintro F cs x rfl;rfl
 mono:=by intro F F' cs x _ h;exact h
structure U64 where
 n:Int
 deriving DecidableEq,Inhabited
instance :Rp U64 where
 sz:=1
 rep _ cs s:=cs=[.int .u64 s.n]/\0<=s.n/\s.n<18446744073709551616
 len:=by rintro F cs x ⟨rfl,_⟩;rfl
 one:=by rintro F cs x ⟨rfl,_⟩;rfl
 mono:=by intro F F' cs x _ h;exact h
instance :Rp UInt8 where
 sz:=1
 rep _ cs s:=cs=[.int .u8 s.toNat]
 len:=by rintro F cs x rfl;rfl
 one:=by rintro F cs x rfl;rfl
 mono:=by intro F F' cs x _ h;exact h
theorem Sv.shape{get:Nat->Option AObj}{v:Value}{l:List α}(h:Sv F get v l): ∃a k,v= .slice a l.length k:=by
 rcases h with⟨rfl,rfl⟩|⟨b,off,k,o,rfl,_⟩
 ·exact⟨none,0,V⟩
 exact⟨_,k,V⟩
theorem OS.shape{v:Value}{l:List α}{p:Fp}(h:OS F v l p): ∃a k,v= .slice a l.length k:=by
 rcases h with⟨rfl,rfl,_⟩|⟨b,off,k,cs,E,rfl,_⟩
 ·exact⟨none,0,V⟩
 exact⟨_,k,V⟩
instance :Rp (List α) where
 sz:=1
 rep F cs l:= ∃a k,cs=[.slice a l.length k]/\SR F (.slice a l.length k) l
 len:=by rintro F cs x ⟨a,k,rfl,_⟩;rfl
 one:=by rintro F cs x ⟨a,k,rfl,h⟩;rfl
 mono:=by rintro F F' cs x hF ⟨a,k,rfl,h⟩;exact⟨a,k,V,h.mono hF⟩
end
end Go.R
end
noncomputable section
namespace Go.R
section
variable {α:Type} [Rp α] {P:Program} {ρ:Operand->Value} {d:Option Tmp} {ty:TypeId} {pos:String} {af:Array Edge} {gd:Option (Nat×Bool)} {B:Base} {F:Fz} {H:Heap} {L R:List Fp} {v:Value} {l:List α} {p:Fp}
theorem gA{x:Operand}{t e:TypeId}(T:ρ x=v)(E:P.underlying t=some (.slice e))(h:Sv F H.get v l):
  AP P ρ ⟨d,.call ⟨.builtin .len, #[x], #[t]⟩,ty,pos,af,gd⟩ H (.val (.int .i64 l.length),H):=by
 refine⟨?_⟩
 obtain⟨a,k,O⟩:=h.shape
 show ovl (aLen P t (ρ x) H) H=_
 rw[T,O]
 unfold aLen
 rw[E];rfl
theorem fq{x:Operand}{t:TypeId}{s:List UInt8}(O:ρ x= .string ⟨⟨s⟩⟩)(E:P.underlying t=some .string):
  AP P ρ ⟨d,.call ⟨.builtin .len, #[x], #[t]⟩,ty,pos,af,gd⟩ H (.val (.int .i64 s.length),H):=by
 refine⟨?_⟩
 show ovl (aLen P t (ρ x) H) H=_
 rw[O]
 unfold aLen
 rw[E]
 show ovl (some (goInt (fE s))) H=_
 rw[bz];rfl
theorem fM{x i:Operand}{t e:TypeId}{ki:IntKind}{j:Int}(Y:ρ x=v)(hi:ρ i= .int ki j)(U:P.underlying t=some (.slice e))(Z:dV P e=some (Rp.sz α))(h:Sv F H.get v l)(O:0<=j:=by first|(dsimp only;omega)|omega)(E:j<l.length:=by first|(dsimp only;omega)|omega):
  AP P ρ ⟨d,.indexAddr t x i,ty,pos,af,gd⟩ H (.val (.pointer (some ⟨sB v,sO v+j.toNat *Rp.sz α,none⟩)),H):=by
 rcases h with⟨_,rfl⟩|⟨b,off,k,o,rfl,h2,cs,an,ro,rfl,h3,T,h5,h6⟩
 ·simp at E;omega
 exact kr Y hi U Z O E T
theorem bc{t:TypeId}{x:Operand}{b o E i:Nat}{cs:List Value}{w:Value}(Z:ρ x= .pointer (some ⟨b,E,none⟩))(ha:fN P t=some false)(hc:HC H.get b o cs)(U:E=o+i)(Y:cs[i]?=some w):
  AP P ρ ⟨d,.load t x,ty,pos,af,gd⟩ H (.val w,H):=by
 subst U
 obtain⟨all,al,ro,O,T⟩:=hc.get Y
 exact ap_load1 Z ha O T
theorem db{t:TypeId}{x:Operand}{b o O i n:Nat}{cs l:List Value}(hx:ρ x= .pointer (some ⟨b,O,none⟩))(ha:fN P t=some true)(hs:dV P t=some n)(hc:HC H.get b o cs)(ho:O=o+i)(Z:Nat.ble (i+n) cs.length=true)(E:en (ev cs i) n=l):
  AP P ρ ⟨d,.load t x,ty,pos,af,gd⟩ H (.val (.agg ⟨l⟩),H):=by
 subst ho
 obtain⟨all,ar,ro,T,U,Y⟩:=hc.part (a0b Z)
 rw[bR,bW]at E
 exact ap_loadN hx ha hs T (U.trans E) (by rw[←E];exact Y)
theorem bP{s:TypeId}{x:Operand}{f b o E:Nat}(O:ρ x= .pointer (some ⟨b,o,none⟩))(h:jz P s (.pointer (some ⟨b,o,none⟩)) f=some (.pointer (some ⟨b,E,none⟩))):
  AP P ρ ⟨d,.fieldAddr s x f,ty,pos,af,gd⟩ H (.val (.pointer (some ⟨b,E,none⟩)),H):=by
 refine⟨?_⟩
 show ovl (jz P s (ρ x) f) H=_
 rw[O,h];rfl
theorem ap_fv{t:TypeId}{x:Operand}{f:Nat}{u w:Value}(E:ρ x=u)(h:iX P t u f=some w):AP P ρ ⟨d,.field t x f,ty,pos,af,gd⟩ H (.val w,H):=by refine⟨?_⟩;show ovl (iX P t (ρ x) f) H=_;rw[E,h];rfl
theorem ap_ex{x:Operand}{i:Nat}{u w:Value}(E:ρ x=u)(h:iv u i=some w):AP P ρ ⟨d,.extract x i,ty,pos,af,gd⟩ H (.val w,H):=by refine⟨?_⟩;show ovl (iv (ρ x) i) H=_;rw[E,h];rfl
theorem lY{t:TypeId}{E:Array (Nat×Operand)}{ps:Array (Nat×Value)}{z:List Value}{w:Value}(O:E.map (fun p=>(p.1,ρ p.2))=ps)(T:dr P t=some z)(h:aB P (Instr.build t ps)=some w):
  AP P ρ ⟨d,.build t E,ty,pos,af,gd⟩ H (.val w,H):=by
 refine⟨?_⟩
 show iM P t (E.map fun p=>(p.1,ρ p.2)) H=_
 rw[O]
 unfold iM
 rw[T]
 show lift P (Instr.build t ps) H=_
 unfold lift
 rw[h]
theorem ap_alloc{e:TypeId}{z:List Value}(E:dr P e=some z):AP P ρ ⟨d,.alloc e,ty,pos,af,gd⟩ H (.val (.pointer (some ⟨H.next,0,none⟩)),H.push (.cells z none false)):=by refine⟨?_⟩;show ff P e H=_;unfold ff;rw[E];rfl
theorem ap_box{e:TypeId}{x:Operand}{cs:List Value}(E:(ρ x).cells.toList=cs):AP P ρ ⟨d,.box e x,ty,pos,af,gd⟩ H (.val (.pointer (some ⟨H.next,0,none⟩)),H.push (.cells cs none false)):=by subst E;exact⟨V⟩
theorem lm{b o:Nat}{cs vs:List Value}{E:Option Nat}(T:H.get b=some (.cells cs E false))(U:o+vs.length<=cs.length)(O:nW Value.oneCell' vs=true):H.storeL ⟨b,o,none⟩ vs=some (H.put b (.cells (bx cs o vs) E false)):=by unfold Heap.storeL;have:Nat.ble (Nat.add o (fE vs)) (fE cs)=true:=a0q (by rw[bz,bz];exact U);simp only[T,this,O,a1g,cond_true]
theorem ap_st{t:TypeId}{a x:Operand}{b o n:Nat}{u:Value}{E:List Value}{H1:Heap}(ha:ρ a= .pointer (some ⟨b,o,none⟩))(Y:ρ x=u)(U:dV P t=some n)(hc:u.cells.toList=E)(T:Nat.beq E.length n=true)(O:H.storeL ⟨b,o,none⟩ E=some H1):
  AP P ρ ⟨d,.store t a x,ty,pos,af,gd⟩ H (.skip,H1):=by
 refine⟨?_⟩
 show iL P t (ρ a) (ρ x) H=_
 rw[ha,Y]
 unfold iL
 have:u.cells.size=E.length:=by rw[←hc];simp
 rw[this,U]
 simp only[T,cond_true,hc,O]
 rfl
theorem HS.st(hs:HS B F H L R){i b o:Nat}{cs E O:List Value}(hi:L[i]?=some [(b,.cells cs none false)])(Y:Nat.ble (o+E.length) cs.length=true)(T:nW Value.oneCell' E=true)(U:bx cs o E=O):
  ∃H1,H.storeL ⟨b,o,none⟩ E=some H1/\HS B F H1 (L.set i [(b,.cells O none false)]) R:=by
 subst U
 exact⟨_,lm (hs.get hi (a0v.2 V)) (a0b Y) T,hs.put hi⟩
theorem HS.hc(hs:HS B F H L R){i b:Nat}{cs:List Value}(hi:L[i]?=some [(b,.cells cs none false)]):HC H.get b 0 cs:=HC.same (hs.get hi (a0v.2 V))
theorem os_set(h:OS F v l p)(hs:HS B F H L R){i j:Nat}(hi:L[i]?=some p){x x':α}{off:Nat}{E:List Value}(hx:l[j]?=some x)(h1:nW Value.oneCell' E=true)
  (hr: ∀cs,Rp.rep F cs x->off+E.length<=cs.length/\Rp.rep F (bx cs off E) x'):
  ∃H1 p',H.storeL ⟨sB v,sO v+j *Rp.sz α+off,none⟩ E=some H1/\OS F v (l.set j x') p'/\HS B F H1 (L.set i p') R/\∀b cs O,p=[(b,.cells cs O false)]->∃Z,p'=[(b,.cells Z O false)]:=by
 have hj:=(a0r.1 hx).1
 rcases h with⟨_,rfl,_⟩|⟨b,o,k,cs,O,rfl,rfl,b2,b1,b4,Y,h3,h4,h5,h6⟩
 ·simp at hj
 injection Y with e1 e2 e3
 subst e1 e2 e3
 replace h3:=h3 V
 have al:=h5.at hx
 have a0:=h5.length
 have a5:j *Rp.sz α+Rp.sz α<=l.length *Rp.sz α:=by rw[←a1m];exact a0y _ hj
 have b3:l.length *Rp.sz α<=k *Rp.sz α:=a0y _ h4
 obtain⟨T,g2⟩:=hr _ al
 have U:=Rp.len al
 have hb:o+j *Rp.sz α+off+E.length<=cs.length:=by rw[U]at T;omega
 refine⟨_,_,lm (b:=b) (o:=o+j *Rp.sz α+off) (hs.get hi (a0v.2 V)) hb h1,.inr ⟨b,o,k,_,O,by rw[a17],V,_,_,_,V,?_,by rw[a17];exact h4,?_,h6⟩,hs.put hi,?_⟩
 ·intro _;rw[cO _ _ _ hb];exact h3
 rotate_left
 ·intro b' Z b0 Y;simp only[List.cons.injEq,a04,AObj.cells.injEq,and_true]at Y;obtain⟨rfl,rfl,rfl⟩:=Y;exact⟨_,V⟩
 rw[a17]
 have key:((bx cs (o+j *Rp.sz α+off) E).drop o).take (l.length *Rp.sz α)=bx ((cs.drop o).take (l.length *Rp.sz α)) (j *Rp.sz α) (bx ((((cs.drop o).take (l.length *Rp.sz α)).drop (j *Rp.sz α)).take (Rp.sz α)) off E):=by
  have hA:(bx ((((cs.drop o).take (l.length *Rp.sz α)).drop (j *Rp.sz α)).take (Rp.sz α)) off E).length=Rp.sz α:=by rw[cO _ _ _ T,U]
  have hB:((cs.drop o).take (l.length *Rp.sz α)).length=l.length *Rp.sz α:=a0;apply a1w;intro q;rw[bF _ _ _ _ (by rw[hA,hB];exact a5),a0x,a0F,bF _ _ _ _ hb,hA];rw[U]at T;by_cases c1:q<l.length *Rp.sz α
  ·rw[if_pos c1];by_cases c2:o+j *Rp.sz α+off<=o+q/\o+q<o+j *Rp.sz α+off+E.length
   ·rw[if_pos c2,if_pos M,bF _ _ _ _ (by rw[U];exact T),if_pos M];congr 1;omega
   rw[if_neg c2];by_cases c3:j *Rp.sz α<=q/\q<j *Rp.sz α+Rp.sz α
   ·rw[if_pos c3,bF _ _ _ _ (by rw[U];exact T),if_neg M,a0x,if_pos M,a0F,a0x,if_pos M,a0F];congr 1;omega
   rw[if_neg c3,a0x,if_pos c1,a0F]
  rw[if_neg c1,if_neg M,a0x,if_neg c1]
 rw[key]
 exact h5.set hj g2
theorem Sv.first{x:Value}{E:List α}(h:Sv F H.get x E):lenA x=some E.length/\∃O,g0 H (Rp.sz α) E.length x=some O/\RL F O E:=by
 rcases h with⟨rfl,rfl⟩|⟨b,off,k,o,rfl,U,cs,Z,ro,rfl,h3,h4,T,h6⟩
 ·exact⟨V,[],V,V⟩
 refine⟨V,?_⟩;unfold g0;cases hb:Nat.beq E.length 0 with
 |true=>
  have:=a06 hb
  have e:E=[]:=a0i this
  subst e
  exact⟨[],V,V⟩
 |false=>
  refine⟨_,?_,T⟩
  simp only[cond_false]
  unfold Heap.loadN
  have Y:=T.length
  simp only[U,bR,bW,bz,Y,a0M,cond_true]
theorem os_append(h:OS F v l p)(hs:HS B F H L R){i:Nat}(hi:L[i]?=some p){x:Value}{E:List α}{O z:List Value}{types:Array TypeId}{st xt e:TypeId}{xd:TypeDesc}{a8:Nat}
  (h0:types[0]?=some st) (h1:types[1]?=some xt) (cl:P.underlying st=some (.slice e)) (cv:P.underlying xt=some xd) (cm: ∀k,xd≠ .int k) (hz:dV P e=some (Rp.sz α)) (b8:gz P e=some a8) (cw:dr P e=some z)
  (bl:Nat.beq (fE z) (Rp.sz α)=true) (a9:Nat.ble a8 4096=true) (an:Nat.beq (Rp.sz α) 0=false) (co:lenA x=some E.length) (hf:g0 H (Rp.sz α) E.length x=some O) (T:RL F O E) (a3:l.length+E.length<=2147483648):
  ∃a k H1 p',gC P types v x H=some (.slice a (l++E).length k,H1)/\OS F (.slice a (l++E).length k) (l++E) p'/\HS B F H1 (L.set i p') R:=by
 have al:L.set i p=L:=by obtain⟨A,C,e1,e2⟩:=jm L i p hi;rw[e2 p,←e1]
 have a4:=T.one
 have U:=T.length
 have c3:0<Rp.sz α:=by
  rcases a1t (Rp.sz α) with hq|hq
  ·rw[hq]at an;cases an
  exact hq
 have dd: ∀(Y:Option (Value×Heap)),(match xd with| .int _=>none|_=>Y)=Y:=by intro Y;cases xd<;>first|rfl|exact absurd V (cm _)
 unfold gC
 simp only[h0,h1,cl,cv,hz,b8,cw,co,hf]
 rcases h with⟨rfl,rfl,rfl⟩|⟨b,o,k,cs,ar,rfl,rfl,dn,dk,dp,he,h3,h4,h5,h6⟩
 ·cases hm:Nat.beq E.length 0 with
  |true=>
   have:E=[]:=a0i (a06 hm)
   subst this
   exact⟨none,0,H,[],V,.nil,by rw[al];exact hs⟩
  |false=>
   have a2:Nat.ble E.length 2147483648=true:=a0q (by simp at a3;omega)
   simp only[cond_false,bl,a2,a9,an,a1G,a1g,cond_true]
   refine⟨_,_,_,[(H.next,.cells O (some (Rp.sz α)) false)],V,.inr ⟨_,0,_,_,_,V,V,_,_,_,V,?_,by simp,?_,.inr V⟩,?_⟩
   ·intro _;show 0+E.length *Rp.sz α<=O.length;rw[U];omega
   ·rw[a0U,a0O,←U,a1e];exact T
   refine hs.turn hi (H':=aO H O (some (Rp.sz α))) (by simp[aO]) (fun b hb _=>Heap.get_push_ne _ _ M) (fun b o hb=>?_) (by simp) (fun b hb=> .inl (by simpa[aO] using hb))
   simp at hb;obtain⟨rfl,rfl⟩:=hb
   exact⟨Heap.get_push_same _ _,by simp[aO],.inl (a07 _)⟩
 injection he with e1 e2 e3
 subst e1 e2 e3
 replace h3:=h3 V
 have hg:=hs.get hi (b:=b) (o:= .cells cs ar false) (by simp)
 simp only[hg]
 cases hk:Nat.ble (l.length+E.length) k with
 |true=>
  have ba:=a0b hk
  simp only[cond_true]
  cases hm:Nat.beq E.length 0 with
  |true=>
   have:E=[]:=a0i (a06 hm)
   subst this
   simp only[cond_true,a0p]
   exact⟨_,_,_,_,V,.inr ⟨b,o,k,cs,ar,V,V,_,_,_,V,fun _=>h3,h4,h5,h6⟩,by rw[al];exact hs⟩
  |false=>
   simp only[cond_false]
   have b9:(l.length+E.length) *Rp.sz α<=k *Rp.sz α:=a0y _ ba
   have hb:o+l.length *Rp.sz α+O.length<=cs.length:=by rw[U];rw[a0N]at b9;omega
   rw[lm hg hb a4]
   simp only
   refine⟨some ⟨b,o,none⟩,k,_,[(b,.cells (bx cs (o+l.length *Rp.sz α) O) ar false)],by rw[a00],.inr ⟨b,o,k,_,ar,V,V,_,_,_,V,?_,by rw[a00];exact ba,?_,h6⟩,hs.put hi⟩
   ·intro _;rw[cO _ _ _ hb];exact h3
   have key:((bx cs (o+l.length *Rp.sz α) O).drop o).take ((l++E).length *Rp.sz α)=(cs.drop o).take (l.length *Rp.sz α)++O:=by
    have ch:=h5.length;apply a1w;intro q;rw[a0x,a0F,bF _ _ _ _ hb,a00,a0N,List.getElem?_append,ch];by_cases c1:q<l.length *Rp.sz α
    ·rw[if_pos M,if_neg M,if_pos c1,a0x,if_pos c1,a0F]
    rw[if_neg c1];by_cases c2:q<l.length *Rp.sz α+E.length *Rp.sz α
    ·rw[if_pos c2,if_pos (by rw[U];omega)];congr 1;omega
    rw[if_neg c2,a1f (by rw[U];omega)]
   rw[key]
   exact h5.append T
 |false=>
  simp only[cond_false]
  have a2:Nat.ble (l.length+E.length) 2147483648=true:=a0q a3
  have ck:Nat.ble l.length k=true:=a0q h4
  simp only[bl,a2,a9,an,ck,a1G,a1g,cond_true]
  have b5:g0 H (Rp.sz α) l.length (.slice (some ⟨b,o,none⟩) l.length k)=some ((cs.drop o).take (l.length *Rp.sz α)):=by
   unfold g0;cases hb:Nat.beq l.length 0 with
   |true=>
    have:=a06 hb
    simp[this]
   |false=>
    simp only[cond_false]
    unfold Heap.loadN
    have hl:=h5.length
    simp only[hg,bR,bW,bz,hl,a0M,cond_true]
  rw[b5]
  simp only[ef]
  have a0:=h5.append T
  have Z:=a0.length
  have a1: ∀(k':Nat) (bb:Nat),k'=(l++E).length->OS F (.slice (some ⟨bb,0,none⟩) (l++E).length k') (l++E) [(bb,.cells ((cs.drop o).take (l.length *Rp.sz α)++O) (some (Rp.sz α)) false)]:=by rintro k' bb rfl;refine .inr ⟨bb,0,_,_,_,V,V,_,_,_,V,fun _=>(by rw[Z];omega),a07 _,?_,.inr V⟩;rw[a0U,←Z,a1e];exact a0
  rcases h6 with rfl|rfl
  ·simp only;refine⟨some ⟨H.next,0,none⟩,l.length+E.length,_,_,by rw[a00],a1 _ _ (by rw[a00]),?_⟩;refine hs.turn hi (by simp[aO]) (fun b hb _=>Heap.get_push_ne _ _ M) (fun b o hb=>?_) (by simp) (fun b hb=> .inl (by simpa[aO] using hb));simp at hb;obtain⟨rfl,rfl⟩:=hb;exact⟨Heap.get_push_same _ _,by simp[aO],.inl (a07 _)⟩
  simp only[a0M,a1g,a4,cond_true]
  refine⟨some ⟨H.next,0,none⟩,l.length+E.length,_,_,by rw[a00],a1 _ _ (by rw[a00]),?_⟩
  refine hs.turn hi (by simp[aO]) (fun c hb ci=>?_) (fun c o hb=>?_) (by simp) (fun c hb=>?_)
  ·show((H.put b .dead).push _).get c=_;rw[Heap.get_push_ne _ _ (by simp;omega),Heap.get_put_ne _ _ fun e=>ci (.cells cs (some (Rp.sz α)) false) (by simp[e])]
  ·simp at hb;obtain⟨rfl,rfl⟩:=hb;exact⟨Heap.get_push_same (H.put b .dead) _,by simp[aO],.inl (a07 _)⟩
  simp only[aO,Heap.log_push,Heap.log_put]at hb
  rcases a0m.1 hb with rfl|hb
  ·exact .inr (.inr ⟨.cells cs (some (Rp.sz α)) false,by simp⟩)
  exact .inl hb
end
end Go.R
end
noncomputable section
set_option linter.unusedVariables false
namespace Go.R
section
variable {P:Program} {G:Nat} {cf:cX} {ops:Array Oper}
theorem kQ{s E:St}{d:Option Tmp}{v:Value}(h:s.put d v=some E):E.size=s.size:=by
 unfold St.put at h;cases d with
 |none=>simp only[a01]at h;rw[←h]
 |some d=>
  cases hb:Nat.ble (d+1) s.size with
  |true=>simp only[hb,cond_true,a01]at h;rw[←h]
  |false=>simp only[hb,cond_false]at h;cases h
theorem step_size{o:Oper}{s T:St}(h:step P G cf ops o s=some T):T.size=s.size:=by
 unfold step at h;cases O:bg ops o s.tmps with
 |false=>simp only[O,cond_false]at h;exact kQ h
 |true=>
  simp only[O,cond_true]at h
  cases E:o.op.operands.toList.all (bm G) with
  |false=>rw[E]at h;cases h
  |true=>
   rw[E]at h
   simp only[cond_true]at h
   split at h
   ·have:=kQ h;exact this
   ·have:=kQ h;exact this
   ·split at h
    ·have:=kQ h;exact this
    cases h
   cases h
theorem lx: ∀(l:List Oper) (s E:St),gD P G cf ops l s=some E->E.size=s.size
 | [],_,_,h=>by rw[jG]at h;simp only[a01]at h;rw[←h]
 |o::l,s,E,h=>by
  rw[cu]at h;split at h
  ·rename_i t O;rw[lx l _ _ h,step_size O]
  cases h
theorem j5: ∀(l:List Oper) (i:Nat) (fs:List (Nat×Inf)) (s s':St),bB P G cf ops i fs l s=some s'->s'.size=s.size
 | [],_,_,_,_,h=>by unfold bB at h;simp only[a01]at h;rw[←h]
 |o::l,i,fs,s,s',h=>by
  unfold bB at h;split at h
  ·rename_i t f E;cases O:cJ (cT ops) i f fs with
   |false=>rw[O]at h;cases h
   |true=>
    rw[O]at h
    rw[j5 l _ _ _ _ h]
    unfold iB at E
    split at E
    ·rename_i U T;simp only[a01,a04]at E;rw[←E.1];have:=step_size T;exact this
    cases E
  cases h
theorem region_size{E:Bool}{s T:St}(h:bY P G cf ops E s=some T):T.size=s.size:=by
 unfold bY at h;cases E with
 |false=>exact lx _ _ _ h
 |true=>
  simp only[cond_true]at h
  cases O:jg ops&&P.follows .mixedOrders with
  |false=>rw[O]at h;cases h
  |true=>rw[O]at h;exact j5 _ _ _ _ _ h
def SizeOK(ex:Code->St->Option (Ex×St)):Prop:= ∀c s e E,ex c s=some (e,E)->E.size=s.size
theorem execC_size{ex:Code->St->Option (Ex×St)}(an:SizeOK ex):SizeOK (fp P G ex cf):=by
 intro c;have Z: ∀{r:Option (Ex×St)} {k:St->Option (Ex×St)} {n:Nat} {e:Ex} {E:St},(∀e s,r=some (e,s)->s.size=n)->(∀s e E,s.size=n->k s=some (e,E)->E.size=n)->hM r k=some (e,E)->E.size=n:=by
  intro r k n e E hr hk h;cases T:r with
  |none=>rw[T]at h;cases h
  |some y=>
   obtain⟨Y,U⟩:=y
   have O:=hr Y U T
   rw[T]at h
   cases Y with
   |normal=>exact hk U e E O h
   |exit i=>simp only[hM,a01,a04]at h;rw[←h.2];exact O
   |ret=>simp only[hM,a01,a04]at h;rw[←h.2];exact O
 induction c with
 |skip=>intro s e E h;rw[mI]at h;simp only[a01,a04]at h;rw[←h.2]
 |region id ops draw=>
  intro s e E h
  rw[hL]at h
  cases T:bY P G cf ops draw s with
  |none=>rw[T]at h;cases h
  |some t=>
   rw[T]at h
   simp only[ek,a01,a04]at h
   rw[←h.2];exact region_size T
 |seq a b iha ihb=>
  intro s e E h
  rw[lO]at h
  exact Z (fun e U O=>iha s e U O) (fun U e E O h2=>(ihb U e E h2).trans O) h
 |cond c t e iht ihe=>
  intro s e E h
  rw[jS]at h
  cases T:bm G c with
  |false=>rw[T]at h;cases h
  |true=>
   rw[T]at h
   simp only[cond_true]at h
   unfold mL at h
   split at h
   ·rename_i b hb;cases b with
    |true=>exact iht s _ E h
    |false=>exact ihe s _ E h
   cases h
 |block id b ih=>
  intro s e E h
  rw[iS]at h
  cases T:fp P G ex cf b s with
  |none=>rw[T]at h;cases h
  |some y=>
   obtain⟨Y,U⟩:=y
   have O:=ih s Y U T
   rw[T]at h
   cases Y with
   |normal=>simp only[dH,a01,a04]at h;rw[←h.2];exact O
   |exit i=>
    unfold dH at h
    cases hb:Nat.beq i id with
    |true=>simp only[hb,cond_true,a01,a04]at h;rw[←h.2];exact O
    |false=>simp only[hb,cond_false,a01,a04]at h;rw[←h.2];exact O
   |ret=>simp only[dH,a01,a04]at h;rw[←h.2];exact O
 |loop b ih=>
  intro s e E h
  rw[jR]at h
  exact Z (fun e U O=>ih s e U O) (fun U e E O h2=>(an _ U e E h2).trans O) h
 |exit id=>intro s e E h;rw[mJ]at h;simp only[a01,a04]at h;rw[←h.2]
 |ret=>intro s e E h;rw[execC_ret]at h;simp only[a01,a04]at h;rw[←h.2]
 |_=>intro s e E h;cases h
theorem exec_size{K:bM}: ∀n,SizeOK (mK P G K n)
 |0=>fun c s e E h=>by cases h
 |n+1=>fun c=>execC_size (exec_size n) c
end
section
variable {P:Program} {G:Nat} {K:bM} {sz:Nat} {Q Q1:Ex->Fn->Heap->Prop} {c:Code} {k:List Fr} {f:Fn} {H:Heap}
theorem wk_cut(h1:WK P G K sz c [] f H Q1)(h2: ∀E H',Q1 .normal E H'->WK P G K sz .skip k E H' Q)(h3: ∀i E H',Q1 (.exit i) E H'->WK P G K sz (.exit i) k E H' Q)(h4: ∀E H',Q1 .ret E H'->Q .ret E H'):
  WK P G K sz c k f H Q:=⟨fun t ht=>by
 obtain⟨O,e,s1,hx,hq⟩:=h1.out t ht
 have Y:mK P G K (O+1) c ⟨t,sz,H⟩=some (e,s1):=hx
 have a2:=exec_size _ _ _ _ _ Y
 obtain⟨Z,T,H1⟩:=s1
 have a0:T=sz:=a2
 subst a0
 cases e with
 |ret=>exact⟨O,.ret,_,by rw[Y];exact kP k,h4 _ _ hq⟩
 |normal=>
  obtain⟨U,e,s',h5,h6⟩:=(h2 _ _ hq).out Z V
  refine⟨Nat.max O U,e,s',?_,h6⟩
  refine ep (a1d (a0V O U)) k _ _ (fun x al=>?_) _ h5
  have:x=(.normal,⟨Z,T,H1⟩):=by have:some (Ex.normal,(⟨Z,T,H1⟩:St))=some x:=al;exact(Option.some.inj this).symm
  subst this
  exact jq (a1d (a1k O U)) _ _ _ Y
 |exit i=>
  obtain⟨U,e,s',h5,h6⟩:=(h3 i _ _ hq).out Z V
  refine⟨Nat.max O U,e,s',?_,h6⟩
  refine ep (a1d (a0V O U)) k _ _ (fun x al=>?_) _ h5
  have:x=(.exit i,⟨Z,T,H1⟩):=by have:some (Ex.exit i,(⟨Z,T,H1⟩:St))=some x:=al;exact(Option.some.inj this).symm
  subst this
  exact jq (a1d (a1k O U)) _ _ _ Y⟩
def inR(lo hi:Nat)(ex:List Nat)(j:Nat):Bool:=(Nat.ble lo j&&Nat.ble j hi)||memB j ex
def hav(lo hi:Nat)(ex:List Nat)(g f:Fn):Fn:=fun j=>bif inR lo hi ex j then g j else f j
structure Leaves(lo hi:Nat)(ex:List Nat)(f f':Fn):Prop where
 out: ∀j,inR lo hi ex j=false->f' j=f j
theorem Leaves.refl{lo hi:Nat}{ex:List Nat}{f:Fn}:Leaves lo hi ex f f:=⟨fun _ _=>rfl⟩
theorem Leaves.upd{lo hi:Nat}{ex:List Nat}{f O:Fn}{i:Nat}{v:Value}(T:inR lo hi ex i=true)(h:Leaves lo hi ex f O):Leaves lo hi ex f (upd O i v):=⟨fun j E=>by
 unfold Go.R.upd;cases hb:Nat.beq i j with
 |true=>have:=a06 hb;subst this;rw[T]at E;cases E
 |false=>exact h.out j E⟩
theorem Leaves.eq{lo hi:Nat}{ex:List Nat}{f E:Fn}(h:Leaves lo hi ex f E):E=hav lo hi ex E f:=by
 funext j;unfold hav;cases hb:inR lo hi ex j with
 |true=>rfl
 |false=>exact h.out j hb
theorem cC{id:Nat}{ops:Array Oper}{O:Bool}(lo hi:Nat)(ex:List Nat)(l:List (Nat×Value))(T:Heap->Prop)
  (U:WK P G K sz (.region id ops O) [] f H fun e E H'=>e= .normal/\T H'/\Leaves lo hi ex f E/\aJ E l)
  (Y: ∀g H',T H'->WK P G K sz .skip k (gO (hav lo hi ex g f) l) H' Q):WK P G K sz (.region id ops O) k f H Q:=by
 refine wk_cut U ?_ ?_ ?_
 ·rintro E H' ⟨_,hH,hl,ha⟩;have:=Y E H' hH;rw[←hl.eq,fS ha]at this;exact this
 ·rintro i E H' ⟨h,_⟩;cases h
 rintro E H' ⟨h,_⟩;cases h
end
inductive ID where
 |v
 |a
 |r
 |l (b:Nat)
 |x (W:List Nat)
 |q (S:Nat->Prop)
 |n (B:Nat)
def ID.fits:ID->Inf->Prop
 | .v,g=>g= .v
 | .a,g=> ∃b,g= .a b
 | .r,g=>hN g=true
 | .l b,g=>g= .l b
 | .x W,g=> ∃w,g= .x w/\∀b,b∈w->b∈W
 | .q S,g=>g= .v\/∃b,g= .l b/\S b
 | .n B,g=> ∃b,g= .a b/\B<=b
def ID.nilW:List Nat->Prop
 | []=>True
 |_=>False
def cD:ID->ID->Prop
 | .v,_=>True
 |_,.v=>True
 | .q S,.x W=> ∀b,b∈W->¬S b
 | .x W,.q S=> ∀b,b∈W->¬S b
 | .l b,.x W=>b∉W
 | .x W,.l b=>b∉W
 | .x W,.x U=>ID.nilW W/\ID.nilW U
 | .n B,.x W=> ∀b,b∈W->b<B
 | .x _,.n _=>True
 | .a,.x W=>ID.nilW W
 | .r,.x W=>ID.nilW W
 | .x _,.a=>True
 | .x W,.r=>ID.nilW W
 |_,_=>True
theorem eX{b:Nat}: ∀{l:List Nat},b∉l->memB b l=false
 | [],_=>rfl
 |c::l,h=>by
  simp only[a0m,not_or]at h;unfold memB;have:Nat.beq b c=false:=by
   cases hb:Nat.beq b c with
   |false=>rfl
   |true=>exact absurd (a06 hb) h.1
  rw[this,eX h.2];rfl
theorem bU: ∀{d:ID} {g:Inf},d.fits g->(∀W,d≠ .x W)->hN g=true
 | .v,_,h,_=>by subst h;rfl
 | .a,_,⟨_,h⟩,_=>by subst h;rfl
 | .r,_,h,_=>h
 | .l _,_,h,_=>by subst h;rfl
 | .x W,_,_,h=>absurd V (h W)
 | .q _,_,h,_=>by rcases h with rfl|⟨_,rfl,_⟩<;>rfl
 | .n _,_,h,_=>by obtain⟨_,rfl,_⟩:=h;rfl
theorem fj{W:List Nat}{g:Inf}(h:ID.nilW W)(E:ID.fits (.x W) g):hN g=true:=by
 obtain⟨w,rfl,O⟩:=E;cases W with
 |nil=>
  cases w with
  |nil=>rfl
  |cons a t=>have:=O a (by simp);simp at this
 |cons _ _=>exact absurd h id
theorem compat_of{d e:ID}{f g:Inf}(hd:d.fits f)(E:e.fits g)(h:cD d e):eL f g=true:=by
 have key:hN f=true->hN g=true->eL f g=true:=nP;cases d with
 |v=>rw[show f= .v from hd];rfl
 |a=>
  cases e with
  |x W=>exact key (bU hd (by intro W h;cases h)) (fj h E)
  |v=>rw[show g= .v from E];cases f<;>rfl
  |_=>exact key (bU hd (by intro W h;cases h)) (bU E (by intro W h;cases h))
 |r=>
  cases e with
  |x W=>exact key (bU hd (by intro W h;cases h)) (fj h E)
  |v=>rw[show g= .v from E];cases f<;>rfl
  |_=>exact key (bU hd (by intro W h;cases h)) (bU E (by intro W h;cases h))
 |l b=>
  cases e with
  |x W=>
   obtain⟨w,rfl,O⟩:=E
   rw[show f= .l b from hd]
   show(!memB b w)=true
   rw[eX fun hb=>h (O b hb)];rfl
  |v=>rw[show g= .v from E];cases f<;>rfl
  |_=>exact key (bU hd (by intro W h;cases h)) (bU E (by intro W h;cases h))
 |x W=>
  cases e with
  |v=>rw[show g= .v from E];cases f<;>rfl
  |a=>obtain⟨b,rfl⟩:=E;obtain⟨w,rfl,_⟩:=hd;rfl
  |n B=>obtain⟨b,rfl,_⟩:=E;obtain⟨w,rfl,_⟩:=hd;rfl
  |r=>exact key (fj h hd) E
  |q S=>
   obtain⟨w,rfl,O⟩:=hd
   rcases E with rfl|⟨b,rfl,hb⟩
   ·rfl
   show(!memB b w)=true
   rw[eX fun T=>h b (O b T) hb];rfl
  |l b=>
   obtain⟨w,rfl,O⟩:=hd
   rw[show g= .l b from E]
   show(!memB b w)=true
   rw[eX fun hb=>h (O b hb)];rfl
  |x U=>exact key (fj h.1 hd) (fj h.2 E)
 |q S=>
  cases e with
  |x W=>
   obtain⟨w,rfl,O⟩:=E
   rcases hd with rfl|⟨b,rfl,hb⟩
   ·rfl
   show(!memB b w)=true
   rw[eX fun T=>h b (O b T) hb];rfl
  |v=>rw[show g= .v from E];cases f<;>rfl
  |_=>exact key (bU hd (by intro W h;cases h)) (bU E (by intro W h;cases h))
 |n B=>
  cases e with
  |x W=>
   obtain⟨w,rfl,O⟩:=E
   obtain⟨b,rfl,hb⟩:=hd
   show(!memB b w)=true
   rw[eX fun T=>absurd (h b (O b T)) (Nat.not_lt_of_le hb)];rfl
  |v=>rw[show g= .v from E];cases f<;>rfl
  |_=>exact key (bU hd (by intro W h;cases h)) (bU E (by intro W h;cases h))
def FsD:List (Nat×Inf)->List (Nat×ID)->Prop
 | [],[]=>True
 |(j,g)::fs,(i,d)::D=>j=i/\d.fits g/\FsD fs D
 |_,_=>False
def okD(ops:Array Oper)(i:Nat)(d:ID):List (Nat×ID)->Prop
 | []=>True
 |(j,e)::D=>(bw (cT ops) j i=true\/cD e d)/\okD ops i d D
theorem eh{ops:Array Oper}{i:Nat}{d:ID}{f:Inf}(E:d.fits f): ∀{fs:List (Nat×Inf)} {D:List (Nat×ID)},FsD fs D->okD ops i d D->cJ (cT ops) i f fs=true
 | [],[],_,_=>rfl
 |(j,g)::fs,(_,e)::D,⟨rfl,h2,h3⟩,⟨h4,h5⟩=>by
  unfold cJ;rw[eh E h3 h5,a0J];rcases h4 with h4|h4
  ·rw[h4];rfl
  rw[compat_of h2 E h4,a1A]
 | [],_::_,h,_=>absurd h id
 |_::_,[],h,_=>absurd h id
section
variable {P:Program} {G:Nat} {K:bM} {sz:Nat} {Q:Ex->Fn->Heap->Prop} {ops:Array Oper} {D:List (Nat×ID)} {i:Nat} {os:List Oper} {k:List Fr} {f:Fn} {H H1:Heap} {v:Value}
 {d:Tmp} {op:Op} {ty:TypeId} {pos:String} {af:Array Edge}
structure WF2(P:Program)(G:Nat)(K:bM)(sz:Nat)(ops:Array Oper)(D:List (Nat×ID))(i:Nat)(os:List Oper)(k:List Fr)(f:Fn)(H:Heap)(Q:Ex->Fn->Heap->Prop):Prop where
 out: ∀t fs,dm t=f->FsD fs D->∃n e s',runK P G K (n+1) k (ek (bB P G (call P G K n) ops i fs os ⟨t,sz,H⟩))=some (e,s')/\Q e (dm s'.tmps) s'.heap
theorem aC{id:Nat}(T:(jg ops&&P.follows .mixedOrders)=true)(h:WF2 P G K sz ops [] 0 ops.toList k f H Q):WK P G K sz (.region id ops true) k f H Q:=⟨fun t U=>by
 obtain⟨n,e,Y,E,O⟩:=h.out t [] U trivial;refine⟨n,e,Y,?_,O⟩;have:mK P G K (n+1) (.region id ops true) ⟨t,sz,H⟩=ek (bB P G (call P G K n) ops 0 [] ops.toList ⟨t,sz,H⟩):=by show ek (bY P G (call P G K n) ops true ⟨t,sz,H⟩)=_;unfold bY;simp only[cond_true,T]
 rw[this];exact E⟩
theorem dT(h:WK P G K sz .skip k f H Q):WF2 P G K sz ops D i [] k f H Q:=⟨fun t fs T _=>by
 obtain⟨n,e,U,E,O⟩:=h.out t T;exact⟨n,e,U,by unfold bB;exact E,O⟩⟩
def Did(ops:Array Oper)(f:Fn)(o:Oper)(n:Nat)(log:List Nat)(d:ID):Prop:= ∀t sz H,dm t=f->d.fits (eG ops o ⟨t,sz,H⟩ n log)
theorem did_v{o:Oper}{n:Nat}{log:List Nat}(h:aS o.op=true):Did ops f o n log .v:=fun _ _ _ _=>infOf_value h
theorem did_a{o:Oper}{n:Nat}{log:List Nat}(O:o.guard=none)(E:aS o.op=false)(h:eF o.op=true):Did ops f o n log .a:=fun t sz H _=>by unfold eG bg;simp only[O,a1p,E,Bool.or_self,cond_false,h,cond_true];exact⟨_,V⟩
theorem did_n{o:Oper}{n:Nat}{log:List Nat}(O:o.guard=none)(E:aS o.op=false)(h:eF o.op=true):Did ops f o n log (.n n):=fun t sz H _=>by unfold eG bg;simp only[O,a1p,E,Bool.or_self,cond_false,h,cond_true];exact⟨_,V,a07 _⟩
theorem fZ{E:Option Tmp}{lt:TypeId}{a:Operand}{n b o:Nat}{log:List Nat}(ha:dJ f a= .pointer (some ⟨b,o,none⟩)):Did ops f ⟨E,.load lt a,ty,pos,af,none⟩ n log (.l b):=fun t sz H O=>by
 have:dQ t a= .pointer (some ⟨b,o,none⟩):=by rw[fH,O];exact ha
 unfold eG bg;simp only[a1p,a1P,cond_false,eF,aS,this];rfl
theorem io{n b:Nat}{l:List Nat}(h:b∈d8 n l):b∈l/\b<n:=by
 induction l with
 |nil=>simp[d8]at h
 |cons c l ih=>
  unfold d8 at h
  cases hb:Nat.ble n c with
  |true=>
   rw[hb]at h
   have:=ih h
   exact⟨a0z _ this.1,this.2⟩
  |false=>
   rw[hb]at h
   rcases a0m.1 h with rfl|h
   ·refine⟨a1h ..,?_⟩;rcases a0c b n with h1|h1
    ·exact h1
    rw[a0q h1]at hb;cases hb
   have:=ih h
   exact⟨a0z _ this.1,this.2⟩
theorem did_r{o:Oper}{n:Nat}{log:List Nat}(h: ∀b,b∈log->n<=b):Did ops f o n log .r:=fun t sz H _=>infOf_benign (below_nil h)
theorem lQ{E:Option Tmp}{x:Operand}{ts:Array TypeId}{n k m:Nat}{a:Option Addr}{log:List Nat}(T:dJ f x= .slice a k m):Did ops f ⟨E,.call ⟨.builtin .len, #[x],ts⟩,ty,pos,af,none⟩ n log .v:=fun t sz H O=>by
 have:dQ t x= .slice a k m:=by rw[fH,O];exact T
 unfold eG bg;simp only[a1p,a1P,cond_false,eF,aS];show ID.fits .v (match ec (dQ t) [x] with| [.slice _ _ _]=>Inf.v| [.string _]=> .v|_=> .x (d8 n log));show ID.fits .v (match [dQ t x] with| [.slice _ _ _]=>Inf.v| [.string _]=> .v|_=> .x (d8 n log));rw[this];rfl
def gV:Op->Bool
 | .load _ _| .slice _ _ _ _ _| .call ⟨.builtin .len,_,_⟩=>false
 |o=> !aS o&& !eF o
theorem fY{o:Oper}{n:Nat}{log:List Nat}{W:List Nat}(Y:o.guard=none)(E:gV o.op=true)(h: ∀b,b∈log->n<=b\/b∈W):Did ops f o n log (.x W):=fun t sz H _=>by
 have T:aS o.op=false/\eF o.op=false:=by
  unfold gV at E;split at E
  ·cases E
  ·cases E
  ·cases E
  simpa using E
 refine⟨d8 n log,?_,fun b hb=>?_⟩
 ·unfold eG bg;simp only[Y,a1p,T.1,T.2,Bool.or_self,cond_false];split
  ·rename_i O;rw[O]at E;cases E
  ·rename_i O;rw[O]at E;cases E
  ·rename_i O;rw[O]at E;cases E
  rfl
 obtain⟨U,Z⟩:=io hb;rcases h b U with h3|h3
 ·omega
 exact h3
theorem wf_val{id:ID}(ha:AP P (dJ f) ⟨some d,op,ty,pos,af,none⟩ {H with log:=[]} (.val v,H1))(ho:op.operands.toList.all (bm G)=true)(hd:Nat.ble (d+1) sz=true)
  (T:Did ops f ⟨some d,op,ty,pos,af,none⟩ H.next H1.log id) (U:okD ops i id D)
  (h: ∀l,(∀b,b∈l->b∈H1.log\/b∈H.log)->WF2 P G K sz ops ((i,id)::D) (i+1) os k (upd f d v) {H1 with log:=l} Q):WF2 P G K sz ops D i (⟨some d,op,ty,pos,af,none⟩::os) k f H Q:=⟨fun t fs O E=>by
 obtain⟨t',Y,Z⟩:=m7 (P:=P) (G:=G) (ops:=ops) (t:=t) (sz:=sz) (o:=⟨some d,op,ty,pos,af,none⟩) V ho (by rw[O];exact ha.eq) hd
 have hi:=T t sz H O
 obtain⟨n,e,s',h3,h4⟩:=(h (d8 H.next H1.log++H.log) (fun b hb=>by
  rcases a0e.1 hb with hb|hb
  ·exact .inl (io hb).1
  exact .inr hb)).out t' ((i,eG ops ⟨some d,op,ty,pos,af,none⟩ ⟨t,sz,H⟩ H.next H1.log)::fs) (by rw[Z,O];rfl) ⟨V,hi,E⟩
 refine⟨n,e,s',?_,h4⟩
 unfold bB iB
 rw[Y]
 simp only[eh hi E U,cond_true]
 exact h3⟩
theorem bf{id:ID}(ha:AP P (dJ f) ⟨some d,op,ty,pos,af,none⟩ {H with log:=[]} (.val v,{H with log:=[]}))(ho:op.operands.toList.all (bm G)=true)(hd:Nat.ble (d+1) sz=true)
  (T:Did ops f ⟨some d,op,ty,pos,af,none⟩ H.next [] id) (U:okD ops i id D)
  (h:WF2 P G K sz ops ((i,id)::D) (i+1) os k (upd f d v) H Q):WF2 P G K sz ops D i (⟨some d,op,ty,pos,af,none⟩::os) k f H Q:=⟨fun t fs O E=>by
 obtain⟨t',Y,Z⟩:=m7 (P:=P) (G:=G) (ops:=ops) (t:=t) (sz:=sz) (o:=⟨some d,op,ty,pos,af,none⟩) V ho (by rw[O];exact ha.eq) hd
 have hi:=T t sz H O
 obtain⟨n,e,s',h3,h4⟩:=h.out t' ((i,eG ops ⟨some d,op,ty,pos,af,none⟩ ⟨t,sz,H⟩ H.next [])::fs) (by rw[Z,O];rfl) ⟨V,hi,E⟩
 refine⟨n,e,s',?_,h4⟩
 unfold bB iB
 rw[Y]
 simp only[eh hi E U,cond_true,d8,a0O]
 exact h3⟩
theorem wf_skip{id:ID}(ha:AP P (dJ f) ⟨none,op,ty,pos,af,none⟩ {H with log:=[]} (.skip,H1))(ho:op.operands.toList.all (bm G)=true)
  (T:Did ops f ⟨none,op,ty,pos,af,none⟩ H.next H1.log id) (U:okD ops i id D)
  (h: ∀l,(∀b,b∈l->b∈H1.log\/b∈H.log)->WF2 P G K sz ops ((i,id)::D) (i+1) os k f {H1 with log:=l} Q):WF2 P G K sz ops D i (⟨none,op,ty,pos,af,none⟩::os) k f H Q:=⟨fun t fs O E=>by
 obtain⟨t',Y,Z⟩:=step_skip (P:=P) (G:=G) (ops:=ops) (t:=t) (sz:=sz) (o:=⟨none,op,ty,pos,af,none⟩) V ho (by rw[O];exact ha.eq) V
 have hi:=T t sz H O
 obtain⟨n,e,s',h3,h4⟩:=(h (d8 H.next H1.log++H.log) (fun b hb=>by
  rcases a0e.1 hb with hb|hb
  ·exact .inl (io hb).1
  exact .inr hb)).out t' ((i,eG ops ⟨none,op,ty,pos,af,none⟩ ⟨t,sz,H⟩ H.next H1.log)::fs) (by rw[Z,O];rfl) ⟨V,hi,E⟩
 refine⟨n,e,s',?_,h4⟩
 unfold bB iB
 rw[Y]
 simp only[eh hi E U,cond_true]
 exact h3⟩
theorem bH{W:List Nat}{g:FuncId}{args:List Value}{R:Value->Heap->Prop}(ha:AP P (dJ f) ⟨some d,op,ty,pos,af,none⟩ {H with log:=[]} (.enter g args,{H with log:=[]}))(ho:op.operands.toList.all (bm G)=true)(hd:Nat.ble (d+1) sz=true)(hk:gV op=true)
  (hc:C P G K g args {H with log:=[]} R) (a0:okD ops i (.x W) D)
  (h: ∀v E,R v E->(∀b,b∈E.log->H.next<=b\/b∈W)/\∀l,(∀b,b∈l->b∈E.log\/b∈H.log)->WF2 P G K sz ops ((i,.x W)::D) (i+1) os k (upd f d v) {E with log:=l} Q):WF2 P G K sz ops D i (⟨some d,op,ty,pos,af,none⟩::os) k f H Q:=⟨fun t fs ht Y=>by
 obtain⟨T,v,E,ax,hr⟩:=hc.out
 obtain⟨Z,h0⟩:=h v E hr
 obtain⟨t',h1,h2⟩:=j6 (s:=⟨t,sz,E⟩) (d:=some d) (v:=v) hd
 have hi:=fY (ops:=ops) (f:=f) (o:=⟨some d,op,ty,pos,af,none⟩) V hk Z t sz H ht
 obtain⟨O,e,s',h3,h4⟩:=(h0 (d8 H.next E.log++H.log) (fun b hb=>by
  rcases a0e.1 hb with hb|hb
  ·exact .inl (io hb).1
  exact .inr hb)).out t' ((i,eG ops ⟨some d,op,ty,pos,af,none⟩ ⟨t,sz,H⟩ H.next E.log)::fs) (by rw[h2,ht];rfl) ⟨V,hi,Y⟩
 refine⟨Nat.max T O,e,s',?_,h4⟩
 have a1:step P G (call P G K (Nat.max T O)) ops ⟨some d,op,ty,pos,af,none⟩ ⟨t,sz,{H with log:=[]}⟩=some ⟨t',sz,E⟩:=by unfold step bg;simp only[cond_true,ho,fH,ht,ha.eq,gc (a1k T O) _ _ _ _ ax];exact h1
 unfold bB iB
 rw[a1]
 simp only[eh hi Y a0,cond_true]
 refine ep (a1d (a0V T O)) k _ _ (fun x U=>?_) _ h3
 cases hq:bB P G (call P G K O) ops (i+1) ((i,eG ops ⟨some d,op,ty,pos,af,none⟩ ⟨t,sz,H⟩ H.next E.log)::fs) os ⟨t',sz,{E with log:=d8 H.next E.log++H.log}⟩ with
 |none=>rw[hq]at U;cases U
 |some y=>
  have:=fD (gc (P:=P) (G:=G) (K:=K) (a0V T O)) _ _ _ _ _ hq
  rw[hq]at U
  rw[this];exact U⟩
theorem inf_guard{t:Tr Value}{v want:Bool}{j:Nat}{E:Option Tmp}(U:dm t=f)(Z:cZ ops f j=some v)(Y:v=want)(sz:Nat)(H:Heap)(n:Nat)(log:List Nat):
  eG ops ⟨E,op,ty,pos,af,some (j,want)⟩ ⟨t,sz,H⟩ n log=eG ops ⟨E,op,ty,pos,af,none⟩ ⟨t,sz,H⟩ n log:=by
 have O:bg ops ⟨E,op,ty,pos,af,some (j,want)⟩ t=true:=by rw[jb U Z _ V,Y];cases want<;>rfl
 have T:bg ops ⟨E,op,ty,pos,af,none⟩ t=true:=rfl
 unfold eG
 simp only[O,T]
theorem bk{v want:Bool}{j:Nat}{O:Option Tmp}(hy:cZ ops f j=some v)(Z:v=want)(h:WF2 P G K sz ops D i (⟨O,op,ty,pos,af,none⟩::os) k f H Q):WF2 P G K sz ops D i (⟨O,op,ty,pos,af,some (j,want)⟩::os) k f H Q:=⟨fun t fs T U=>by
 obtain⟨n,e,s',E,h2⟩:=h.out t fs T U;refine⟨n,e,s',?_,h2⟩;unfold bB iB at E⊢;rw[mn T hy Z];cases Y:step P G (call P G K n) ops ⟨O,op,ty,pos,af,none⟩ ⟨t,sz,{H with log:=[]}⟩ with
 |none=>rw[Y]at E;exact E
 |some s1=>
  rw[Y]at E
  simp only[inf_guard T hy Z]
  exact E⟩
theorem lb{want:Bool}{j:Nat}(hw: ∀t,dm t=f->bg ops ⟨some d,op,ty,pos,af,some (j,want)⟩ t=false)(hd:Nat.ble (d+1) sz=true)
  (h:WF2 P G K sz ops ((i,.v)::D) (i+1) os k (upd f d undef) H Q):WF2 P G K sz ops D i (⟨some d,op,ty,pos,af,some (j,want)⟩::os) k f H Q:=⟨fun t fs U O=>by
 obtain⟨Y,h3,h4⟩:=j6 (s:=⟨t,sz,{H with log:=[]}⟩) (d:=some d) (v:=undef) hd
 have E:=hw t U
 have hi:eG ops ⟨some d,op,ty,pos,af,some (j,want)⟩ ⟨t,sz,H⟩ H.next []= .v:=by unfold eG;simp only[E,a1G,Bool.true_or,cond_true]
 obtain⟨n,e,s',Z,h2⟩:=h.out Y ((i,.v)::fs) (by rw[h4,U];rfl) ⟨V,V,O⟩
 refine⟨n,e,s',?_,h2⟩
 have T:step P G (call P G K n) ops ⟨some d,op,ty,pos,af,some (j,want)⟩ ⟨t,sz,{H with log:=[]}⟩=some ⟨Y,sz,{H with log:=[]}⟩:=by unfold step;simp only[E,cond_false];exact h3
 have hc:cJ (cT ops) i .v fs=true:=ku fun j g _=>by cases g<;>simp[eL]
 unfold bB iB
 rw[T]
 simp only[hi,hc,cond_true,d8,a0O]
 exact Z⟩
theorem aK{v want:Bool}{j:Nat}(T:cZ ops f j=some v)(O:v= !want)(hd:Nat.ble (d+1) sz=true)(h:WF2 P G K sz ops ((i,.v)::D) (i+1) os k (upd f d undef) H Q):
  WF2 P G K sz ops D i (⟨some d,op,ty,pos,af,some (j,want)⟩::os) k f H Q:=
 lb (fun t E=>by rw[jb E T _ V,O];cases want<;>rfl) hd h
theorem wf_gn{want:Bool}{j:Nat}(O:cZ ops f j=none)(hd:Nat.ble (d+1) sz=true)(h:WF2 P G K sz ops ((i,.v)::D) (i+1) os k (upd f d undef) H Q):
  WF2 P G K sz ops D i (⟨some d,op,ty,pos,af,some (j,want)⟩::os) k f H Q:=
 lb (fun t E=>by
  unfold bg;have:mh ops t j=none:=by rw[←O,←E];rfl
  simp only[this];cases want<;>rfl) hd h
theorem wf_gsT{v:Bool}{j:Nat}(E:cZ ops f j=some v)(hd:Nat.ble (d+1) sz=true)(O:v=true->WF2 P G K sz ops D i (⟨some d,op,ty,pos,af,none⟩::os) k f H Q)(T:v=false->WF2 P G K sz ops ((i,.v)::D) (i+1) os k (upd f d undef) H Q):
  WF2 P G K sz ops D i (⟨some d,op,ty,pos,af,some (j,true)⟩::os) k f H Q:=by
 cases v with
 |true=>exact bk E V (O V)
 |false=>exact aK E V hd (T V)
theorem wf_gsF{v:Bool}{j:Nat}(E:cZ ops f j=some v)(hd:Nat.ble (d+1) sz=true)(O:v=false->WF2 P G K sz ops D i (⟨some d,op,ty,pos,af,none⟩::os) k f H Q)(T:v=true->WF2 P G K sz ops ((i,.v)::D) (i+1) os k (upd f d undef) H Q):
  WF2 P G K sz ops D i (⟨some d,op,ty,pos,af,some (j,false)⟩::os) k f H Q:=by
 cases v with
 |true=>exact aK E V hd (T V)
 |false=>exact bk E V (O V)
end
end Go.R
end
noncomputable section
namespace Go.R
theorem gM{n:Int}(h:in64 n):IntKind.i64.wrap n=n:=by
 have e:IntKind.i64.wrap n=if(true&&decide (n%(2^64:Int)>=(2^63:Int))) then n%(2^64:Int)-(2^64:Int) else n%(2^64:Int):=rfl
 rw[e];obtain⟨O,T⟩:=h;by_cases E:0<=n
 ·rw[Int.emod_eq_of_lt E M];have:decide (n>=(2^63:Int))=false:=decide_eq_false M;rw[this];rfl
 have:n%(2^64:Int)=n+2^64:=M
 rw[this];have:decide (n+2^64>=(2^63:Int))=true:=decide_eq_true M;rw[this];simp only[a1g,if_true];omega
theorem gL{n:Int}(h:0<=n/\n<18446744073709551616):IntKind.u64.wrap n=n:=by show n%(2^64:Int)=n;exact Int.emod_eq_of_lt h.1 M
theorem w_u8{n:Int}(h:0<=n/\n<256):IntKind.u8.wrap n=n:=by show n%(2^8:Int)=n;exact Int.emod_eq_of_lt h.1 M
theorem dD(b:UInt8):(b.toNat:Int)<256:=by have:=UInt8.toNat_lt b;omega
section
variable {α:Type} [Rp α] {P:Program} {ρ:Operand->Value} {d:Option Tmp} {ty:TypeId} {pos:String} {af:Array Edge} {gd:Option (Nat×Bool)} {B:Base} {F:Fz} {H:Heap} {L R:List Fp} {v:Value} {l:List α} {p:Fp}
variable {t yt:TypeId} {x y:Operand} {k:IntKind} {a b c:Int}
theorem dG(k:IntKind):gG k k=true:=by cases k<;>rfl
theorem eA(O:ρ x= .int k a)(T:ρ y= .int k b)(E:k.wrap (a+b)=c):AP P ρ ⟨d,.binOp .add t x y yt,ty,pos,af,gd⟩ H (.val (.int k c),H):=
 jx O T (by subst E;show(bif gG k k then _ else none:Option Value)=_;rw[dG];rfl)
theorem ap_sub(O:ρ x= .int k a)(T:ρ y= .int k b)(E:k.wrap (a-b)=c):AP P ρ ⟨d,.binOp .sub t x y yt,ty,pos,af,gd⟩ H (.val (.int k c),H):=
 jx O T (by subst E;show(bif gG k k then _ else none:Option Value)=_;rw[dG];rfl)
theorem ap_mul(O:ρ x= .int k a)(T:ρ y= .int k b)(E:k.wrap (a *b)=c):AP P ρ ⟨d,.binOp .mul t x y yt,ty,pos,af,gd⟩ H (.val (.int k c),H):=
 jx O T (by subst E;show(bif gG k k then _ else none:Option Value)=_;rw[dG];rfl)
theorem ap_div(O:ρ x= .int k a)(T:ρ y= .int k b)(hb:b≠0)(E:k.wrap (a.tdiv b)=c):AP P ρ ⟨d,.binOp .quo t x y yt,ty,pos,af,gd⟩ H (.val (.int k c),H):=by subst E;exact ap_quo O T (dG k) (by simpa using hb)
theorem ap_mod(O:ρ x= .int k a)(T:ρ y= .int k b)(hb:b≠0)(E:a.tmod b=c):AP P ρ ⟨d,.binOp .rem t x y yt,ty,pos,af,gd⟩ H (.val (.int k c),H):=by subst E;exact ap_rem O T (dG k) (by simpa using hb)
theorem lX{s:TypeId}{E:IntKind}{u:TypeDesc}(U:ρ x= .int k a)(hs:P.underlying s=some u)(O:P.underlying t=some (.int E))(T:E.wrap a=c):
  AP P ρ ⟨d,.convert s t x,ty,pos,af,gd⟩ H (.val (.int E c),H):=by subst T;exact ap_conv U hs O
theorem ap_ng(O:ρ x= .int k a)(E:k.wrap (0-a)=c):AP P ρ ⟨d,.unOp .neg t x,ty,pos,af,gd⟩ H (.val (.int k c),H):=by subst E;exact ap_neg O
theorem bd{op:BinOp}{r:Bool}(O:ρ x= .int k a)(T:ρ y= .int k b)(E:mD op k a b=some (.bool r))(hs:lM op=false):AP P ρ ⟨d,.binOp op t x y yt,ty,pos,af,gd⟩ H (.val (.bool r),H):=
 jx O T (by rw[hs,dG];exact E)
variable {s u:List UInt8}
theorem dI{i:Operand}{O:IntKind}{j:Int}{E:UInt8}(Y:ρ x= .string ⟨⟨s⟩⟩)(hi:ρ i= .int O j)(U:P.underlying t=some .string)(T:0<=j)(hc:s[j.toNat]?=some E):
  AP P ρ ⟨d,.index t x i,ty,pos,af,gd⟩ H (.val (.int .u8 E.toNat),H):=by
 refine⟨?_⟩
 obtain⟨m,rfl⟩:=a0R T
 show l6 P t (ρ x) (ρ i) H=_
 rw[Y,hi]
 show ovl (strAt P t ⟨⟨s⟩⟩ (.int O (Int.ofNat m))) H=_
 unfold strAt
 rw[U]
 show ovl (match nth s m with|some b=>some (.int .u8 b.toNat)|none=>none) H=_
 rw[gE]
 have:s[m]?=some E:=hc
 rw[this];rfl
theorem ap_eqS(E:ρ x= .string ⟨⟨s⟩⟩)(O:ρ y= .string ⟨⟨u⟩⟩):AP P ρ ⟨d,.binOp .eql t x y yt,ty,pos,af,gd⟩ H (.val (.bool (s==u)),H):=ap_str E O V
theorem ap_neS(E:ρ x= .string ⟨⟨s⟩⟩)(O:ρ y= .string ⟨⟨u⟩⟩):AP P ρ ⟨d,.binOp .neq t x y yt,ty,pos,af,gd⟩ H (.val (.bool (s !=u)),H):=ap_str E O V
theorem ap_leS(E:ρ x= .string ⟨⟨s⟩⟩)(O:ρ y= .string ⟨⟨u⟩⟩):AP P ρ ⟨d,.binOp .leq t x y yt,ty,pos,af,gd⟩ H (.val (.bool (Op.bytesLess s u||s==u)),H):=ap_str E O V
theorem ap_ltS(E:ρ x= .string ⟨⟨s⟩⟩)(O:ρ y= .string ⟨⟨u⟩⟩):AP P ρ ⟨d,.binOp .lss t x y yt,ty,pos,af,gd⟩ H (.val (.bool (Op.bytesLess s u)),H):=ap_str E O V
theorem ap_addS(O:ρ x= .string ⟨⟨s⟩⟩)(T:ρ y= .string ⟨⟨u⟩⟩)(E:s.length+u.length<=1099511627776):AP P ρ ⟨d,.binOp .add t x y yt,ty,pos,af,gd⟩ H (.val (.string ⟨⟨s++u⟩⟩),H):=
 ap_str O T (by
  show(bif Nat.ble (fE (appL s u)) 1099511627776 then some (Value.string ⟨⟨appL s u⟩⟩) else none)=_;rw[ef,bz,a00,a0q E];rfl)
def cutAt(n:Nat)(lo hi:Option Value)(i j:Nat):Prop:=bnds n n lo hi=some (i,j)
theorem bnds_of{n k i j:Nat}{lo hi:Option Value}(O:cM n hi=some j)(T:cM 0 lo=some i)(E:i<=j)(U:j<=k):bnds n k lo hi=some (i,j):=by unfold bnds;simp only[O,T,a0q E,a0q U,a1g,cond_true]
theorem optN{d:Nat}{O:IntKind}{j:Int}(E:0<=j):cM d (some (.int O j))=some j.toNat:=by obtain⟨m,rfl⟩:=a0R E;rfl
theorem optN0{d:Nat}:cM d none=some d:=rfl
theorem ap_slS{lo hi:Option Operand}{i j:Nat}(Z:ρ x= .string ⟨⟨s⟩⟩)(Y:P.underlying t=some .string)(O:cM s.length (hi.map ρ)=some j)(T:cM 0 (lo.map ρ)=some i)(E:i<=j)(U:j<=s.length):
  AP P ρ ⟨d,.slice t x lo hi none,ty,pos,af,gd⟩ H (.val (.string ⟨⟨(s.drop i).take (j-i)⟩⟩),H):=by
 refine⟨?_⟩
 show ovl (bQ P t (ρ x) (lo.map ρ) (hi.map ρ) (Option.map ρ none) H) H=_
 rw[Z]
 unfold bQ
 simp only[a1Q,Y]
 show ovl (match bnds (fE s) (fE s) (lo.map ρ) (hi.map ρ) with|some (l,r)=>some (.string ⟨⟨en (ev s l) (r-l)⟩⟩)|none=>none) H=_
 rw[bz,bnds_of O T E U]
 simp only[bR,bW];rfl
theorem Sl_cut{F:Fz}{o:AObj}{off k i j:Nat}{l:List α}(h:Sl F o off k l)(ax:i<=j)(hj:j<=l.length):Sl F o (off+i *Rp.sz α) (k-i) ((l.take j).drop i):=by
 obtain⟨cs,Y,ro,rfl,O,h2,T,Z⟩:=h;have hl:=T.length;have E:((l.take j).drop i).length=j-i:=by simp;omega
 refine⟨cs,Y,ro,V,fun U=>?_,by rw[E];omega,?_,Z⟩
 ·replace O:=O U;have:i *Rp.sz α+(k-i) *Rp.sz α=k *Rp.sz α:=by rw[←a0N];congr 1;omega
  omega
 have h5:=(T.take j).drop i;have e:((cs.drop (off+i *Rp.sz α)).take (((l.take j).drop i).length *Rp.sz α))=(((cs.drop off).take (l.length *Rp.sz α)).take (j *Rp.sz α)).drop (i *Rp.sz α):=by rw[E,List.take_take,a1W,List.drop_drop];congr 1;have:j *Rp.sz α<=l.length *Rp.sz α:=a0y _ hj;rw[Nat.min_eq_left this,Nat.sub_mul]
 rw[e];exact h5
theorem Sl_at0{F:Fz}{o:AObj}{off k:Nat}{l:List α}(h:Sl F o off k l):Sl F o off 0 ([]:List α):=by obtain⟨cs,O,Y,rfl,T,Z,h3,U⟩:=h;exact⟨cs,O,Y,V,fun E=>(by have:=T E;omega),a07 _,by simp[RL],U⟩
theorem cut_val{lo hi:Option Operand}{t e:TypeId}{i j off k Z:Nat}{o:AObj}(hx:ρ x= .slice (some ⟨Z,off,none⟩) l.length k)(ht:P.underlying t=some (.slice e))(hz:dV P e=some (Rp.sz α))(hb:H.get Z=some o)(h:Sl F o off k l)
  (h1:cM l.length (hi.map ρ)=some j) (h2:cM 0 (lo.map ρ)=some i) (al:i<=j) (hj:j<=l.length):
  ∃U k',AP P ρ ⟨d,.slice t x lo hi none,ty,pos,af,gd⟩ H (.val (.slice (some ⟨Z,U,none⟩) ((l.take j).drop i).length k'),H)/\Sl F o U k' ((l.take j).drop i):=by
 obtain⟨cs,an,ro,rfl,g1,g2,g3,g4⟩:=h
 have E:((l.take j).drop i).length=j-i:=by simp;omega
 have T:=Sl_cut (F:=F) (o:= .cells cs an ro) ⟨cs,an,ro,V,g1,g2,g3,g4⟩ al hj
 have Y: ∀w,bQ P t (.slice (some ⟨Z,off,none⟩) l.length k) (lo.map ρ) (hi.map ρ) none H=some w->AP P ρ ⟨d,.slice t x lo hi none,ty,pos,af,gd⟩ H (.val w,H):=by intro w hw;refine⟨?_⟩;show ovl (bQ P t (ρ x) (lo.map ρ) (hi.map ρ) (Option.map ρ none) H) H=_;rw[hx,a1Q,hw];rfl
 have O:=bnds_of (n:=l.length) (k:=k) h1 h2 al (a0g hj g2)
 rcases g4 with rfl|rfl
 ·cases hk:Nat.beq k i with
  |true=>
   have a7:=a06 hk
   have e0:(l.take j).drop i=[]:=a0i (by rw[E];omega)
   refine⟨off,k-i,Y _ ?_,?_⟩
   ·unfold bQ;simp only[ht,O,hz,hb,hk,cond_true,E]
   rw[e0,a7,a1U]
   exact Sl_at0 (k:=k) (l:=l) ⟨cs,none,ro,V,g1,g2,g3,.inl V⟩
  |false=>
   refine⟨off+i *Rp.sz α,k-i,Y _ ?_,T⟩
   unfold bQ
   simp only[ht,O,hz,hb,hk,cond_false,E]
 refine⟨off+i *Rp.sz α,k-i,Y _ ?_,T⟩
 unfold bQ
 simp only[ht,O,hz,hb,a0M,cond_true,E]
theorem nil_cut{lo hi:Option Operand}{t e:TypeId}{i j:Nat}{sz:Nat}(hx:ρ x= .slice none 0 0)(Z:P.underlying t=some (.slice e))(hz:dV P e=some sz)(T:cM 0 (hi.map ρ)=some j)(U:cM 0 (lo.map ρ)=some i)(O:i<=j)(Y:j<=0):
  AP P ρ ⟨d,.slice t x lo hi none,ty,pos,af,gd⟩ H (.val (.slice none 0 0),H):=by
 refine⟨?_⟩
 show ovl (bQ P t (ρ x) (lo.map ρ) (hi.map ρ) (Option.map ρ none) H) H=_
 rw[hx]
 unfold bQ
 have E:=bnds_of (n:=0) (k:=0) T U O Y
 simp only[a1Q,Z,E,hz,Option.isSome_some,cond_true]
 rfl
theorem sr_cut{lo hi:Option Operand}{t e:TypeId}{i j:Nat}(h:SR F v l)(hs:HS B F H L R)(hx:ρ x=v)(ht:P.underlying t=some (.slice e))(hz:dV P e=some (Rp.sz α))
  (U:cM l.length (hi.map ρ)=some j) (Y:cM 0 (lo.map ρ)=some i) (E:i<=j) (Z:j<=l.length):
  ∃a k,AP P ρ ⟨d,.slice t x lo hi none,ty,pos,af,gd⟩ H (.val (.slice a ((l.take j).drop i).length k),H)/\SR F (.slice a ((l.take j).drop i).length k) ((l.take j).drop i):=by
 rcases h with⟨rfl,rfl⟩|⟨b,off,k,o,rfl,T,g2⟩
 ·have e0:(([]:List α).take j).drop i=[]:=by simp
  rw[e0];exact⟨none,0,nil_cut hx ht hz U Y E (by simpa using Z),SR.nil⟩
 obtain⟨O,k',h3,h4⟩:=cut_val hx ht hz (hs.fz b o T).1 g2 U Y E Z
 exact⟨_,k',h3,.inr ⟨b,O,k',o,V,T,h4⟩⟩
theorem os_lit{t:TypeId}{n:Nat}{z:List Value}{E:Array (Nat×Operand)}{cells:List Value}(hs:HS B F H L R)(hi:eo P t=some (Rp.sz α,z))(Z:Nat.ble (n *Rp.sz α) 16777216=true)
  (U:Instr.fill (fun i=>some (i *Rp.sz α,Rp.sz α)) ⟨dM n z⟩ (ec (fun p=>(p.1,ρ p.2)) E.toList)=some ⟨cells⟩) (O:RL F cells l) (Y:l.length=n):
  ∃a H1 T,AP P ρ ⟨d,.buildSlice t n E,ty,pos,af,gd⟩ H (.val (.slice a n n),H1)/\OS F (.slice a n n) l T/\HS B F H1 (L++[T]) R/\∀b,b∈H1.log->b∈H.log:=by
 subst Y
 refine⟨_,_,[(H.next,.cells cells none false)],nR hi Z U,?_,hs.push _,fun b hb=>by simpa using hb⟩
 have:=O.length
 exact .inr ⟨H.next,0,l.length,cells,none,V,V,_,_,_,V,fun _=>M,a07 _,by rw[a0U,←this,a1e];exact O,.inl V⟩
theorem ap_app{E O:Operand}{st T:TypeId}{u w:Value}{H1:Heap}(Y:ρ E=v)(Z:ρ O=u)(U:gC P #[st,T] v u H=some (w,H1)):AP P ρ ⟨d,.call ⟨.builtin .append, #[E,O], #[st,T]⟩,ty,pos,af,gd⟩ H (.val w,H1):=by refine⟨?_⟩;show ovh (gC P #[st,T] (ρ E) (ρ O) H)=_;rw[Y,Z,U];rfl
theorem os_app{s0 x0:Operand}{st e:TypeId}{u:Value}{E:List α}{q T:Nat}{z:List Value}(h:OS F v l p)(hs:HS B F H L R)(hq:L[q]?=some p)(hx:ρ s0=v)(hy:ρ x0=u)(hu:Sv F H.get u E)(ht:P.underlying st=some (.slice e))
  (hz:dV P e=some (Rp.sz α)) (Z:gz P e=some T) (ax:dr P e=some z) (ar:Nat.beq (fE z) (Rp.sz α)=true) (Y:Nat.ble T 4096=true) (an:Nat.beq (Rp.sz α) 0=false) (U:l.length+E.length<=2147483648):
  ∃a k H1 O,AP P ρ ⟨d,.call ⟨.builtin .append, #[s0,x0], #[st,st]⟩,ty,pos,af,gd⟩ H (.val (.slice a (l++E).length k),H1)/\OS F (.slice a (l++E).length k) (l++E) O/\HS B F H1 (L.set q O) R:=by
 obtain⟨h1,b1,h2,h3⟩:=hu.first
 obtain⟨a,k,H1,O,h4,h5,h6⟩:=os_append (types:= #[st,st]) h hs hq (x:=u) V V ht ht (by intro k hk;cases hk) hz Z ax ar Y an h1 h2 h3 U
 exact⟨a,k,H1,O,ap_app hx hy h4,h5,h6⟩
theorem os_st{t:TypeId}{U Z:Operand}{j q off n b o:Nat}{w:Value}{y y':α}{E:List Value}(h:OS F v l p)(hs:HS B F H L R)(hq:L[q]?=some p)(ha:ρ U= .pointer (some ⟨b,o,none⟩))(hb:b=sB v)(ho:o=sO v+j *Rp.sz α+off)(hx:ρ Z=w)(hn:dV P t=some n)(hc:w.cells.toList=E)(hl:Nat.beq E.length n=true)
  (hy:l[j]?=some y) (h1:nW Value.oneCell' E=true) (hr: ∀cs,Rp.rep F cs y->off+E.length<=cs.length/\Rp.rep F (bx cs off E) y'):
  ∃H1 O,AP P ρ ⟨d,.store t U Z,ty,pos,af,gd⟩ H (.skip,H1)/\OS F v (l.set j y') O/\HS B F H1 (L.set q O) R/\∀b cs T,p=[(b,.cells cs T false)]->∃Y,O=[(b,.cells Y T false)]:=by
 subst hb ho
 obtain⟨H1,O,h2,h3,h4,h5⟩:=os_set h hs hq hy h1 hr
 exact⟨H1,O,ap_st ha hx hn hc hl h2,h3,h4,h5⟩
end
end Go.R
end
noncomputable section
namespace Go.R
theorem agN{f:Fn}:aJ f []:=trivial
theorem agC{f:Fn}{i:Nat}{v:Value}{l:List (Nat×Value)}(h:f i=v)(t:aJ f l):aJ f ((i,v)::l):=⟨h,t⟩
theorem jL{ops:Array Oper}{i:Nat}: ∀D,okD ops i .v D
 | []=>trivial
 |(_,e)::D=>⟨.inr (by cases e<;>trivial),jL D⟩
def fcL{α β:Type}:List α->(List α->β)->β
 | [],k=>k []
 |a::l,k=>fcL l fun r=>k (a::r)
theorem mH{α β:Type}: ∀(l:List α) (k:List α->β),fcL l k=k l
 | [],_=>rfl
 |_::l,_=>mH l _
structure Rs where
 v:Value
 H:Heap
 p:Fp
section
variable {P:Program} {G:Nat} {K:bM} {sz:Nat} {Q:Ex->Fn->Heap->Prop} {ops:Array Oper} {D:List (Nat×ID)} {i:Nat} {os:List Oper} {k:List Fr} {f:Fn} {H H1:Heap} {v:Value}
 {d:Tmp} {op:Op} {ty:TypeId} {pos:String} {af:Array Edge} {Φ:Rs->Prop}
theorem dB(ha: ∃r:Rs,AP P (dJ f) ⟨some d,op,ty,pos,af,none⟩ H (.val r.v,r.H)/\Φ r)(T:op.operands.toList.all (bm G)=true)(hd:Nat.ble (d+1) sz=true)
  (h: ∀v H1 p,Φ ⟨v,H1,p⟩->WO P G K sz ops os k (upd f d v) H1 Q):WO P G K sz ops (⟨some d,op,ty,pos,af,none⟩::os) k f H Q:=by
 obtain⟨⟨v,H1,p⟩,E,O⟩:=ha
 exact ad E T hd (h v H1 p O)
theorem wo_rk(ha: ∃r:Rs,AP P (dJ f) ⟨none,op,ty,pos,af,none⟩ H (.skip,r.H)/\Φ r)(T:op.operands.toList.all (bm G)=true)
  (h: ∀v H1 p,Φ ⟨v,H1,p⟩->WO P G K sz ops os k f H1 Q):WO P G K sz ops (⟨none,op,ty,pos,af,none⟩::os) k f H Q:=by
 obtain⟨⟨v,H1,p⟩,E,O⟩:=ha
 exact wo_skip E T (h v H1 p O)
theorem kz{id:ID}(ha: ∃r:Rs,AP P (dJ f) ⟨some d,op,ty,pos,af,none⟩ {H with log:=[]} (.val r.v,r.H)/\Φ r)(Y:op.operands.toList.all (bm G)=true)(hd:Nat.ble (d+1) sz=true)
  (O: ∀v H1 p,Φ ⟨v,H1,p⟩->Did ops f ⟨some d,op,ty,pos,af,none⟩ H.next H1.log id) (T:okD ops i id D)
  (h: ∀v H1 p,Φ ⟨v,H1,p⟩->∀l,(∀b,b∈l->b∈H1.log\/b∈H.log)->WF2 P G K sz ops ((i,id)::D) (i+1) os k (upd f d v) {H1 with log:=l} Q):
  WF2 P G K sz ops D i (⟨some d,op,ty,pos,af,none⟩::os) k f H Q:=by
 obtain⟨⟨v,H1,p⟩,U,E⟩:=ha
 exact wf_val U Y hd (O v H1 p E) T (h v H1 p E)
theorem iz{id:ID}(ha: ∃r:Rs,AP P (dJ f) ⟨none,op,ty,pos,af,none⟩ {H with log:=[]} (.skip,r.H)/\Φ r)(Y:op.operands.toList.all (bm G)=true)
  (O: ∀v H1 p,Φ ⟨v,H1,p⟩->Did ops f ⟨none,op,ty,pos,af,none⟩ H.next H1.log id) (T:okD ops i id D)
  (h: ∀v H1 p,Φ ⟨v,H1,p⟩->∀l,(∀b,b∈l->b∈H1.log\/b∈H.log)->WF2 P G K sz ops ((i,id)::D) (i+1) os k f {H1 with log:=l} Q):
  WF2 P G K sz ops D i (⟨none,op,ty,pos,af,none⟩::os) k f H Q:=by
 obtain⟨⟨v,H1,p⟩,U,E⟩:=ha
 exact wf_skip U Y (O v H1 p E) T (h v H1 p E)
end
section
variable {α:Type} [Rp α] {P:Program} {ρ:Operand->Value} {d:Option Tmp} {ty:TypeId} {pos:String} {af:Array Edge} {gd:Option (Nat×Bool)} {B:Base} {F:Fz} {H:Heap} {L R:List Fp} {v:Value} {l:List α} {p:Fp}
def Wr(H H1:Heap)(W:List Nat):Prop:= ∀b,b∈H1.log->b∈H.log\/H.next<=b\/b∈W
theorem Wr.did{H1:Heap}{W:List Nat}(h:Wr {H with log:=[]} H1 W): ∀b,b∈H1.log->H.next<=b\/b∈W:=fun b hb=>by
 rcases h b hb with h|h|h
 ·simp at h
 ·exact .inl h
 exact .inr h
theorem Wr.nil{H1:Heap}(h: ∀b,b∈H1.log->b∈H.log):Wr H H1 []:=fun b hb=> .inl (h b hb)
theorem HS.lg{B:Base}{F O:Fz}{E H1:Heap}{L T R U:List Fp}(h:HS B F H1 L R)(Y:HS B O E T U){l:List Nat}(Z: ∀b,b∈l->b∈H1.log\/b∈E.log):HS B F {H1 with log:=l} L R:=
 h.relog fun b hb=>by
  rcases Z b hb with h1|h1
  ·exact h.log b h1
  exact Y.log b h1
theorem rs_new{e:TypeId}{z:List Value}(hs:HS B F H L R)(E:dr P e=some z):
  ∃r:Rs,AP P ρ ⟨d,.alloc e,ty,pos,af,gd⟩ H (.val r.v,r.H)/\(∃b,r.v= .pointer (some ⟨b,0,none⟩)/\HS B F r.H (L++[[(b,.cells z none false)]]) R/\Wr H r.H []):=
 ⟨⟨_,_,[]⟩,ap_alloc E,_,V,hs.push _,.nil fun b hb=>by simpa using hb⟩
theorem cV{e:TypeId}{x:Operand}{u:Value}{cs:List Value}(hs:HS B F H L R)(E:ρ x=u)(hc:u.cells.toList=cs):
  ∃r:Rs,AP P ρ ⟨d,.box e x,ty,pos,af,gd⟩ H (.val r.v,r.H)/\(∃b,r.v= .pointer (some ⟨b,0,none⟩)/\HS B F r.H (L++[[(b,.cells cs none false)]]) R/\Wr H r.H []):=
 ⟨⟨_,_,[]⟩,ap_box (by rw[E];exact hc),_,V,hs.push _,.nil fun b hb=>by simpa using hb⟩
theorem gS{t:TypeId}{n:Nat}{z:List Value}{E:Array (Nat×Operand)}{ps:List (Nat×Value)}{cells:List Value}(l:List α)(hs:HS B F H L R)(T:ec (fun p=>(p.1,ρ p.2)) E.toList=ps)(hi:eo P t=some (Rp.sz α,z))(hn:Nat.ble (n *Rp.sz α) 16777216=true)
  (hf:Instr.fill (fun i=>some (i *Rp.sz α,Rp.sz α)) ⟨dM n z⟩ ps=some ⟨cells⟩) (hr:RL F cells l) (O:l.length=n):
  ∃r:Rs,AP P ρ ⟨d,.buildSlice t n E,ty,pos,af,gd⟩ H (.val r.v,r.H)/\(∃a k,r.v= .slice a l.length k/\OS F (.slice a l.length k) l r.p/\HS B F r.H (L++[r.p]) R/\Wr H r.H []):=by
 subst T
 obtain⟨a,H1,p',U,Y,Z,h4⟩:=os_lit (d:=d) (ty:=ty) (pos:=pos) (af:=af) (gd:=gd) hs hi hn hf hr O
 exact⟨⟨_,H1,p'⟩,U,a,n,by rw[O],by rw[O];exact Y,Z,.nil h4⟩
theorem rs_cut{x:Operand}{lo hi:Option Operand}{t e:TypeId}{i j:Nat}(h:SR F v l)(hs:HS B F H L R)(hx:ρ x=v)(ht:P.underlying t=some (.slice e))(hz:dV P e=some (Rp.sz α))
  (U:cM l.length (hi.map ρ)=some j) (Y:cM 0 (lo.map ρ)=some i) (E:i<=j) (Z:j<=l.length):
  ∃r:Rs,AP P ρ ⟨d,.slice t x lo hi none,ty,pos,af,gd⟩ H (.val r.v,r.H)/\(∃a k,r.v= .slice a ((l.take j).drop i).length k/\r.H=H/\SR F (.slice a ((l.take j).drop i).length k) ((l.take j).drop i)):=by
 obtain⟨a,k,O,T⟩:=sr_cut (d:=d) (ty:=ty) (pos:=pos) (af:=af) (gd:=gd) h hs hx ht hz U Y E Z
 exact⟨⟨_,H,[]⟩,O,a,k,V,V,T⟩
theorem rs_app{s0 x0:Operand}{st e:TypeId}{u:Value}{E:List α}{q O:Nat}{z:List Value}(h:OS F v l p)(hs:HS B F H L R)(hq:L[q]?=some p)(hx:ρ s0=v)(hy:ρ x0=u)(hu:Sv F H.get u E)(ht:P.underlying st=some (.slice e))
  (hz:dV P e=some (Rp.sz α)) (Z:gz P e=some O) (ax:dr P e=some z) (ar:Nat.beq (fE z) (Rp.sz α)=true) (Y:Nat.ble O 4096=true) (an:Nat.beq (Rp.sz α) 0=false) (T:l.length+E.length<=2147483648):
  ∃r:Rs,AP P ρ ⟨d,.call ⟨.builtin .append, #[s0,x0], #[st,st]⟩,ty,pos,af,gd⟩ H (.val r.v,r.H)/\(∃a k,r.v= .slice a (l++E).length k/\OS F (.slice a (l++E).length k) (l++E) r.p/\HS B F r.H (L.set q r.p) R/\Wr H r.H (p.map Prod.fst)):=by
 have hc:=hs.callOwn hq
 obtain⟨a,k,H1,p',h1,h2,U⟩:=os_app (d:=d) (ty:=ty) (pos:=pos) (af:=af) (gd:=gd) (q:=0) h hc V hx hy hu ht hz Z ax ar Y an T
 have h4:=hs.backOwn (b_:=[]) hq V (fun b hb=>hb) U
 exact⟨⟨_,H1,p'⟩,h1,a,k,V,h2,by simpa using h4,fun b hb=>U.log b hb⟩
theorem rs_st{t:TypeId}{O Z:Operand}{j q off n b o:Nat}{w:Value}{y:α}(y':α){E:List Value}(h:OS F v l p)(hs:HS B F H L R)(Y:L[q]?=some p)(ha:ρ O= .pointer (some ⟨b,o,none⟩))(hb:b=sB v)(ho:o=sO v+j *Rp.sz α+off)(hx:ρ Z=w)(hn:dV P t=some n)(hc:w.cells.toList=E)(hl:Nat.beq E.length n=true)
  (hy:l[j]?=some y) (h1:nW Value.oneCell' E=true) (hr: ∀cs,Rp.rep F cs y->off+E.length<=cs.length/\Rp.rep F (bx cs off E) y'):
  ∃r:Rs,AP P ρ ⟨d,.store t O Z,ty,pos,af,gd⟩ H (.skip,r.H)/\(OS F v (l.set j y') r.p/\HS B F r.H (L.set q r.p) R/\Wr H r.H (p.map Prod.fst)):=by
 have U:=hs.callOwn Y
 obtain⟨H1,p',g1,g2,T,_⟩:=os_st (d:=d) (ty:=ty) (pos:=pos) (af:=af) (gd:=gd) (q:=0) h U V ha hb ho hx hn hc hl hy h1 hr
 have h4:=hs.backOwn (b_:=[]) Y V (fun b hb=>hb) T
 exact⟨⟨.bool true,H1,p'⟩,g1,g2,by simpa using h4,fun b hb=>T.log b hb⟩
theorem gR{t:TypeId}{U x0:Operand}{q n b o:Nat}{w:Value}{E cs O:List Value}(hs:HS B F H L R)(hq:L[q]?=some [(b,.cells cs none false)])(ha:ρ U= .pointer (some ⟨b,o,none⟩))(hx:ρ x0=w)(hn:dV P t=some n)(hc:w.cells.toList=E)(hl:Nat.beq E.length n=true)
  (hb:Nat.ble (o+E.length) cs.length=true) (h1:nW Value.oneCell' E=true) (T:fcL (bx cs o E) some=some O):
  ∃r:Rs,AP P ρ ⟨d,.store t U x0,ty,pos,af,gd⟩ H (.skip,r.H)/\(HS B F r.H (L.set q [(b,.cells O none false)]) R/\Wr H r.H [b]):=by
 have T:bx cs o E=O:=by rw[mH]at T;exact Option.some.inj T
 have Z:=hs.callOwn hq
 obtain⟨H1,g1,Y⟩:=Z.st (i:=0) V hb h1 T
 have h4:=hs.backOwn (b_:=[]) hq V (fun b hb=>hb) Y
 exact⟨⟨.bool true,H1,[]⟩,ap_st ha hx hn hc hl g1,by simpa using h4,fun b hb=>Y.log b hb⟩
end
theorem flat_sub{β:Type}{E L:List (List β)}(h:List.Sublist E L):List.Sublist E.flatten L.flatten:=by
 induction h with
 |slnil=>exact List.Sublist.refl _
 |cons a _ ih=>rw[a0L];exact ih.trans (List.sublist_append_right _ _)
 |cons_cons a _ ih=>rw[a0L,a0L];exact(List.Sublist.refl a).append ih
theorem HS.sub{B:Base}{F:Fz}{H:Heap}{L T R:List Fp}(h:HS B F H L R)(E:List.Sublist T L):HS B F H T R:=
 ⟨h.fz,fun p O b o hb=>h.own p (O.imp (fun x=>E.subset x) id) b o hb,((flat_sub (E.append (List.Sublist.refl R))).map _).nodup h.nd,h.n0,h.log,fun p O=>h.mine p (E.subset O)⟩
theorem HS.forget{B:Base}{F:Fz}{H:Heap}{L R:List Fp}(h:HS B F H L R):HS B F H [] R:=h.sub (List.nil_sublist _)
theorem HS.only{B:Base}{F:Fz}{H:Heap}{L R:List Fp}{p:Fp}(h:HS B F H L R){i:Nat}(hi:L[i]?=some p):HS B F H [p] R:=h.sub (List.singleton_sublist.2 (a0n hi))
section
variable {α:Type} [Rp α] {F:Fz} {B:Base} {H:Heap} {L R:List Fp} {v:Value} {l:List α} {p:Fp}
theorem OS.frz(h:OS F v l p)(hs:HS B F H L R){i:Nat}(hi:L[i]?=some p): ∃F',F.le F'/\HS B F' H (L.set i []) R/\SR F' v l/\∀b o,(b,o)∈p->F' b=some o:=by
 obtain⟨F',T,Y,U⟩:=hs.freeze hi;refine⟨F',T,Y,?_,U⟩;rcases h with⟨E,O,_⟩|⟨b,off,k,cs,al,E,O,Z⟩
 ·exact .inl ⟨E,O⟩
 exact .inr ⟨b,off,k,_,E,U b _ (by rw[O];simp),Z.mono T⟩
end
theorem bj{β:Type}{l:List β}{j:Nat}{x:β}(h:j<l.length):l[j]?=some (l.getD j x):=by rw[a08,a09 h];rfl
theorem BS:(∀a b:Bool,((a&&b)=true)=(a=true/\b=true))/\(∀a b:Bool,((a||b)=true)=(a=true\/b=true))/\(∀a b:Bool,((a&&b)=false)=(a=true->b=false))/\(∀a b:Bool,((a||b)=false)=(a=false/\b=false))/\
  (∀a:Bool,((!a)=true)=(a=false))/\(∀a:Bool,((!a)=false)=(a=true))/\(∀(q:Prop) [Decidable q],(decide q=true)=q)/\(∀(q:Prop) [Decidable q],(decide q=false)= ¬q)/\
  (∀a b:Int,((a==b)=true)=(a=b))/\(∀a b:Int,((a==b)=false)=(a≠b))/\(∀a b:Int,((a !=b)=true)=(a≠b))/\(∀a b:Int,((a !=b)=false)=(a=b))/\
  (∀a b:List UInt8,((a==b)=true)=(a=b))/\(∀a b:List UInt8,((a==b)=false)=(a≠b))/\(∀a b:List UInt8,((a !=b)=true)=(a≠b))/\(∀a b:List UInt8,((a !=b)=false)=(a=b))/\
  (∀a b:Bool,((a==b)=true)=(a=b))/\(∀a b:Bool,((a==b)=false)=(a≠b))/\(∀a b:Bool,((a !=b)=true)=(a≠b))/\(∀a b:Bool,((a !=b)=false)=(a=b)):=by
 refine⟨?_,?_,?_,?_,?_,?_,?_,?_,?_,?_,?_,?_,?_,?_,?_,?_,?_,?_,?_,?_⟩<;>intros<;>simp
theorem BT:(∀a:Bool,(true&&a)=a)/\(∀a:Bool,(false&&a)=false)/\(∀a:Bool,(a&&true)=a)/\(∀a:Bool,(a&&false)=false)/\(∀a:Bool,(true||a)=true)/\(∀a:Bool,(false||a)=a)/\(∀a:Bool,(a||true)=true)/\(∀a:Bool,(a||false)=a)/\(!true)=false/\(!false)=true:=by simp
theorem Lr{lo hi:Nat}{ex:List Nat}{f:Fn}:Leaves lo hi ex f f:= .refl
theorem Lu{lo hi:Nat}{ex:List Nat}{f E:Fn}{i:Nat}{v:Value}(O:inR lo hi ex i=true)(h:Leaves lo hi ex f E):Leaves lo hi ex f (upd E i v):= .upd O h
section
variable {P:Program} {G:Nat} {K:bM} {sz:Nat} {Q:Ex->Fn->Heap->Prop} {ops:Array Oper} {D:List (Nat×ID)} {i:Nat} {os:List Oper} {k:List Fr} {f:Fn} {H H1:Heap} {d:Tmp} {ty:TypeId} {pos:String} {af:Array Edge} {x:Operand}
theorem wm(v:Value)(O:dJ f x=v)(E:(Op.move x).operands.toList.all (bm G)=true)(hd:Nat.ble (d+1) sz=true)(h:WO P G K sz ops os k (upd f d v) H Q):WO P G K sz ops (⟨some d,.move x,ty,pos,af,none⟩::os) k f H Q:=ad (ap_move O) E hd h
theorem wa(v:Value)(O:dJ f x=v)(E:(Op.assign x).operands.toList.all (bm G)=true)(hd:Nat.ble (d+1) sz=true)(h:WO P G K sz ops os k (upd f d v) H Q):WO P G K sz ops (⟨some d,.assign x,ty,pos,af,none⟩::os) k f H Q:=ad (lZ O) E hd h
theorem fm(v:Value)(O:dJ f x=v)(E:(Op.move x).operands.toList.all (bm G)=true)(hd:Nat.ble (d+1) sz=true)(h:WF2 P G K sz ops ((i,.v)::D) (i+1) os k (upd f d v) H Q):WF2 P G K sz ops D i (⟨some d,.move x,ty,pos,af,none⟩::os) k f H Q:=bf (ap_move O) E hd (did_v V) (jL _) h
theorem fa(v:Value)(O:dJ f x=v)(E:(Op.assign x).operands.toList.all (bm G)=true)(hd:Nat.ble (d+1) sz=true)(h:WF2 P G K sz ops ((i,.v)::D) (i+1) os k (upd f d v) H Q):WF2 P G K sz ops D i (⟨some d,.assign x,ty,pos,af,none⟩::os) k f H Q:=bf (lZ O) E hd (did_v V) (jL _) h
end
end Go.R
end
noncomputable section
set_option linter.unusedVariables false
namespace Go.R
section
variable {P:Program} {G:Nat} {K:bM} {sz:Nat} {Q:Ex->Fn->Heap->Prop} {ops:Array Oper} {D:List (Nat×ID)} {i:Nat} {os:List Oper} {k:List Fr} {f:Fn} {H:Heap} {v:Value}
 {d:Tmp} {op:Op} {ty:TypeId} {pos:String} {af:Array Edge}
def cB:ID->ID->Bool
 | .v,_=>true
 |_,.v=>true
 |_,.x _=>false
 | .x _,.a=>true
 | .x _,_=>false
 |_,_=>true
theorem cB_ok{e d:ID}(h:cB e d=true):cD e d:=by cases e<;>cases d<;>first|exact trivial|cases h
def okB(ops:Array Oper)(i:Nat)(d:ID):List (Nat×ID)->Bool
 | []=>true
 |(j,e)::D=>(cB e d||bw (cT ops) j i)&&okB ops i d D
theorem kb: ∀{D:List (Nat×ID)} {e:ID},okB ops i e D=true->okD ops i e D
 | [],_,_=>trivial
 |(j,g)::D,e,h=>by unfold okB at h;rw[a03,a0C]at h;exact⟨h.1.elim (fun h=> .inr (cB_ok h)) .inl,kb h.2⟩
theorem wfv(ha:AP P (dJ f) ⟨some d,op,ty,pos,af,none⟩ {H with log:=[]} (.val v,{H with log:=[]}))
  (h:WF2 P G K sz ops ((i,.v)::D) (i+1) os k (upd f d v) H Q) (O:aS op=true:=by rfl) (E:op.operands.toList.all (bm G)=true:=by rfl) (hd:Nat.ble (d+1) sz=true:=by rfl):WF2 P G K sz ops D i (⟨some d,op,ty,pos,af,none⟩::os) k f H Q:=bf ha E hd (did_v O) (jL _) h
end
end Go.R
end
noncomputable section
set_option linter.unusedVariables false
namespace Go.R
open Go
section
variable {I d_:Int->Value->Prop} {es:List (Value×Value)}
def TabI(I:Int->Value->Prop)(es:List (Value×Value)):Prop:= ∀e,e∈es->∃k,e.1= .int .i64 k/\I k e.2
end
section
variable {P:Program} {ρ:Operand->Value} {d:Option Tmp} {ty:TypeId} {pos:String} {af:Array Edge} {gd:Option (Nat×Bool)} {B:Base} {F:Fz} {H:Heap} {L R:List Fp} {I:Int->Value->Prop} {es:List (Value×Value)}
end
end Go.R
end
