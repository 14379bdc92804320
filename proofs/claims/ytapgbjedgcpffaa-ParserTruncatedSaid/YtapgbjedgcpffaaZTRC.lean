/-
Symbolic runs: heaps with owners, what cells stand for.
-/
import Derived.Test.YtapgbjedgcpffaaZTRB
noncomputable section
set_option linter.unusedVariables false
set_option linter.unusedSimpArgs false
namespace Go.R
abbrev Fn:=Nat->Value
def upd(f:Fn)(i:Nat)(v:Value):Fn:=fun j=>bif Nat.beq i j then v else f j
def updO(f:Fn)(d:Option Tmp)(v:Value):Fn:=match d with
 |some d=>upd f d v
 |none=>f
def lG(f:Fn):List (Nat×Value)->Fn
 | []=>f
 |(i,v)::l=>upd (lG f l) i v
def aX(f:Fn):List (Nat×Value)->Prop
 | []=>True
 |(i,v)::l=>f i=v/\aX f l
def en(f:Fn):Operand->Value
 | .tmp t=>f t
 | .const v=>v
 | .global g=> .pointer (some ⟨g,0,none⟩)
 | .func i=> .func (.func i) #[] #[]
def argF(l:List Value):Fn:=fun j=>l.getD j undef
theorem upd_self(f:Fn){i:Nat}{v:Value}(h:f i=v):upd f i v=f:=by
 funext j;unfold upd;cases hb:Nat.beq i j with
 |true=>have:=a08 hb;subst this;exact h.symm
 |false=>rfl
theorem iW{f:Fn}: ∀{l:List (Nat×Value)},aX f l->lG f l=f
 | [],_=>rfl
 |(i,v)::l,h=>by unfold lG;rw[iW h.2];exact upd_self f h.1
theorem lget_lset_fn(t:Tr Value)(d:Nat)(v:Value):cU (lset t d v)=upd (cU t) d v:=by
 funext j;rw[gI];unfold upd;by_cases h:d=j
 ·subst h;rw[if_pos rfl,a0N];rfl
 rw[if_neg h];cases hb:Nat.beq d j with
 |true=>exact absurd (a08 hb) h
 |false=>rfl
theorem fA(t:Tr Value):dy t=en (cU t):=by funext x;cases x<;>rfl
theorem argTmps_fn(args:List Value):cU (fC 0 args .nil)=argF args:=by
 funext j;rw[iM];unfold argF;by_cases h:j<args.length
 ·rw[if_pos (by omega)];rfl
 rw[if_neg (by omega),a0c,a0Z (by omega)];rfl
inductive Fr where
 |seq (b:Code)
 |block (id:Nat)
section
variable {P:Program} {G:Nat} {K:bB} {sz:Nat} {Q:Ex->Fn->Heap->Prop}
def runK(P:Program)(G:Nat)(K:bB)(n:Nat):List Fr->Option (Ex×St)->Option (Ex×St)
 | [],r=>r
 | .seq b::k,r=>runK P G K n k (gM r (mh P G K n b))
 | .block id::k,r=>runK P G K n k (di id r)
theorem ef{n m:Nat}(h:n<=m): ∀(k:List Fr) (r r':Option (Ex×St)),(∀x,r=some x->r'=some x)->∀x,runK P G K n k r=some x->runK P G K m k r'=some x
 | [],r,r',hr,x,hx=>hr x hx
 | .seq b::k,r,r',hr,x,hx=>ef h k _ _ (fun _ E=>hE hr (fun s y E=>jb h b s y E) E) x hx
 | .block id::k,r,r',hr,x,hx=>ef h k _ _ (fun _ E=>jV hr E) x hx
structure WK(P:Program)(G:Nat)(K:bB)(sz:Nat)(c:Code)(k:List Fr)(f:Fn)(H:Heap)(Q:Ex->Fn->Heap->Prop):Prop where
 out: ∀t,cU t=f->∃n e s',runK P G K (n+1) k (mh P G K (n+1) c ⟨t,sz,H⟩)=some (e,s')/\Q e (cU s'.tmps) s'.heap
structure WO(P:Program)(G:Nat)(K:bB)(sz:Nat)(ops:Array Oper)(os:List Oper)(k:List Fr)(f:Fn)(H:Heap)(Q:Ex->Fn->Heap->Prop):Prop where
 out: ∀t,cU t=f->∃n e s',runK P G K (n+1) k (ed (gk P G (call P G K n) ops os ⟨t,sz,H⟩))=some (e,s')/\Q e (cU s'.tmps) s'.heap
structure C(P:Program)(G:Nat)(K:bB)(f:FuncId)(args:List Value)(H:Heap)(R:Value->Heap->Prop):Prop where
 out: ∃n v H',call P G K n f args H=some (v,H')/\R v H'
theorem C.mono{f:FuncId}{args:List Value}{H:Heap}{R E:Value->Heap->Prop}(h:C P G K f args H R)(U: ∀v H',R v H'->E v H'):C P G K f args H E:=by obtain⟨n,v,H',O,T⟩:=h.out;exact⟨n,v,H',O,U _ _ T⟩
variable {c:Code} {k:List Fr} {f:Fn} {H:Heap}
theorem ay(h:Q .normal f H):WK P G K sz .skip [] f H Q:=⟨fun t E=>⟨0,.normal,⟨t,sz,H⟩,rfl,by rw[E];exact h⟩⟩
theorem ap{b:Code}(h:WK P G K sz b k f H Q):WK P G K sz .skip (.seq b::k) f H Q:=⟨h.out⟩
theorem fU{id:Nat}(h:WK P G K sz .skip k f H Q):WK P G K sz .skip (.block id::k) f H Q:=⟨h.out⟩
theorem aW{a b:Code}(h:WK P G K sz a (.seq b::k) f H Q):WK P G K sz (.seq a b) k f H Q:=⟨h.out⟩
theorem iS{id:Nat}{b:Code}(h:WK P G K sz b (.block id::k) f H Q):WK P G K sz (.block id b) k f H Q:=⟨h.out⟩
theorem ce{b:Code}(h:WK P G K sz b (.seq (.loop b)::k) f H Q):WK P G K sz (.loop b) k f H Q:=⟨fun t U=>by
 obtain⟨n,e,Z,O,T⟩:=h.out t U;refine⟨n+1,e,Z,?_,T⟩;refine ef (a1G (n+1)) k _ _ (fun x Y=>?_) _ O;show gM (mh P G K (n+2) b ⟨t,sz,H⟩) (mh P G K (n+1) (.loop b))=some x;exact hE (fun y E=>ja _ _ _ _ E) (fun _ _ E=>E) Y⟩
theorem eS{id:Nat}{b:Code}(h:WK P G K sz (.exit id) k f H Q):WK P G K sz (.exit id) (.seq b::k) f H Q:=⟨h.out⟩
theorem fV{id:Nat}(h:WK P G K sz .skip k f H Q):WK P G K sz (.exit id) (.block id::k) f H Q:=⟨fun t T=>by
 obtain⟨n,e,U,E,O⟩:=h.out t T;refine⟨n,e,U,?_,O⟩;show runK P G K (n+1) k (di id (some (.exit id,⟨t,sz,H⟩)))=_;unfold di;simp only[a0N,cond_true];exact E⟩
theorem j7{id E:Nat}(O:Nat.beq id E=false)(h:WK P G K sz (.exit id) k f H Q):WK P G K sz (.exit id) (.block E::k) f H Q:=⟨fun t Y=>by
 obtain⟨n,e,Z,T,U⟩:=h.out t Y;refine⟨n,e,Z,?_,U⟩;show runK P G K (n+1) k (di E (some (.exit id,⟨t,sz,H⟩)))=_;unfold di;simp only[O,cond_false];exact T⟩
theorem kr{n:Nat}{s:St}: ∀k:List Fr,runK P G K n k (some (.ret,s))=some (.ret,s)
 | []=>rfl
 | .seq _::k=>kr k
 | .block _::k=>kr k
theorem ah(h:Q .ret f H):WK P G K sz .ret k f H Q:=⟨fun t E=>⟨0,.ret,⟨t,sz,H⟩,kr k,by rw[E];exact h⟩⟩
theorem dB{x:Operand}{a b:Code}{v:Bool}(hx:en f x= .bool v)(ho:br G x=true)(ht:v=true->WK P G K sz a k f H Q)(Z:v=false->WK P G K sz b k f H Q):WK P G K sz (.cond x a b) k f H Q:=⟨fun t U=>by
 have E: ∀n,mh P G K (n+1) (.cond x a b) ⟨t,sz,H⟩=bif v then mh P G K (n+1) a ⟨t,sz,H⟩ else mh P G K (n+1) b ⟨t,sz,H⟩:=by intro n;show(bif br G x then mi (dy t x) _ _ else none)=_;rw[ho,fA,U,hx];rfl
 cases v with
 |true=>
  obtain⟨n,e,Y,O,T⟩:=(ht rfl).out t U
  exact⟨n,e,Y,by rw[E];exact O,T⟩
 |false=>
  obtain⟨n,e,Y,O,T⟩:=(Z rfl).out t U
  exact⟨n,e,Y,by rw[E];exact O,T⟩⟩
theorem wk_true{x:Operand}{a b:Code}{v:Bool}(T:en f x= .bool v)(O:v=true)(E:br G x=true)(h:WK P G K sz a k f H Q):WK P G K sz (.cond x a b) k f H Q:=
 dB T E (fun _=>h) (fun e=>by rw[O]at e;cases e)
theorem mz{x:Operand}{a b:Code}{v:Bool}(T:en f x= .bool v)(O:v=false)(E:br G x=true)(h:WK P G K sz b k f H Q):WK P G K sz (.cond x a b) k f H Q:=
 dB T E (fun e=>by rw[O]at e;cases e) (fun _=>h)
theorem ab{id:Nat}{ops:Array Oper}(h:WO P G K sz ops ops.toList k f H Q):WK P G K sz (.region id ops false) k f H Q:=⟨h.out⟩
theorem aH{ops:Array Oper}(h:WK P G K sz .skip k f H Q):WO P G K sz ops [] k f H Q:=⟨h.out⟩
theorem aI(l:List (Nat×Value))(E:aX f l)(h: ∀g,WK P G K sz c k (lG g l) H Q):WK P G K sz c k f H Q:=by have:=h f;rwa [iW E]at this
structure AP(P:Program)(ρ:Operand->Value)(o:Oper)(H:Heap)(r:AN×Heap):Prop where
 eq:aop P ρ o H=some r
def dstOK(d:Option Tmp)(sz:Nat):Bool:=match d with
 |some d=>Nat.ble (d+1) sz
 |none=>true
theorem jQ{s:St}{d:Option Tmp}{v:Value}(hd:dstOK d s.size=true): ∃O,s.put d v=some {s with tmps:=O}/\cU O=updO (cU s.tmps) d v:=by
 unfold St.put;cases d with
 |none=>exact⟨s.tmps,rfl,rfl⟩
 |some d=>
  have E:Nat.ble (d+1) s.size=true:=hd
  simp only[E,cond_true]
  exact⟨lset s.tmps d v,rfl,lget_lset_fn _ _ _⟩
section
variable {ops:Array Oper} {o:Oper} {os:List Oper} {v:Value} {H1:Heap}
theorem mD{t:Tr Value}(U:o.guard=none)(Y:o.op.operands.toList.all (br G)=true)(ha:aop P (en (cU t)) o H=some (.val v,H1))(hd:dstOK o.dst sz=true):
  ∃E,(∀cf,step P G cf ops o ⟨t,sz,H⟩=some ⟨E,sz,H1⟩)/\cU E=updO (cU t) o.dst v:=by
 obtain⟨E,O,T⟩:=jQ (s:=⟨t,sz,H1⟩) (v:=v) hd
 refine⟨E,fun cf=>?_,T⟩
 unfold step bl
 simp only[U,cond_true,Y,fA,ha]
 exact O
theorem step_skip{t:Tr Value}(U:o.guard=none)(Y:o.op.operands.toList.all (br G)=true)(ha:aop P (en (cU t)) o H=some (.skip,H1))(hd:dstOK o.dst sz=true):
  ∃E,(∀cf,step P G cf ops o ⟨t,sz,H⟩=some ⟨E,sz,H1⟩)/\cU E=updO (cU t) o.dst undef:=by
 obtain⟨E,O,T⟩:=jQ (s:=⟨t,sz,H1⟩) (v:=undef) hd
 refine⟨E,fun cf=>?_,T⟩
 unfold step bl
 simp only[U,cond_true,Y,fA,ha]
 exact O
theorem ai{d:Tmp}{op:Op}{ty:TypeId}{pos:String}{af:Array Edge}(ha:AP P (en f) ⟨some d,op,ty,pos,af,none⟩ H (.val v,H1))(Z:op.operands.toList.all (br G)=true)(hd:Nat.ble (d+1) sz=true)
  (h:WO P G K sz ops os k (upd f d v) H1 Q):WO P G K sz ops (⟨some d,op,ty,pos,af,none⟩::os) k f H Q:=⟨fun t E=>by
 obtain⟨t',O,T⟩:=mD (P:=P) (G:=G) (ops:=ops) (t:=t) (o:=⟨some d,op,ty,pos,af,none⟩) rfl Z (by rw[E];exact ha.eq) hd
 obtain⟨n,e,s',U,Y⟩:=h.out t' (by rw[T,E];rfl)
 refine⟨n,e,s',?_,Y⟩
 rw[bS,O]
 exact U⟩
theorem wo_skip{op:Op}{ty:TypeId}{pos:String}{af:Array Edge}(ha:AP P (en f) ⟨none,op,ty,pos,af,none⟩ H (.skip,H1))(Z:op.operands.toList.all (br G)=true)
  (h:WO P G K sz ops os k f H1 Q):WO P G K sz ops (⟨none,op,ty,pos,af,none⟩::os) k f H Q:=⟨fun t E=>by
 obtain⟨t',O,T⟩:=step_skip (P:=P) (G:=G) (ops:=ops) (t:=t) (sz:=sz) (o:=⟨none,op,ty,pos,af,none⟩) rfl Z (by rw[E];exact ha.eq) rfl
 obtain⟨n,e,s',U,Y⟩:=h.out t' (by rw[T,E];rfl)
 refine⟨n,e,s',?_,Y⟩
 rw[bS,O]
 exact U⟩
theorem wo_callG{d:Option Tmp}{op:Op}{ty:TypeId}{pos:String}{af:Array Edge}{g:FuncId}{args:List Value}{R:Value->Heap->Prop}(ha:AP P (en f) ⟨d,op,ty,pos,af,none⟩ H (.enter g args,H1))(ho:op.operands.toList.all (br G)=true)(hd:dstOK d sz=true)
  (hc:C P G K g args H1 R) (h: ∀v E,R v E->WO P G K sz ops os k (updO f d v) E Q):WO P G K sz ops (⟨d,op,ty,pos,af,none⟩::os) k f H Q:=⟨fun t ht=>by
 obtain⟨T,v,E,an,hr⟩:=hc.out
 have h0:=h v E hr
 obtain⟨Z,h1,h2⟩:=jQ (s:=⟨t,sz,E⟩) (v:=v) hd
 obtain⟨O,e,s',h3,h4⟩:=h0.out Z (by rw[h2,ht])
 refine⟨Nat.max T O,e,s',?_,h4⟩
 have ar:step P G (call P G K (Nat.max T O)) ops ⟨d,op,ty,pos,af,none⟩ ⟨t,sz,H⟩=some ⟨Z,sz,E⟩:=by unfold step bl;simp only[cond_true,ho,fA,ht,ha.eq,fN (a1b T O) _ _ _ _ an];exact h1
 rw[bS,ar]
 refine ef (a1i (a0J T O)) k _ _ (fun x U=>?_) _ h3
 simp only
 cases Y:gk P G (call P G K O) ops os ⟨Z,sz,E⟩ with
 |none=>rw[Y]at U;cases U
 |some y=>rw[iq (fN (a0J T O)) _ _ _ Y];rw[Y]at U;exact U⟩
theorem il{d:Tmp}{op:Op}{ty:TypeId}{pos:String}{af:Array Edge}{g:FuncId}{args:List Value}{R:Value->Heap->Prop}(ha:AP P (en f) ⟨some d,op,ty,pos,af,none⟩ H (.enter g args,H1))(O:op.operands.toList.all (br G)=true)(hd:Nat.ble (d+1) sz=true)
  (hc:C P G K g args H1 R) (h: ∀v E,R v E->WO P G K sz ops os k (upd f d v) E Q):WO P G K sz ops (⟨some d,op,ty,pos,af,none⟩::os) k f H Q:=wo_callG ha O hd hc h
end
theorem au{b:Code}(I:Nat->Fn->Heap->Prop)(m:Nat)(Y:I m f H)
  (step: ∀m f H,I m f H->(∀E f' H',E<m->I E f' H'->WK P G K sz (.loop b) k f' H' Q)->WK P G K sz b (.seq (.loop b)::k) f H Q):WK P G K sz (.loop b) k f H Q:=by
 have key: ∀n m,m<=n->∀f H,I m f H->WK P G K sz (.loop b) k f H Q:=by
  intro n;induction n with
  |zero=>
   intro m Z f H O
   refine ce (step m f H O fun E f' H' U _=>?_)
   omega
  |succ n ih=>
   intro m Z f H O
   exact ce (step m f H O fun E f' H' U T=>ih E (by omega) f' H' T)
 exact key m m (a07 _) f H Y
def ct(P:Program)(f:Fn)(H:Heap):List ResultVar->Option (List Value)
 | []=>some []
 | .tmp t::rs=>
  match ct P f H rs with
  |some l=>some (f t::l)
  |none=>none
 | .cell a t::rs=>
  match f a with
  | .pointer (some p)=>
   match H.loadV P t p,ct P f H rs with
   |some v,some l=>some (v::l)
   |_,_=>none
  |_=>none
theorem iu(s:St): ∀rs,cT P s rs=ct P (cU s.tmps) s.heap rs
 | []=>rfl
 | .tmp t::rs=>by unfold cT ct;rw[iu s rs];cases ct P (cU s.tmps) s.heap rs<;>rfl
 | .cell a t::rs=>by
  unfold cT ct;cases cU s.tmps a with
  |pointer p=>cases p with
   |none=>rfl
   |some p=>simp only[iu s rs];cases s.heap.loadV P t p<;>cases ct P (cU s.tmps) s.heap rs<;>rfl
  |_=>rfl
theorem aB{E:FuncId}{fn:Func}{args:List Value}{R:Value->Heap->Prop}(U:P.funcs[E]?=some fn)(hc:fn.body=some c)(hK:K E args H=none)
  (h:WK P G K (Nat.max args.length fn.ntmps) c [] (argF args) H fun e f' H'=>(e= .normal\/e= .ret)/\∃l,ct P f' H' fn.results.toList=some l/\R (eH l) H'):C P G K E args H R:=by
 obtain⟨n,e,Y,Z,he,l,O,hr⟩:=h.out (fC 0 args .nil) (argTmps_fn args)
 refine⟨n+1,eH l,Y.heap,?_,hr⟩
 show lx K (ni P (mh P G K (n+1))) E args H=_
 have T:mh P G K (n+1) c ⟨fC 0 args .nil,Nat.max args.length fn.ntmps,H⟩=some (e,Y):=Z
 unfold lx ni
 rw[hK]
 simp only[U,hc,T]
 rw[←iu]at O
 rcases he with rfl|rfl
 ·simp only[O]
 simp only[O]
theorem c_known{E:FuncId}{args:List Value}{v:Value}{R:Value->Heap->Prop}(O:K E args H=some v)(h:R v H):C P G K E args H R:=
 ⟨0,v,H,by show lx K _ E args H=_;unfold lx;rw[O],h⟩
end
end Go.R
end
noncomputable section
namespace Go.R
section
variable {P:Program} {ρ:Operand->Value} {d:Option Tmp} {ty:TypeId} {pos:String} {af:Array Edge} {gd:Option (Nat×Bool)} {H:Heap}
theorem ap_move{x:Operand}{v:Value}(h:ρ x=v):AP P ρ ⟨d,.move x,ty,pos,af,gd⟩ H (.val v,H):=by subst h;exact⟨rfl⟩
theorem lA{x:Operand}{v:Value}(h:ρ x=v):AP P ρ ⟨d,.assign x,ty,pos,af,gd⟩ H (.val v,H):=by subst h;exact⟨rfl⟩
theorem jh{op:BinOp}{t yt:TypeId}{x y:Operand}{k E:IntKind}{a b:Int}{v:Value}(T:ρ x= .int k a)(U:ρ y= .int E b)
  (O:(bif ll op then shBin op k a b else bif gt k E then l9 op k a b else none)=some v):AP P ρ ⟨d,.binOp op t x y yt,ty,pos,af,gd⟩ H (.val v,H):=by
 refine⟨?_⟩
 show aBin P ρ _ op t (ρ x) y H=_
 rw[T]
 show binInt op k a (ρ y) H=_
 rw[U]
 show ovl _ H=_
 rw[O];rfl
theorem ap_str{op:BinOp}{t yt:TypeId}{x y:Operand}{a b:ByteArray}{v:Value}(O:ρ x= .string a)(T:ρ y= .string b)(E:strOp op a b=some v):
  AP P ρ ⟨d,.binOp op t x y yt,ty,pos,af,gd⟩ H (.val v,H):=by
 refine⟨?_⟩
 show aBin P ρ _ op t (ρ x) y H=_
 rw[O]
 show binStr op a (ρ y) H=_
 rw[T]
 show ovl _ H=_
 rw[E];rfl
theorem dN{t:TypeId}{x:Operand}{b:Bool}(E:ρ x= .bool b):AP P ρ ⟨d,.unOp .not t x,ty,pos,af,gd⟩ H (.val (.bool (!b)),H):=by refine⟨?_⟩;show aUn P ρ _ .not (ρ x) H=_;rw[E];rfl
theorem ap_conv{s t:TypeId}{x:Operand}{k E:IntKind}{n:Int}(T:ρ x= .int k n){u:TypeDesc}(hs:P.underlying s=some u)(O:P.underlying t=some (.int E)):
  AP P ρ ⟨d,.convert s t x,ty,pos,af,gd⟩ H (.val (.int E (E.wrap n)),H):=by
 refine⟨?_⟩
 show fB P ρ _ s t (ρ x) H=_
 rw[T]
 show ovl (na P s t n) H=_
 unfold na
 rw[hs,O];rfl
theorem ap_neg{t:TypeId}{x:Operand}{k:IntKind}{n:Int}(E:ρ x= .int k n):AP P ρ ⟨d,.unOp .neg t x,ty,pos,af,gd⟩ H (.val (.int k (k.wrap (0-n))),H):=by
 refine⟨?_⟩;show aUn P ρ _ .neg (ρ x) H=_;rw[E];show bF P ρ _ H=_;unfold bF;have O:((Op.unOp .neg t x).operands.toList.all fun x=>ke (ρ x))=true:=by simp[Op.operands,E,ke,dz]
 simp only[O,cond_true];show(match aC P (execOp ρ ⟨d,.unOp .neg t x,ty,pos,af,gd⟩) with|some (.value v)=>bif noA2 v then some (AN.val v,H) else none|_=>none)=_;have T:aC P (execOp ρ ⟨d,.unOp .neg t x,ty,pos,af,gd⟩)=some (.value (.int k (k.wrap (0-n)))):=by unfold execOp;simp only[E];rfl
 rw[T];rfl
theorem ap_cpl{t:TypeId}{x:Operand}{k:IntKind}{n:Int}(E:ρ x= .int k n):AP P ρ ⟨d,.unOp .xor t x,ty,pos,af,gd⟩ H (.val (.int k (bits .xor k (if k.signed then-1 else k.max) n)),H):=by
 refine⟨?_⟩;show aUn P ρ _ .xor (ρ x) H=_;rw[E];show bF P ρ _ H=_;unfold bF;have O:((Op.unOp .xor t x).operands.toList.all fun x=>ke (ρ x))=true:=by simp[Op.operands,E,ke,dz]
 simp only[O,cond_true];have T:aC P (execOp ρ ⟨d,.unOp .xor t x,ty,pos,af,gd⟩)=some (.value (.int k (bits .xor k (if k.signed then-1 else k.max) n))):=by unfold execOp;simp only[E];rfl
 rw[T];rfl
theorem ap_quo{t yt:TypeId}{x y:Operand}{k E:IntKind}{a b:Int}(T:ρ x= .int k a)(U:ρ y= .int E b)(O:gt k E=true)(hb:(b==0)=false):
  AP P ρ ⟨d,.binOp .quo t x y yt,ty,pos,af,gd⟩ H (.val (.int k (k.wrap (a.tdiv b))),H):=
 jh T U (by show(bif gt k E then(bif b==0 then none else some (.int k (k.wrap (a.tdiv b)))) else none:Option Value)=_;rw[O,hb];rfl)
theorem ap_rem{t yt:TypeId}{x y:Operand}{k E:IntKind}{a b:Int}(T:ρ x= .int k a)(U:ρ y= .int E b)(O:gt k E=true)(hb:(b==0)=false):
  AP P ρ ⟨d,.binOp .rem t x y yt,ty,pos,af,gd⟩ H (.val (.int k (a.tmod b)),H):=
 jh T U (by show(bif gt k E then(bif b==0 then none else some (.int k (a.tmod b))) else none:Option Value)=_;rw[O,hb];rfl)
theorem ap_shl{t yt:TypeId}{x y:Operand}{k T:IntKind}{a b:Int}(E:ρ x= .int k a)(O:ρ y= .int T b)(hb:0<=b):
  AP P ρ ⟨d,.binOp .shl t x y yt,ty,pos,af,gd⟩ H (.val (.int k (k.wrap (a *2^(Nat.min b.toNat k.bits)))),H):=by
 refine⟨?_⟩
 obtain⟨n,rfl⟩:=a0U hb
 exact(jh E O rfl).eq
theorem ap_shr{t yt:TypeId}{x y:Operand}{k T:IntKind}{a b:Int}(E:ρ x= .int k a)(O:ρ y= .int T b)(hb:0<=b):
  AP P ρ ⟨d,.binOp .shr t x y yt,ty,pos,af,gd⟩ H (.val (.int k (a.fdiv (2^(Nat.min b.toNat k.bits)))),H):=by
 refine⟨?_⟩
 obtain⟨n,rfl⟩:=a0U hb
 exact(jh E O rfl).eq
theorem np{t:TypeId}{n sz:Nat}{z:List Value}{E:Array (Nat×Operand)}{cells:Array Value}(hs:fH P t=some (sz,z))(T:Nat.ble (n *sz) 16777216=true)
  (O:Instr.fill (fun i=>some (i *sz,sz)) ⟨dU n z⟩ (ge (fun p=>(p.1,ρ p.2)) E.toList)=some cells):
  AP P ρ ⟨d,.buildSlice t n E,ty,pos,af,gd⟩ H (.val (.slice (some ⟨H.next,0,none⟩) n n),H.push (.cells cells.toList none false)):=by
 refine⟨?_⟩
 show bw P t n (ge (fun p=>(p.1,ρ p.2)) E.toList) H=_
 unfold bw
 rw[hs]
 simp only[T,cond_true,O]
 rfl
theorem j4{t e:TypeId}{x i:Operand}{b o n k sz:Nat}{ki:IntKind}{j:Int}(Z:ρ x= .slice (some ⟨b,o,none⟩) n k)(hi:ρ i= .int ki j)(Y:P.underlying t=some (.slice e))(hs:eb P e=some sz)
  (E:0<=j) (hj:j<n) (U:n<=k):AP P ρ ⟨d,.indexAddr t x i,ty,pos,af,gd⟩ H (.val (.pointer (some ⟨b,o+j.toNat *sz,none⟩)),H):=by
 refine⟨?_⟩
 obtain⟨m,rfl⟩:=a0U E
 show ovl (dw P t (ρ x) (ρ i)) H=_
 rw[Z,hi]
 unfold dw
 rw[Y]
 show ovl (match eb P e with|some sz=>bif Nat.ble (m+1) n&&Nat.ble n k then some (.pointer (some ⟨b,o+m *sz,none⟩)) else none|none=>none) H=_
 rw[hs]
 have O:Nat.ble (m+1) n=true:=a0t (by omega)
 have T:Nat.ble n k=true:=a0t U
 simp only[O,T,a1k,cond_true]
 rfl
theorem ap_load1{t:TypeId}{x:Operand}{b o:Nat}{cs:List Value}{E:Option Nat}{Y:Bool}{v:Value}(U:ρ x= .pointer (some ⟨b,o,none⟩))(ha:fS P t=some false)(O:H.get b=some (.cells cs E Y))(T:cs[o]?=some v):
  AP P ρ ⟨d,.load t x,ty,pos,af,gd⟩ H (.val v,H):=by
 refine⟨?_⟩
 show eC P t (ρ x) H=_
 rw[U]
 show ovl (H.loadV P t ⟨b,o,none⟩) H=_
 unfold Heap.loadV
 rw[ha]
 simp only
 unfold Heap.cellAt
 simp only[O,iZ,T]
 rfl
theorem ap_loadN{t:TypeId}{x:Operand}{b o n:Nat}{cs l:List Value}{E:Option Nat}{Z:Bool}(Y:ρ x= .pointer (some ⟨b,o,none⟩))(ha:fS P t=some true)(hs:eb P t=some n)(O:H.get b=some (.cells cs E Z))(T:(cs.drop o).take n=l)(U:l.length=n):
  AP P ρ ⟨d,.load t x,ty,pos,af,gd⟩ H (.val (.agg ⟨l⟩),H):=by
 refine⟨?_⟩
 show eC P t (ρ x) H=_
 rw[Y]
 show ovl (H.loadV P t ⟨b,o,none⟩) H=_
 unfold Heap.loadV
 rw[ha]
 simp only[hs]
 unfold Heap.loadN
 simp only[O,bY,cy,bI,T,U,a0N,cond_true]
 rfl
structure Keeps(H H':Heap):Prop where
 next:H.next<=H'.next
 get: ∀b,b<H.next->H'.get b=H.get b
 log: ∃d,H'.log=d++H.log/\∀b,b∈d->H.next<=b
theorem appL_nil(l:List Value):appL l []=l:=by rw[dY];simp
theorem aR{args:Array Operand}{E:Array TypeId}{i:FuncId}{fn:Func}{f:Fn}{l:List Value}(O:P.funcs[i]?=some fn)(hb:(fn.body.isSome&& !(fn.name== "runtime.NumGoroutine"))=true)(T:ge (en f) args.toList=l):
  AP P (en f) ⟨d,.call ⟨.value (.func i),args,E⟩,ty,pos,af,gd⟩ H (.enter i l,H):=by
 refine⟨?_⟩
 show gW (iQ P (.func (.func i) #[] #[]) (ge (en f) args.toList)) H=_
 unfold iQ
 simp only[O,hb,cond_true,T]
 show gW (some (.enter i (appL [] (appL l [])))) H=_
 rw[appL_nil]
 rfl
end
end Go.R
end
noncomputable section
namespace Go.R
def gO:Inf->Bool
 | .x w=>isNilL w
 |_=>true
def vkAt(ops:Array Oper)(j:Nat):Bool:=match ops[j]? with
 |some o=>bh o.op
 |none=>false
def FsOK(ops:Array Oper)(wr:List Nat)(i:Nat)(fs:List (Nat×Inf)):Prop:= ∀j g,(j,g)∈fs->j<i/\(gO g=true\/j∈wr)/\(vkAt ops j=true->g= .v)
theorem nk: ∀{f g:Inf},gO f=true->gO g=true->eE f g=true
 | .v,_,_,_=>rfl
 | .a b,.v,_,_=>rfl
 | .a b,.a c,_,_=>rfl
 | .a b,.l c,_,_=>rfl
 | .a b,.x w,_,h=>by cases w with
  |nil=>rfl
  |cons _ _=>cases h
 | .l b,.v,_,_=>rfl
 | .l b,.a c,_,_=>rfl
 | .l b,.l c,_,_=>rfl
 | .l b,.x w,_,h=>by cases w with
  |nil=>rfl
  |cons _ _=>cases h
 | .x w,.v,_,_=>rfl
 | .x w,.a c,_,_=>rfl
 | .x w,.l c,h,_=>by cases w with
  |nil=>rfl
  |cons _ _=>cases h
 | .x w,.x u,h,h'=>by simp only[gO]at h h';simp only[eE,h,h',a1k]
theorem below_nil{n:Nat}: ∀{l:List Nat},(∀b,b∈l->n<=b)->dT n l=[]
 | [],_=>rfl
 |c::l,h=>by have E:Nat.ble n c=true:=a0t (h c (a0r ..));unfold dT;rw[E];exact below_nil fun b hb=>h b (a0j _ hb)
theorem infOf_benign{ops:Array Oper}{o:Oper}{s:St}{n:Nat}{log:List Nat}(h:dT n log=[]):gO (ev ops o s n log)=true:=by
 unfold ev;rw[h];cases (!bl ops o s.tmps||bh o.op) with
 |true=>rfl
 |false=>
  simp only[cond_false]
  cases eu o.op with
  |true=>rfl
  |false=>
   simp only[cond_false]
   split
   ·split<;>rfl
   ·split<;>rfl
   ·split<;>rfl
   rfl
theorem infOf_value{ops:Array Oper}{o:Oper}{s:St}{n:Nat}{log:List Nat}(h:bh o.op=true):ev ops o s n log= .v:=by unfold ev;rw[h,a1p];rfl
theorem j5{l:List Nat}{i:Nat}{f:Inf}: ∀{fs:List (Nat×Inf)},(∀j g,(j,g)∈fs->(bm l j i||eE g f)=true)->cj l i f fs=true
 | [],_=>rfl
 |(j,g)::fs,h=>by unfold cj;rw[h j g (a0r ..),j5 fun j g E=>h j g (a0j _ E)];rfl
section
variable {P:Program} {G:Nat} {K:bB} {sz:Nat} {Q:Ex->Fn->Heap->Prop} {ops:Array Oper} {wr:List Nat} {i:Nat} {os:List Oper} {k:List Fr} {f:Fn} {H H1:Heap} {v:Value}
 {d:Tmp} {op:Op} {ty:TypeId} {pos:String} {af:Array Edge}
structure WD(P:Program)(G:Nat)(K:bB)(sz:Nat)(ops:Array Oper)(wr:List Nat)(i:Nat)(os:List Oper)(k:List Fr)(f:Fn)(H:Heap)(Q:Ex->Fn->Heap->Prop):Prop where
 out: ∀t fs,cU t=f->FsOK ops wr i fs->∃n e s',runK P G K (n+1) k (ed (bp P G (call P G K n) ops i fs os ⟨t,sz,H⟩))=some (e,s')/\Q e (cU s'.tmps) s'.heap
end
end Go.R
end
noncomputable section
namespace Go.R
def cH(ops:Array Oper)(f:Fn)(j:Nat):Option Bool:=
 match (ops[j]?).bind (·.dst) with
 |some d=>
  match f d with
  | .bool b=>some b
  |_=>none
 |none=>none
theorem aop_guard{P:Program}{ρ:Operand->Value}{d:Option Tmp}{op:Op}{ty:TypeId}{pos:String}{af:Array Edge}(g E:Option (Nat×Bool))(H:Heap):
  aop P ρ ⟨d,op,ty,pos,af,g⟩ H=aop P ρ ⟨d,op,ty,pos,af,E⟩ H:=by
 cases op<;>rfl
section
variable {P:Program} {G:Nat} {K:bB} {sz:Nat} {Q:Ex->Fn->Heap->Prop} {ops:Array Oper} {wr:List Nat} {i j:Nat} {os:List Oper} {k:List Fr} {f:Fn} {H H1:Heap} {v want:Bool}
 {d:Option Tmp} {op:Op} {ty:TypeId} {pos:String} {af:Array Edge}
theorem iU{t:Tr Value}(O:cU t=f)(T:cH ops f j=some v)(o:Oper)(E:o.guard=some (j,want)):bl ops o t=(v==want):=by
 unfold bl;rw[E];have:lM ops t j=some v:=by rw[←T,←O];rfl
 simp only[this];cases v<;>cases want<;>rfl
theorem lT{cf:cF}{t:Tr Value}(T:cU t=f)(Y:cH ops f j=some v)(U:v=want):
  step P G cf ops ⟨d,op,ty,pos,af,some (j,want)⟩ ⟨t,sz,H⟩=step P G cf ops ⟨d,op,ty,pos,af,none⟩ ⟨t,sz,H⟩:=by
 unfold step
 rw[iU T Y _ rfl,U]
 have E:(want==want)=true:=by cases want<;>rfl
 have O:bl ops ⟨d,op,ty,pos,af,none⟩ t=true:=rfl
 simp only[E,O,cond_true,aop_guard (some (j,want)) none]
theorem mE{cf:cF}{t:Tr Value}(O:cU t=f)(U:cH ops f j=some v)(T:v= !want):
  step P G cf ops ⟨d,op,ty,pos,af,some (j,want)⟩ ⟨t,sz,H⟩=St.put ⟨t,sz,H⟩ d undef:=by
 unfold step
 rw[iU O U _ rfl,T]
 have E:((!want)==want)=false:=by cases want<;>rfl
 simp only[E,cond_false]
theorem aU(Y:cH ops f j=some v)(U:v=want)(h:WO P G K sz ops (⟨d,op,ty,pos,af,none⟩::os) k f H Q):WO P G K sz ops (⟨d,op,ty,pos,af,some (j,want)⟩::os) k f H Q:=⟨fun t O=>by
 obtain⟨n,e,Z,E,T⟩:=h.out t O;refine⟨n,e,Z,?_,T⟩;rw[bS]at E⊢;rw[lT O Y U];exact E⟩
theorem wo_gf{d:Tmp}(hy:cH ops f j=some v)(Z:v= !want)(hd:Nat.ble (d+1) sz=true)(h:WO P G K sz ops os k (upd f d undef) H Q):WO P G K sz ops (⟨some d,op,ty,pos,af,some (j,want)⟩::os) k f H Q:=⟨fun t E=>by
 obtain⟨t',U,Y⟩:=jQ (s:=⟨t,sz,H⟩) (d:=some d) (v:=undef) hd;obtain⟨n,e,s',O,T⟩:=h.out t' (by rw[Y,E];rfl);refine⟨n,e,s',?_,T⟩;rw[bS,mE E hy Z,U];exact O⟩
theorem bN{d:Tmp}(O:cH ops f j=some v)(E:v=false)(hd:Nat.ble (d+1) sz=true)(h:WO P G K sz ops os k (upd f d undef) H Q):WO P G K sz ops (⟨some d,op,ty,pos,af,some (j,true)⟩::os) k f H Q:=wo_gf O E hd h
theorem aw{d:Tmp}(O:cH ops f j=some v)(E:v=true)(hd:Nat.ble (d+1) sz=true)(h:WO P G K sz ops os k (upd f d undef) H Q):WO P G K sz ops (⟨some d,op,ty,pos,af,some (j,false)⟩::os) k f H Q:=wo_gf O E hd h
theorem cX{d:Tmp}(hy:cH ops f j=none)(hd:Nat.ble (d+1) sz=true)(h:WO P G K sz ops os k (upd f d undef) H Q):WO P G K sz ops (⟨some d,op,ty,pos,af,some (j,want)⟩::os) k f H Q:=⟨fun t O=>by
 obtain⟨t',Y,Z⟩:=jQ (s:=⟨t,sz,H⟩) (d:=some d) (v:=undef) hd;obtain⟨n,e,s',T,U⟩:=h.out t' (by rw[Z,O];rfl);refine⟨n,e,s',?_,U⟩;have hw:bl ops ⟨some d,op,ty,pos,af,some (j,want)⟩ t=false:=by
  unfold bl;have:lM ops t j=none:=by rw[←hy,←O];rfl
  simp only[this];cases want<;>rfl
 have E:step P G (call P G K n) ops ⟨some d,op,ty,pos,af,some (j,want)⟩ ⟨t,sz,H⟩=St.put ⟨t,sz,H⟩ (some d) undef:=by unfold step;simp only[hw,cond_false]
 rw[bS,E,Y];exact T⟩
theorem ic{d:Tmp}(E:cH ops f j=some v)(hd:Nat.ble (d+1) sz=true)(O:v=true->WO P G K sz ops (⟨some d,op,ty,pos,af,none⟩::os) k f H Q)(T:v=false->WO P G K sz ops os k (upd f d undef) H Q):
  WO P G K sz ops (⟨some d,op,ty,pos,af,some (j,true)⟩::os) k f H Q:=by
 cases v with
 |true=>exact aU E rfl (O rfl)
 |false=>exact wo_gf E rfl hd (T rfl)
theorem dj{d:Tmp}(E:cH ops f j=some v)(hd:Nat.ble (d+1) sz=true)(O:v=false->WO P G K sz ops (⟨some d,op,ty,pos,af,none⟩::os) k f H Q)(T:v=true->WO P G K sz ops os k (upd f d undef) H Q):
  WO P G K sz ops (⟨some d,op,ty,pos,af,some (j,false)⟩::os) k f H Q:=by
 cases v with
 |true=>exact wo_gf E rfl hd (T rfl)
 |false=>exact aU E rfl (O rfl)
end
section
variable {P:Program} {ρ:Operand->Value} {d:Option Tmp} {ty:TypeId} {pos:String} {af:Array Edge} {gd:Option (Nat×Bool)} {H:Heap}
theorem aD{c a b:Operand}{t:Bool}{v:Value}(hc:ρ c= .bool t)(E:t=true)(O:ρ a=v):AP P ρ ⟨d,.pick c a b,ty,pos,af,gd⟩ H (.val v,H):=by refine⟨?_⟩;show gG ρ c a b H=_;unfold gG;rw[hc,E,←O];rfl
theorem aV{c a b:Operand}{t:Bool}{v:Value}(hc:ρ c= .bool t)(E:t=false)(O:ρ b=v):AP P ρ ⟨d,.pick c a b,ty,pos,af,gd⟩ H (.val v,H):=by refine⟨?_⟩;show gG ρ c a b H=_;unfold gG;rw[hc,E,←O];rfl
def el(op:BinOp)(t:TypeId)(x y:Operand)(a b:Bool):Sem Next:=
 ((eqGuard op t x y (.bool a) (.bool b))>>=fun _=>binOp op t (.bool a) (.bool b))>>=fun r=>Pure.pure (Next.value r)
theorem ap_boolEq{t yt:TypeId}{x y:Operand}{a b:Bool}(O:ρ x= .bool a)(T:ρ y= .bool b)(E: ∀a b:Bool,aC P (el .eql t x y a b)=some (.value (.bool (a==b)))):AP P ρ ⟨d,.binOp .eql t x y yt,ty,pos,af,gd⟩ H (.val (.bool (a==b)),H):=by
 refine⟨?_⟩;show aBin P ρ _ .eql t (ρ x) y H=_;rw[O];show bF P ρ _ H=_;unfold bF;have U:((Op.binOp .eql t x y yt).operands.toList.all fun x=>ke (ρ x))=true:=by simp[Op.operands,O,T,ke,dz]
 simp only[U,cond_true];have Y:aC P (execOp ρ ⟨d,.binOp .eql t x y yt,ty,pos,af,gd⟩)=some (.value (.bool (a==b))):=by rw[←E a b];unfold execOp el;simp only[O,T]
 rw[Y];rfl
end
end Go.R
end
noncomputable section
namespace Go.R
open Go.RowKit
def KX(ex:FuncId):bB:=fun f args _=>match args with
 | []=>bif Nat.beq f ex then some (.bool true) else none
 |_=>none
theorem kx_ok{P:Program}{ex:FuncId}(h: ∀w,Calls P ex #[] w fun e w'=>e= .returned (.bool true)/\Below w.heap.size w w'):gT P 0 (KX ex):=by
 intro f args H v E;unfold KX at E;split at E
 ·cases T:Nat.beq f ex with
  |false=>rw[T]at E;cases E
  |true=>
   rw[T]at E
   simp only[cond_true,a01]at E
   subst E
   have:=a08 T
   subst this
   refine⟨rfl,rfl,fun μ O w hc _ _=>?_⟩
   have:O= #[]:=by cases O;simp_all
   subst this
   exact h w
 cases E
end Go.R
end
noncomputable section
namespace Go.R
abbrev Fz:=Nat->Option AObj
abbrev Fp:=List (Nat×AObj)
def Fz.le(F F':Fz):Prop:= ∀b o,F b=some o->F' b=some o
theorem Fz.le_refl(F:Fz):F.le F:=fun _ _ h=>h
theorem Fz.le_trans{A B C:Fz}(h:A.le B)(k:B.le C):A.le C:=fun b o x=>k b o (h b o x)
def Fz.add(F:Fz)(b:Nat)(o:AObj):Fz:=fun j=>bif Nat.beq b j then some o else F j
def Fz.addL(F:Fz):Fp->Fz
 | []=>F
 |(b,o)::p=>(F.addL p).add b o
abbrev in64(n:Int):Prop:= -9223372036854775808<=n/\n<9223372036854775808
structure Base where
 n0:Nat
 W:List Nat
 lg:List Nat
def Base.of(H:Heap)(W:List Nat):Base:=⟨H.next,W,H.log⟩
structure HS(B:Base)(F:Fz)(H:Heap)(L R:List Fp):Prop where
 fz: ∀b o,F b=some o->H.get b=some o/\b<H.next
 own: ∀p,p∈L\/p∈R->∀b o,(b,o)∈p->H.get b=some o/\b<H.next/\F b=none
 nd:((L++R).flatten.map Prod.fst).Nodup
 n0:B.n0<=H.next
 log: ∀b,b∈H.log->b∈B.lg\/B.n0<=b\/b∈B.W
 mine: ∀p,p∈L->∀b o,(b,o)∈p->B.n0<=b\/b∈B.W
theorem i8{α:Type}: ∀(L:List (List α)) (i:Nat) (p:List α),L[i]?=some p->∃A C,L=A++p::C/\∀q,L.set i q=A++q::C
 | [],_,_,h=>by simp at h
 |x::L,0,p,h=>by simp at h;subst h;exact⟨[],L,rfl,fun _=>rfl⟩
 |x::L,i+1,p,h=>by obtain⟨A,C,E,O⟩:=i8 L i p (by simpa using h);exact⟨x::A,C,by rw[E];rfl,fun q=>by rw[List.set_cons_succ,O];rfl⟩
theorem m4{α:Type}(L:List (List α))(i:Nat)(p q:List α)(h:L[i]?=some p): ∃A C,L=A++p::C/\L.set i q=A++q::C:=by obtain⟨A,C,E,O⟩:=i8 L i p h;exact⟨A,C,E,O q⟩
section
variable {B:Base} {F F':Fz} {H H':Heap} {L R:List Fp}
theorem HS.relog(h:HS B F H L R){l:List Nat}(E: ∀b,b∈l->b∈B.lg\/B.n0<=b\/b∈B.W):HS B F {H with log:=l} L R:=⟨h.fz,h.own,h.nd,h.n0,E,h.mine⟩
theorem HS.log0(h:HS B F H L R):HS B F {H with log:=[]} L R:=h.relog fun b hb=>by simp at hb
theorem HS.turn(h:HS B F H L R){i:Nat}{p q:Fp}(hi:L[i]?=some p)(hn:H.next<=H'.next)
  (a7: ∀b,b<H.next->(∀o,(b,o)∉p)->H'.get b=H.get b)
  (hq: ∀b o,(b,o)∈q->H'.get b=some o/\b<H'.next/\(H.next<=b\/∃T,(b,T)∈p)) (b7:(q.map Prod.fst).Nodup)
  (b5: ∀b,b∈H'.log->b∈H.log\/H.next<=b\/∃o,(b,o)∈p):HS B F H' (L.set i q) R:=by
 obtain⟨A,C,e1,e2⟩:=m4 L i p q hi
 have a3:p∈L:=a0p hi
 have O:=h.nd
 rw[e1]at O
 have a8: ∀x,x∈L.set i q\/x∈R->x=q\/((x∈L\/x∈R)/\∀b o T,(b,o)∈x->(b,T)∉p):=by
  intro x E;have key: ∀x,x∈A\/x∈C\/x∈R->∀b o T,(b,o)∈x->(b,T)∉p:=by
   intro x E b o T hb an;simp only[a0a,a0w,a0X,a0M,a11,a1n,a0f]at O;have ar:b∈p.map Prod.fst:=a0v.2 ⟨_,an,rfl⟩;have b3:b∈x.map Prod.fst:=a0v.2 ⟨_,hb,rfl⟩;rcases E with E|E|E
   ·have:b∈A.flatten.map Prod.fst:=a0v.2 ⟨(b,o),a0T.2 ⟨x,E,hb⟩,rfl⟩;exact O.2.2 b this b (.inl ar) rfl
   ·have:b∈C.flatten.map Prod.fst:=a0v.2 ⟨(b,o),a0T.2 ⟨x,E,hb⟩,rfl⟩;exact O.2.1.2.2 b ar b (.inl this) rfl
   have:b∈R.flatten.map Prod.fst:=a0v.2 ⟨(b,o),a0T.2 ⟨x,E,hb⟩,rfl⟩;exact O.2.1.2.2 b ar b (.inr this) rfl
  rw[e2]at E;rcases E with E|E
  ·rcases a0f.1 E with E|E
   ·exact .inr ⟨.inl (by rw[e1];exact a0f.2 (.inl E)),key x (.inl E)⟩
   rcases a0m.1 E with rfl|E
   ·exact .inl rfl
   exact .inr ⟨.inl (by rw[e1];exact a0f.2 (.inr (a0j _ E))),key x (.inr (.inl E))⟩
  exact .inr ⟨.inr E,key x (.inr (.inr E))⟩
 have b0: ∀b o,(b,o)∈p->F b=none/\b<H.next:=fun b o hb=>⟨(h.own p (.inl a3) b o hb).2.2,(h.own p (.inl a3) b o hb).2.1⟩
 refine⟨fun b o hb=>?_,fun x E b o hb=>?_,?_,a05 h.n0 hn,fun b hb=>?_,fun x E b o hb=>?_⟩
 ·obtain⟨U,h2⟩:=h.fz b o hb;refine⟨?_,a0V h2 hn⟩;rw[a7 b h2 fun T a2=>by rw[(b0 b T a2).1]at hb;cases hb];exact U
 ·rcases a8 x E with rfl|⟨b3,hne⟩
  ·obtain⟨U,h2,Y⟩:=hq b o hb;refine⟨U,h2,?_⟩;rcases Y with Y|⟨T,a2⟩
   ·cases hf:F b with
    |none=>rfl
    |some z=>have:=(h.fz b z hf).2;omega
   exact(b0 b T a2).1
  obtain⟨U,h2,Y⟩:=h.own x b3 b o hb;exact⟨by rw[a7 b h2 fun T=>hne b o T hb];exact U,a0V h2 hn,Y⟩
 ·rw[e2];have b1: ∀x,x∈A\/x∈C\/x∈R->∀b,b∈x.map Prod.fst->b<H.next/\∀T,(b,T)∉p:=by
   intro x E b hb;obtain⟨⟨Z,o⟩,an,rfl⟩:=a0v.1 hb;have b4:x∈L.set i q\/x∈R:=by
    rw[e2];rcases E with E|E|E
    ·exact .inl (a0f.2 (.inl E))
    ·exact .inl (a0f.2 (.inr (a0j _ E)))
    exact .inr E
   have b8:x∈L\/x∈R:=by
    rw[e1];rcases E with E|E|E
    ·exact .inl (a0f.2 (.inl E))
    ·exact .inl (a0f.2 (.inr (a0j _ E)))
    exact .inr E
   refine⟨(h.own x b8 Z o an).2.1,fun T a2=>?_⟩;have a1:=O;simp only[a0a,a0w,a0X,a0M,a11,a1n,a0f]at a1;have ar:Z∈p.map Prod.fst:=a0v.2 ⟨_,a2,rfl⟩;rcases E with E|E|E
   ·exact a1.2.2 Z (a0v.2 ⟨(Z,o),a0T.2 ⟨x,E,an⟩,rfl⟩) Z (.inl ar) rfl
   ·exact a1.2.1.2.2 Z ar Z (.inl (a0v.2 ⟨(Z,o),a0T.2 ⟨x,E,an⟩,rfl⟩)) rfl
   exact a1.2.1.2.2 Z ar Z (.inr (a0v.2 ⟨(Z,o),a0T.2 ⟨x,E,an⟩,rfl⟩)) rfl
  have a6: ∀(X:List Fp) b,b∈X.flatten.map Prod.fst->∃x,x∈X/\b∈x.map Prod.fst:=by intro X b hb;obtain⟨y,hy,rfl⟩:=a0v.1 hb;obtain⟨x,E,b9⟩:=a0T.1 hy;exact⟨x,E,a0v.2 ⟨y,b9,rfl⟩⟩
  have b2: ∀b,b∈q.map Prod.fst->H.next<=b\/∃T,(b,T)∈p:=by intro b hb;obtain⟨⟨Z,o⟩,an,rfl⟩:=a0v.1 hb;exact(hq Z o an).2.2
  simp only[a0a,a0w,a0X,a0M,a11,a1n,a0f]at O⊢;obtain⟨n1,⟨n2,⟨n3,n4,n5⟩,n6⟩,n7⟩:=O;refine⟨n1,⟨b7,⟨n3,n4,n5⟩,fun a ha b hb a5=>?_⟩,fun a ha b hb a5=>?_⟩
  ·subst a5;have E: ∃x,(x∈A\/x∈C\/x∈R)/\a∈x.map Prod.fst:=by
    rcases hb with hb|hb
    ·obtain⟨x,E,U⟩:=a6 C a hb;exact⟨x,.inr (.inl E),U⟩
    obtain⟨x,E,U⟩:=a6 R a hb;exact⟨x,.inr (.inr E),U⟩
   obtain⟨x,E,U⟩:=E;obtain⟨h2,Y⟩:=b1 x E a U;rcases b2 a ha with h4|⟨T,h4⟩
   ·omega
   exact Y T h4
  subst a5;rcases hb with hb|hb
  ·obtain⟨x,E,U⟩:=a6 A a ha;obtain⟨h2,Y⟩:=b1 x (.inl E) a U;rcases b2 a hb with h4|⟨T,h4⟩
   ·omega
   exact Y T h4
  exact n7 a ha a (.inr hb) rfl
 ·rcases b5 b hb with U|U|⟨o,U⟩
  ·exact h.log b U
  ·exact .inr (.inl (a05 h.n0 U))
  exact .inr (h.mine p a3 b o U)
 have b4:=a8 x (.inl E)
 rcases b4 with rfl|⟨_,_⟩
 ·rcases (hq b o hb).2.2 with Y|⟨T,Y⟩
  ·exact .inl (a05 h.n0 Y)
  exact h.mine p a3 b T Y
 rw[e2]at E
 rcases a0f.1 E with E|E
 ·exact h.mine x (by rw[e1];exact a0f.2 (.inl E)) b o hb
 rcases a0m.1 E with rfl|E
 ·rcases (hq b o hb).2.2 with Y|⟨T,Y⟩
  ·exact .inl (a05 h.n0 Y)
  exact h.mine p a3 b T Y
 exact h.mine x (by rw[e1];exact a0f.2 (.inr (a0j _ E))) b o hb
theorem HS.cons(h:HS B F H L R):HS B F H ([]::L) R:=
 ⟨h.fz,fun p E b o hb=>by
  rcases E with E|E
  ·rcases a0m.1 E with rfl|E
   ·simp at hb
   exact h.own p (.inl E) b o hb
  ·exact h.own p (.inr E) b o hb,by simpa using h.nd,h.n0,h.log,fun p E b o hb=>by
  rcases a0m.1 E with rfl|E
  ·simp at hb
  exact h.mine p E b o hb⟩
theorem HS.snoc(h:HS B F H L R):HS B F H (L++[[]]) R:=
 ⟨h.fz,fun p E b o hb=>by
  rcases E with E|E
  ·rcases a0f.1 E with E|E
   ·exact h.own p (.inl E) b o hb
   simp at E;subst E;simp at hb
  ·exact h.own p (.inr E) b o hb,by simpa using h.nd,h.n0,h.log,fun p E b o hb=>by
  rcases a0f.1 E with E|E
  ·exact h.mine p E b o hb
  simp at E;subst E;simp at hb⟩
theorem HS.push(h:HS B F H L R)(o:AObj):HS B F (H.push o) (L++[[(H.next,o)]]) R:=by
 have E:=(h.snoc).turn (H':=H.push o) (i:=L.length) (p:=[]) (q:=[(H.next,o)]) (by simp) (by simp)
  (fun b hb _=>Heap.get_push_ne _ _ (by omega)) (fun b O hb=>by
   simp at hb;obtain⟨rfl,rfl⟩:=hb;exact⟨Heap.get_push_same _ _,by simp,.inl (a07 _)⟩) (by simp) (fun b hb=> .inl (by simpa using hb))
 simpa using E
theorem HS.put(h:HS B F H L R){i b:Nat}{o O:AObj}(hi:L[i]?=some [(b,o)]):HS B F (H.put b O) (L.set i [(b,O)]) R:=
 h.turn hi (by simp) (fun c _ E=>Heap.get_put_ne _ _ fun e=>E o (by simp[e])) (fun c T hb=>by
  simp at hb;obtain⟨rfl,rfl⟩:=hb;have:=(h.own _ (.inl (a0p hi)) c o (by simp)).2.1;exact⟨Heap.get_put_same _ _ _,by simpa using this,.inr ⟨o,by simp⟩⟩) (by simp) (fun c hc=>by
  rw[Heap.log_put]at hc;rcases a0m.1 hc with rfl|hc
  ·exact .inr (.inr ⟨o,by simp⟩)
  exact .inl hc)
theorem HS.get(h:HS B F H L R){i b:Nat}{p:Fp}{o:AObj}(hi:L[i]?=some p)(hb:(b,o)∈p):H.get b=some o:=(h.own p (.inl (a0p hi)) b o hb).1
theorem HS.drop(h:HS B F H L R){i:Nat}{p:Fp}(hi:L[i]?=some p):HS B F H (L.set i []) R:=
 h.turn hi (a07 _) (fun _ _ _=>rfl) (fun b o hb=>by simp at hb) (by simp) (fun b hb=> .inl hb)
theorem addL_get{p:Fp}: ∀{b:Nat} {o:AObj},(F.addL p) b=some o->F b=some o\/(b,o)∈p:=by
 induction p with
 |nil=>intro b o h;exact .inl h
 |cons x p ih=>
  obtain⟨E,O⟩:=x
  intro b o h
  simp only[Fz.addL,Fz.add]at h
  cases hb:Nat.beq E b with
  |true=>
   rw[hb]at h;simp only[cond_true,a01]at h;subst h
   have:=a08 hb;subst this
   exact .inr (by simp)
  |false=>
   rw[hb]at h
   rcases ih h with h1|h1
   ·exact .inl h1
   exact .inr (a0j _ h1)
theorem addL_of{p:Fp}: ∀{b:Nat} {o:AObj},(p.map Prod.fst).Nodup->(b,o)∈p->(F.addL p) b=some o:=by
 induction p with
 |nil=>intro b o _ h;simp at h
 |cons x p ih=>
  obtain⟨O,U⟩:=x
  intro b o E h
  simp only[a1s,List.nodup_cons]at E
  simp only[Fz.addL,Fz.add]
  rcases a0m.1 h with e|h
  ·injection e with e1 e2;subst e1 e2;rw[a0N];rfl
  have T:Nat.beq O b=false:=by
   cases hb:Nat.beq O b with
   |false=>rfl
   |true=>have:=a08 hb;subst this;exact absurd (a0v.2 ⟨_,h,rfl⟩) E.1
  rw[T];exact ih E.2 h
theorem addL_le{p:Fp}(h: ∀b o,(b,o)∈p->F b=none):F.le (F.addL p):=by
 induction p with
 |nil=>exact F.le_refl
 |cons x p ih=>
  obtain⟨E,Y⟩:=x
  intro b o hb
  have O:=ih (fun b o T=>h b o (a0j _ T)) b o hb
  simp only[Fz.addL,Fz.add]
  cases U:Nat.beq E b with
  |false=>exact O
  |true=>
   have:=a08 U;subst this
   rw[h E Y (by simp)]at hb;cases hb
theorem HS.nodup_of(h:HS B F H L R){p:Fp}(E:p∈L):(p.map Prod.fst).Nodup:=by have:=h.nd;obtain⟨A,C,rfl⟩:=List.append_of_mem E;simp only[a0a,a0w,a0X,a0M,a11,a1n]at this;exact this.2.1.1
theorem HS.freeze(h:HS B F H L R){i:Nat}{p:Fp}(hi:L[i]?=some p): ∃F',F.le F'/\HS B F' H (L.set i []) R/\∀b o,(b,o)∈p->F' b=some o:=by
 have Y:p∈L:=a0p hi;have Z:=addL_le (F:=F) (p:=p) fun b o hb=>(h.own p (.inl Y) b o hb).2.2
 have hd:=h.drop hi;have an:=h.nodup_of Y;refine⟨F.addL p,Z,⟨fun b o hb=>?_,fun x E b o hb=>?_,hd.nd,hd.n0,hd.log,hd.mine⟩,fun b o hb=>addL_of an hb⟩
 ·rcases addL_get hb with O|O
  ·exact h.fz b o O
  have:=h.own p (.inl Y) b o O;exact⟨this.1,this.2.1⟩
 obtain⟨O,h2,h3⟩:=hd.own x E b o hb;refine⟨O,h2,?_⟩;cases hq:F.addL p b with
 |none=>rfl
 |some z=>
  exfalso
  rcases addL_get hq with h4|h4
  ·rw[h3]at h4;cases h4
  ·--disjoint
   obtain⟨A,C,e1,e2⟩:=m4 L i p [] hi;have T:=h.nd;rw[e1]at T;simp only[a0a,a0w,a0X,a0M,a11,a1n,a0f]at T;have U:b∈p.map Prod.fst:=a0v.2 ⟨_,h4,rfl⟩;rcases E with E|E
   ·rw[e2]at E;rcases a0f.1 E with E|E
    ·exact T.2.2 b (a0v.2 ⟨(b,o),a0T.2 ⟨x,E,hb⟩,rfl⟩) b (.inl U) rfl
    rcases a0m.1 E with rfl|E
    ·simp at hb
    exact T.2.1.2.2 b U b (.inl (a0v.2 ⟨(b,o),a0T.2 ⟨x,E,hb⟩,rfl⟩)) rfl
   exact T.2.1.2.2 b U b (.inr (a0v.2 ⟨(b,o),a0T.2 ⟨x,E,hb⟩,rfl⟩)) rfl
theorem HS.call(h:HS B F H L R):HS (.of H []) F H [] (L++R):=
 ⟨h.fz,fun p E b o hb=>by
  rcases E with E|E
  ·simp at E
  exact h.own p (a0f.1 E) b o hb,by simpa using h.nd,a07 _,fun b hb=> .inl hb,fun p E=>by simp at E⟩
theorem HS.back{M:List Fp}{T:Heap}(h:HS B F H L R)(U:T=H)(k:HS (.of T []) F' H' M (L++R)):HS B F' H' (L++M) R:=by
 subst U;refine⟨k.fz,fun p E b o hb=>k.own p ?_ b o hb,?_,a05 h.n0 k.n0,fun b hb=>?_,fun p E b o hb=>?_⟩
 ·rcases E with E|E
  ·rcases a0f.1 E with E|E
   ·exact .inr (a0f.2 (.inl E))
   exact .inl E
  exact .inr (a0f.2 (.inr E))
 ·have:=k.nd;have O:((L++M++R).flatten.map Prod.fst).Perm ((M++(L++R)).flatten.map Prod.fst):=by simp only[a0X,a11,a0a];exact a12 _ _ _
  exact O.nodup_iff.2 this
 ·rcases k.log b hb with h1|h1|h1
  ·exact h.log b h1
  ·exact .inr (.inl (a05 h.n0 h1))
  simp[Base.of]at h1
 rcases a0f.1 E with E|E
 ·exact h.mine p E b o hb
 rcases k.mine p E b o hb with h1|h1
 ·exact .inl (a05 h.n0 h1)
 simp[Base.of]at h1
theorem HS.callOwn(h:HS B F H L R){i:Nat}{p:Fp}(hi:L[i]?=some p):HS (.of H (p.map Prod.fst)) F H [p] (L.set i []++R):=by
 obtain⟨A,C,T,U⟩:=m4 L i p [] hi;have Y:p∈L:=a0p hi;refine⟨h.fz,fun x E b o hb=>?_,?_,a07 _,fun b hb=> .inl hb,fun x E b o hb=>?_⟩
 ·rcases E with E|E
  ·simp at E;subst E;exact h.own x (.inl Y) b o hb
  rw[U]at E;simp only[a0a,a0w,a0f,a0m]at E;rcases E with E|rfl|E|E
  ·exact h.own x (.inl (by rw[T];simp[E])) b o hb
  ·simp at hb
  ·exact h.own x (.inl (by rw[T];simp[E])) b o hb
  exact h.own x (.inr E) b o hb
 ·have:=h.nd;rw[T]at this;rw[U];have O:(([p]++(A++[]::C++R)).flatten.map Prod.fst).Perm ((A++p::C++R).flatten.map Prod.fst):=by simp only[a0X,a0M,List.flatten_nil,a0o,a0z,a11,a0a];exact a12 _ _ _
  exact O.nodup_iff.2 this
 simp at E;subst E;exact .inr (a0v.2 ⟨_,hb,rfl⟩)
theorem HS.backOwn{Z:Heap}{W:List Nat}{p q:Fp}{M:List Fp}(h:HS B F H L R){i:Nat}(hi:L[i]?=some p)(hH:Z=H)(hW: ∀b,b∈W->b∈p.map Prod.fst)(k:HS (.of Z W) F' H' (q::M) (L.set i []++R)):HS B F' H' (L.set i q++M) R:=by
 subst hH;obtain⟨A,C,e1,e2⟩:=i8 L i p hi;have a1:p∈L:=a0p hi;have U: ∀b,b∈W->B.n0<=b\/b∈B.W:=fun b hb=>by obtain⟨⟨b',o⟩,ar,rfl⟩:=a0v.1 (hW b hb);exact h.mine p a1 b' o ar
 have ax: ∀x,x∈A++q::C++M\/x∈R->x∈q::M\/x∈A++[]::C++R:=by
  intro x E;simp only[a0a,a0w,a0f,a0m]at E⊢;rcases E with(E|E|E|E)|E
  ·exact .inr (.inl E)
  ·exact .inl (.inl E)
  ·exact .inr (.inr (.inr (.inl E)))
  ·exact .inl (.inr E)
  exact .inr (.inr (.inr (.inr E)))
 have Y: ∀x,x∈q::M->∀b o,(b,o)∈x->B.n0<=b\/b∈B.W:=fun x E b o hb=>by
  rcases k.mine x E b o hb with O|O
  ·exact .inl (a05 h.n0 O)
  exact U b O
 rw[e2]at k⊢;refine⟨k.fz,fun x E b o hb=>k.own x (ax x E) b o hb,?_,a05 h.n0 k.n0,fun b hb=>?_,fun x E b o hb=>?_⟩
 ·have:=k.nd;have T:((A++q::C++M++R).flatten.map Prod.fst).Perm ((q::M++(A++[]::C++R)).flatten.map Prod.fst):=by
   simp only[a0X,a0M,a0z,a11,a0a,a0w];have O: ∀(a c m q r:List Nat),(a++(q++(c++(m++r)))).Perm (q++(m++(a++(c++r)))):=by intro a c m q r;refine List.Perm.trans (a12 a q _) (List.Perm.append_left q ?_);refine List.Perm.trans (List.Perm.append_left a (a12 c m r)) ?_;exact a12 a m _
   exact O _ _ _ _ _
  exact T.nodup_iff.2 this
 ·rcases k.log b hb with O|O|O
  ·exact h.log b O
  ·exact .inr (.inl (a05 h.n0 O))
  exact .inr (U b O)
 simp only[a0a,a0w,a0f,a0m]at E;rcases E with E|rfl|E|E
 ·exact h.mine x (by rw[e1];simp[E]) b o hb
 ·exact Y x (by simp) b o hb
 ·exact h.mine x (by rw[e1];simp[E]) b o hb
 exact Y x (by simp[E]) b o hb
end
end Go.R
end
noncomputable section
namespace Go.R
class Rp(α:Type) where
 sz:Nat
 rep:Fz->List Value->α->Prop
 len: ∀{F:Fz} {cs:List Value} {x:α},rep F cs x->cs.length=sz
 one: ∀{F:Fz} {cs:List Value} {x:α},rep F cs x->allL Value.oneCell' cs=true
 mono: ∀{F F':Fz} {cs:List Value} {x:α},F.le F'->rep F cs x->rep F' cs x
def RL{α:Type} [Rp α](F:Fz):List Value->List α->Prop
 |cs,[]=>cs=[]
 |cs,x::l=> ∃c r,cs=c++r/\Rp.rep F c x/\RL F r l
theorem allL_app{p:Value->Bool}(a b:List Value):allL p (a++b)=(allL p a&&allL p b):=by simp only[ns,a1Q]
section
variable {α:Type} [Rp α] {F F':Fz}
theorem RL.length: ∀{l:List α} {cs:List Value},RL F cs l->cs.length=l.length *Rp.sz α
 | [],cs,h=>by simp only[RL]at h;subst h;simp
 |x::l,cs,h=>by obtain⟨c,r,rfl,E,O⟩:=h;rw[a00,Rp.len E,RL.length O,a02,a1q,Nat.add_comm]
theorem RL.mono(E:F.le F'): ∀{l:List α} {cs:List Value},RL F cs l->RL F' cs l
 | [],_,h=>h
 |_::_,_,⟨c,r,e,h1,h2⟩=>⟨c,r,e,Rp.mono E h1,RL.mono E h2⟩
theorem RL.one: ∀{l:List α} {cs:List Value},RL F cs l->allL Value.oneCell' cs=true
 | [],cs,h=>by simp only[RL]at h;subst h;rfl
 |x::l,cs,h=>by obtain⟨c,r,rfl,E,O⟩:=h;rw[allL_app,Rp.one E,RL.one O];rfl
theorem RL.append: ∀{l m:List α} {cs E:List Value},RL F cs l->RL F E m->RL F (cs++E) (l++m)
 | [],_,cs,_,h,k=>by simp only[RL]at h;subst h;exact k
 |_::_,_,_,_,⟨c,r,e,h1,h2⟩,k=>⟨c,_,by rw[e,a0a],h1,RL.append h2 k⟩
theorem RL.take: ∀{l:List α} {cs:List Value} (n:Nat),RL F cs l->RL F (cs.take (n *Rp.sz α)) (l.take n)
 |l,cs,0,h=>by simp[RL]
 | [],cs,n+1,h=>by simp only[RL]at h;subst h;simp[RL]
 |x::l,cs,n+1,h=>by
  obtain⟨c,r,rfl,E,U⟩:=h;refine⟨c,r.take (n *Rp.sz α),?_,E,RL.take n U⟩;rw[List.take_append,Rp.len E];have O:List.take ((n+1) *Rp.sz α) c=c:=a0A (by rw[Rp.len E,a1q];omega);have T:(n+1) *Rp.sz α-Rp.sz α=n *Rp.sz α:=by rw[a1q];omega
  rw[O,T]
theorem RL.drop: ∀{l:List α} {cs:List Value} (n:Nat),RL F cs l->RL F (cs.drop (n *Rp.sz α)) (l.drop n)
 |l,cs,0,h=>by simpa using h
 | [],cs,n+1,h=>by simp only[RL]at h;subst h;simp[RL]
 |x::l,cs,n+1,h=>by
  obtain⟨c,r,rfl,E,U⟩:=h;have:=RL.drop n U;rw[List.drop_append,Rp.len E];have O:List.drop ((n+1) *Rp.sz α) c=[]:=a0O (by rw[Rp.len E,a1q];omega);have T:(n+1) *Rp.sz α-Rp.sz α=n *Rp.sz α:=by rw[a1q];omega
  rw[O,T];exact this
theorem RL.head{l:List α}{x:α}{cs:List Value}(h:RL F cs (x::l)):Rp.rep F (cs.take (Rp.sz α)) x:=by obtain⟨c,r,rfl,E,_⟩:=h;rw[List.take_append,Rp.len E,Nat.sub_self,List.take_zero,a0o,a0A (by rw[Rp.len E];omega)];exact E
theorem RL.at{l:List α}{cs:List Value}{j:Nat}{x:α}(h:RL F cs l)(O:l[j]?=some x):Rp.rep F ((cs.drop (j *Rp.sz α)).take (Rp.sz α)) x:=by
 have E:=h.drop j;have U:=(a0u.1 O).1;have T:l.drop j=x::l.drop (j+1):=by rw[a0K U];congr 1;exact(a0u.1 O).2
 rw[T]at E;exact E.head
theorem splice_eq(cs vs:List Value)(o:Nat)(h:o+vs.length<=cs.length):bD cs o vs=cs.take o++vs++cs.drop (o+vs.length):=by
 apply a1D;intro i;rw[bC cs o vs i h];simp only[a0a,List.getElem?_append,a0i,a0x,a0H];have e:min o cs.length=o:=by omega
 rw[e];by_cases E:i<o
 ·rw[if_pos E,if_neg (by omega)];simp[E]
 rw[if_neg E];by_cases O:i<o+vs.length
 ·rw[if_pos (by omega),if_pos (by omega)]
 rw[if_neg (by omega),if_neg (by omega)];congr 1;omega
theorem RL.set{l:List α}{cs c:List Value}{j:Nat}{x:α}(h:RL F cs l)(E:j<l.length)(hc:Rp.rep F c x):RL F (bD cs (j *Rp.sz α) c) (l.set j x):=by
 have O:=h.length;have hb:j *Rp.sz α+Rp.sz α<=cs.length:=by rw[O,←a1q];exact a0y _ E
 rw[splice_eq _ _ _ (by rw[Rp.len hc];exact hb),List.set_eq_take_append_cons_drop,if_pos E,Rp.len hc,a0a];refine(h.take j).append ?_;refine⟨c,_,rfl,hc,?_⟩;have:=h.drop (j+1);rw[a1q]at this;exact this
def Sl(F:Fz)(o:AObj)(off k:Nat)(l:List α):Prop:= ∃cs E O,o= .cells cs E O/\(O=false->off+k *Rp.sz α<=cs.length)/\l.length<=k/\RL F ((cs.drop off).take (l.length *Rp.sz α)) l/\(E=none\/E=some (Rp.sz α))
def Sv(F:Fz)(get:Nat->Option AObj)(v:Value)(l:List α):Prop:=
 (v= .slice none 0 0/\l=[])\/∃b off k o,v= .slice (some ⟨b,off,none⟩) l.length k/\get b=some o/\Sl F o off k l
def SR(F:Fz)(v:Value)(l:List α):Prop:=Sv F F v l
def OS(F:Fz)(v:Value)(l:List α)(p:Fp):Prop:=
 (v= .slice none 0 0/\l=[]/\p=[])\/∃b off k cs E,v= .slice (some ⟨b,off,none⟩) l.length k/\p=[(b,.cells cs E false)]/\Sl F (.cells cs E false) off k l
theorem Sl.mono(hF:F.le F'){o:AObj}{off k:Nat}{l:List α}(h:Sl F o off k l):Sl F' o off k l:=by obtain⟨cs,E,ro,O,T,U,Y,Z⟩:=h;exact⟨cs,E,ro,O,T,U,Y.mono hF,Z⟩
theorem SR.mono(E:F.le F'){v:Value}{l:List α}(h:SR F v l):SR F' v l:=by
 rcases h with h|⟨b,off,k,o,h1,h2,h3⟩
 ·exact .inl h
 exact .inr ⟨b,off,k,o,h1,E _ _ h2,h3.mono E⟩
theorem OS.mono(E:F.le F'){v:Value}{l:List α}{p:Fp}(h:OS F v l p):OS F' v l p:=by
 rcases h with h|⟨b,off,k,cs,opn,h1,h2,h3⟩
 ·exact .inl h
 exact .inr ⟨b,off,k,cs,opn,h1,h2,h3.mono E⟩
theorem SR.nil:SR F (.slice none 0 0) ([]:List α):= .inl ⟨rfl,rfl⟩
theorem OS.nil:OS F (.slice none 0 0) ([]:List α) []:= .inl ⟨rfl,rfl,rfl⟩
variable {B:Base} {H:Heap} {L R:List Fp} {v:Value} {l:List α} {p:Fp}
theorem SR.sv(h:SR F v l)(hs:HS B F H L R):Sv F H.get v l:=by
 rcases h with h|⟨b,off,k,o,h1,h2,h3⟩
 ·exact .inl h
 exact .inr ⟨b,off,k,o,h1,(hs.fz b o h2).1,h3⟩
theorem OS.sv(h:OS F v l p)(hs:HS B F H L R){i:Nat}(hi:L[i]?=some p):Sv F H.get v l:=by
 rcases h with⟨E,O,_⟩|⟨b,off,k,cs,U,E,O,T⟩
 ·exact .inl ⟨E,O⟩
 exact .inr ⟨b,off,k,_,E,hs.get hi (by rw[O];simp),T⟩
def sB:Value->Nat
 | .slice (some a) _ _=>a.block
 |_=>0
def sO:Value->Nat
 | .slice (some a) _ _=>a.off
 |_=>0
def HC(get:Nat->Option AObj)(b o:Nat)(cs:List Value):Prop:= ∃all E O,get b=some (.cells all E O)/\(all.drop o).take cs.length=cs
theorem Sv.at{get:Nat->Option AObj}(h:Sv F get v l){j:Nat}{x:α}(E:l[j]?=some x): ∃cs,Rp.rep F cs x/\HC get (sB v) (sO v+j *Rp.sz α) cs:=by
 rcases h with⟨_,rfl⟩|⟨b,off,k,o,rfl,U,cs,T,ro,rfl,h3,h4,Y,h6⟩
 ·simp at E
 have Z:=(a0u.1 E).1;have O:=Y.at E;refine⟨_,O,cs,T,ro,U,?_⟩;rw[Rp.len O];show(cs.drop (off+j *Rp.sz α)).take (Rp.sz α)=(((cs.drop off).take (l.length *Rp.sz α)).drop (j *Rp.sz α)).take (Rp.sz α);rw[a1z,a1t,a1u];congr 1;have:Rp.sz α<=l.length *Rp.sz α-j *Rp.sz α:=by have:=a0y (Rp.sz α) (show j+1<=l.length from Z);rw[a1q]at this;omega
 omega
theorem HC.get{get:Nat->Option AObj}{b o:Nat}{cs:List Value}(h:HC get b o cs){i:Nat}{v:Value}(E:cs[i]?=some v): ∃all O T,get b=some (.cells all O T)/\all[o+i]?=some v:=by
 obtain⟨all,O,T,U,Y⟩:=h;refine⟨all,O,T,U,?_⟩;rw[←Y,a0x]at E;split at E
 ·rw[a0H]at E;exact E
 cases E
theorem HC.part{get:Nat->Option AObj}{b o:Nat}{cs:List Value}(h:HC get b o cs){i n:Nat}(Z:i+n<=cs.length): ∃all E T,get b=some (.cells all E T)/\(all.drop (o+i)).take n=(cs.drop i).take n/\((cs.drop i).take n).length=n:=by
 obtain⟨all,E,T,U,Y⟩:=h;refine⟨all,E,T,U,?_,by rw[a0i,a0F];omega⟩;have O:(((all.drop o).take cs.length).drop i).take n=(cs.drop i).take n:=by rw[Y]
 rw[a1z,a1t,a1u]at O;rw[show min n (cs.length-i)=n by omega]at O;exact O
theorem HC.same{get:Nat->Option AObj}{b:Nat}{cs:List Value}{E:Option Nat}{O:Bool}(h:get b=some (.cells cs E O)):HC get b 0 cs:=⟨cs,E,O,h,by simp⟩
instance :Rp Int where
 sz:=1
 rep _ cs n:=cs=[.int .i64 n]/\in64 n
 len:=by rintro F cs x ⟨rfl,_⟩;rfl
 one:=by rintro F cs x ⟨rfl,_⟩;rfl
 mono:=by intro F F' cs x _ h;exact h
instance :Rp Bool where
 sz:=1
 rep _ cs n:=cs=[.bool n]
 len:=by rintro F cs x rfl;rfl
 one:=by rintro F cs x rfl;rfl
 mono:=by intro F F' cs x _ h;exact h
structure Str where
 b:List UInt8
 deriving DecidableEq,Inhabited
instance :Rp Str where
 sz:=1
 rep _ cs s:=cs=[.string ⟨⟨s.b⟩⟩]
 len:=by rintro F cs x rfl;rfl
 one:=by rintro F cs x rfl;rfl
 mono:=by intro F F' cs x _ h;exact h
structure U64 where
 n:Int
 deriving DecidableEq,Inhabited
instance :Rp U64 where
 sz:=1
 rep _ cs s:=cs=[.int .u64 s.n]/\0<=s.n/\s.n<18446744073709551616
 len:=by rintro F cs x ⟨rfl,_⟩;rfl
 one:=by rintro F cs x ⟨rfl,_⟩;rfl
 mono:=by intro F F' cs x _ h;exact h
instance :Rp UInt8 where
 sz:=1
 rep _ cs s:=cs=[.int .u8 s.toNat]
 len:=by rintro F cs x rfl;rfl
 one:=by rintro F cs x rfl;rfl
 mono:=by intro F F' cs x _ h;exact h
theorem Sv.shape{get:Nat->Option AObj}{v:Value}{l:List α}(h:Sv F get v l): ∃a k,v= .slice a l.length k:=by
 rcases h with⟨rfl,rfl⟩|⟨b,off,k,o,rfl,_⟩
 ·exact⟨none,0,rfl⟩
 exact⟨_,k,rfl⟩
theorem OS.shape{v:Value}{l:List α}{p:Fp}(h:OS F v l p): ∃a k,v= .slice a l.length k:=by
 rcases h with⟨rfl,rfl,_⟩|⟨b,off,k,cs,E,rfl,_⟩
 ·exact⟨none,0,rfl⟩
 exact⟨_,k,rfl⟩
instance :Rp (List α) where
 sz:=1
 rep F cs l:= ∃a k,cs=[.slice a l.length k]/\SR F (.slice a l.length k) l
 len:=by rintro F cs x ⟨a,k,rfl,_⟩;rfl
 one:=by rintro F cs x ⟨a,k,rfl,h⟩;rfl
 mono:=by rintro F F' cs x hF ⟨a,k,rfl,h⟩;exact⟨a,k,rfl,h.mono hF⟩
end
end Go.R
end
noncomputable section
namespace Go.R
section
variable {α:Type} [Rp α] {P:Program} {ρ:Operand->Value} {d:Option Tmp} {ty:TypeId} {pos:String} {af:Array Edge} {gd:Option (Nat×Bool)} {B:Base} {F:Fz} {H:Heap} {L R:List Fp} {v:Value} {l:List α} {p:Fp}
theorem iN{x:Operand}{t e:TypeId}(T:ρ x=v)(E:P.underlying t=some (.slice e))(h:Sv F H.get v l):
  AP P ρ ⟨d,.call ⟨.builtin .len, #[x], #[t]⟩,ty,pos,af,gd⟩ H (.val (.int .i64 l.length),H):=by
 refine⟨?_⟩
 obtain⟨a,k,O⟩:=h.shape
 show ovl (aLen P t (ρ x) H) H=_
 rw[T,O]
 unfold aLen
 rw[E];rfl
theorem fD{x:Operand}{t:TypeId}{s:List UInt8}(O:ρ x= .string ⟨⟨s⟩⟩)(E:P.underlying t=some .string):
  AP P ρ ⟨d,.call ⟨.builtin .len, #[x], #[t]⟩,ty,pos,af,gd⟩ H (.val (.int .i64 s.length),H):=by
 refine⟨?_⟩
 show ovl (aLen P t (ρ x) H) H=_
 rw[O]
 unfold aLen
 rw[E]
 show ovl (some (goInt (jT s))) H=_
 rw[bI];rfl
theorem ew{x i:Operand}{t e:TypeId}{ki:IntKind}{j:Int}(Y:ρ x=v)(hi:ρ i= .int ki j)(U:P.underlying t=some (.slice e))(Z:eb P e=some (Rp.sz α))(h:Sv F H.get v l)(O:0<=j:=by first|(dsimp only;omega)|omega)(E:j<l.length:=by first|(dsimp only;omega)|omega):
  AP P ρ ⟨d,.indexAddr t x i,ty,pos,af,gd⟩ H (.val (.pointer (some ⟨sB v,sO v+j.toNat *Rp.sz α,none⟩)),H):=by
 rcases h with⟨_,rfl⟩|⟨b,off,k,o,rfl,h2,cs,ar,ro,rfl,h3,T,h5,h6⟩
 ·simp at E;omega
 exact j4 Y hi U Z O E T
theorem cp{t:TypeId}{x:Operand}{b o E i:Nat}{cs:List Value}{w:Value}(Z:ρ x= .pointer (some ⟨b,E,none⟩))(ha:fS P t=some false)(hc:HC H.get b o cs)(U:E=o+i)(Y:cs[i]?=some w):
  AP P ρ ⟨d,.load t x,ty,pos,af,gd⟩ H (.val w,H):=by
 subst U
 obtain⟨all,an,ro,O,T⟩:=hc.get Y
 exact ap_load1 Z ha O T
theorem bL{t:TypeId}{x:Operand}{b o O i n:Nat}{cs l:List Value}(hx:ρ x= .pointer (some ⟨b,O,none⟩))(ha:fS P t=some true)(hs:eb P t=some n)(hc:HC H.get b o cs)(ho:O=o+i)(Z:Nat.ble (i+n) cs.length=true)(E:hU (hZ cs i) n=l):
  AP P ρ ⟨d,.load t x,ty,pos,af,gd⟩ H (.val (.agg ⟨l⟩),H):=by
 subst ho
 obtain⟨all,ax,ro,T,U,Y⟩:=hc.part (a0e Z)
 rw[bY,cy]at E
 exact ap_loadN hx ha hs T (U.trans E) (by rw[←E];exact Y)
theorem dx{s:TypeId}{x:Operand}{f b o E:Nat}(O:ρ x= .pointer (some ⟨b,o,none⟩))(h:jm P s (.pointer (some ⟨b,o,none⟩)) f=some (.pointer (some ⟨b,E,none⟩))):
  AP P ρ ⟨d,.fieldAddr s x f,ty,pos,af,gd⟩ H (.val (.pointer (some ⟨b,E,none⟩)),H):=by
 refine⟨?_⟩
 show ovl (jm P s (ρ x) f) H=_
 rw[O,h];rfl
theorem ap_fv{t:TypeId}{x:Operand}{f:Nat}{u w:Value}(E:ρ x=u)(h:iP P t u f=some w):AP P ρ ⟨d,.field t x f,ty,pos,af,gd⟩ H (.val w,H):=by refine⟨?_⟩;show ovl (iP P t (ρ x) f) H=_;rw[E,h];rfl
theorem ap_ex{x:Operand}{i:Nat}{u w:Value}(E:ρ x=u)(h:hT u i=some w):AP P ρ ⟨d,.extract x i,ty,pos,af,gd⟩ H (.val w,H):=by refine⟨?_⟩;show ovl (hT (ρ x) i) H=_;rw[E,h];rfl
theorem ji{t:TypeId}{E:Array (Nat×Operand)}{ps:Array (Nat×Value)}{z:List Value}{w:Value}(O:E.map (fun p=>(p.1,ρ p.2))=ps)(T:ey P t=some z)(h:aC P (Instr.build t ps)=some w):
  AP P ρ ⟨d,.build t E,ty,pos,af,gd⟩ H (.val w,H):=by
 refine⟨?_⟩
 show iB P t (E.map fun p=>(p.1,ρ p.2)) H=_
 rw[O]
 unfold iB
 rw[T]
 show lift P (Instr.build t ps) H=_
 unfold lift
 rw[h]
theorem ap_alloc{e:TypeId}{z:List Value}(E:ey P e=some z):AP P ρ ⟨d,.alloc e,ty,pos,af,gd⟩ H (.val (.pointer (some ⟨H.next,0,none⟩)),H.push (.cells z none false)):=by refine⟨?_⟩;show eT P e H=_;unfold eT;rw[E];rfl
theorem ap_box{e:TypeId}{x:Operand}{cs:List Value}(E:(ρ x).cells.toList=cs):AP P ρ ⟨d,.box e x,ty,pos,af,gd⟩ H (.val (.pointer (some ⟨H.next,0,none⟩)),H.push (.cells cs none false)):=by subst E;exact⟨rfl⟩
theorem kO{b o:Nat}{cs vs:List Value}{E:Option Nat}(T:H.get b=some (.cells cs E false))(U:o+vs.length<=cs.length)(O:allL Value.oneCell' vs=true):H.storeL ⟨b,o,none⟩ vs=some (H.put b (.cells (bD cs o vs) E false)):=by unfold Heap.storeL;have:Nat.ble (Nat.add o (jT vs)) (jT cs)=true:=a0t (by rw[bI,bI];exact U);simp only[T,this,O,a1k,cond_true]
theorem ap_st{t:TypeId}{a x:Operand}{b o n:Nat}{u:Value}{E:List Value}{H1:Heap}(ha:ρ a= .pointer (some ⟨b,o,none⟩))(Y:ρ x=u)(U:eb P t=some n)(hc:u.cells.toList=E)(T:Nat.beq E.length n=true)(O:H.storeL ⟨b,o,none⟩ E=some H1):
  AP P ρ ⟨d,.store t a x,ty,pos,af,gd⟩ H (.skip,H1):=by
 refine⟨?_⟩
 show iA P t (ρ a) (ρ x) H=_
 rw[ha,Y]
 unfold iA
 have:u.cells.size=E.length:=by rw[←hc];simp
 rw[this,U]
 simp only[T,cond_true,hc,O]
 rfl
theorem HS.st(hs:HS B F H L R){i b o:Nat}{cs E O:List Value}(hi:L[i]?=some [(b,.cells cs none false)])(Y:Nat.ble (o+E.length) cs.length=true)(T:allL Value.oneCell' E=true)(U:bD cs o E=O):
  ∃H1,H.storeL ⟨b,o,none⟩ E=some H1/\HS B F H1 (L.set i [(b,.cells O none false)]) R:=by
 subst U
 exact⟨_,kO (hs.get hi (a0R.2 rfl)) (a0e Y) T,hs.put hi⟩
theorem HS.hc(hs:HS B F H L R){i b:Nat}{cs:List Value}(hi:L[i]?=some [(b,.cells cs none false)]):HC H.get b 0 cs:=HC.same (hs.get hi (a0R.2 rfl))
theorem os_set(h:OS F v l p)(hs:HS B F H L R){i j:Nat}(hi:L[i]?=some p){x x':α}{off:Nat}{E:List Value}(hx:l[j]?=some x)(h1:allL Value.oneCell' E=true)
  (hr: ∀cs,Rp.rep F cs x->off+E.length<=cs.length/\Rp.rep F (bD cs off E) x'):
  ∃H1 p',H.storeL ⟨sB v,sO v+j *Rp.sz α+off,none⟩ E=some H1/\OS F v (l.set j x') p'/\HS B F H1 (L.set i p') R/\∀b cs O,p=[(b,.cells cs O false)]->∃Z,p'=[(b,.cells Z O false)]:=by
 have hj:=(a0u.1 hx).1
 rcases h with⟨_,rfl,_⟩|⟨b,o,k,cs,O,rfl,rfl,b6,b5,b8,Y,h3,h4,h5,h6⟩
 ·simp at hj
 injection Y with e1 e2 e3
 subst e1 e2 e3
 replace h3:=h3 rfl
 have an:=h5.at hx
 have a2:=h5.length
 have a7:j *Rp.sz α+Rp.sz α<=l.length *Rp.sz α:=by rw[←a1q];exact a0y _ hj
 have b7:l.length *Rp.sz α<=k *Rp.sz α:=a0y _ h4
 obtain⟨T,g2⟩:=hr _ an
 have U:=Rp.len an
 have hb:o+j *Rp.sz α+off+E.length<=cs.length:=by rw[U]at T;omega
 refine⟨_,_,kO (b:=b) (o:=o+j *Rp.sz α+off) (hs.get hi (a0R.2 rfl)) hb h1,.inr ⟨b,o,k,_,O,by rw[a1o],rfl,_,_,_,rfl,?_,by rw[a1o];exact h4,?_,h6⟩,hs.put hi,?_⟩
 ·intro _;rw[cr _ _ _ hb];exact h3
 rotate_left
 ·intro b' Z b4 Y;simp only[List.cons.injEq,a06,AObj.cells.injEq,and_true]at Y;obtain⟨rfl,rfl,rfl⟩:=Y;exact⟨_,rfl⟩
 rw[a1o]
 have key:((bD cs (o+j *Rp.sz α+off) E).drop o).take (l.length *Rp.sz α)=bD ((cs.drop o).take (l.length *Rp.sz α)) (j *Rp.sz α) (bD ((((cs.drop o).take (l.length *Rp.sz α)).drop (j *Rp.sz α)).take (Rp.sz α)) off E):=by
  have hA:(bD ((((cs.drop o).take (l.length *Rp.sz α)).drop (j *Rp.sz α)).take (Rp.sz α)) off E).length=Rp.sz α:=by rw[cr _ _ _ T,U]
  have hB:((cs.drop o).take (l.length *Rp.sz α)).length=l.length *Rp.sz α:=a2;apply a1D;intro q;rw[bC _ _ _ _ (by rw[hA,hB];exact a7),a0x,a0H,bC _ _ _ _ hb,hA];rw[U]at T;by_cases c1:q<l.length *Rp.sz α
  ·rw[if_pos c1];by_cases c2:o+j *Rp.sz α+off<=o+q/\o+q<o+j *Rp.sz α+off+E.length
   ·rw[if_pos c2,if_pos (by omega),bC _ _ _ _ (by rw[U];exact T),if_pos (by omega)];congr 1;omega
   rw[if_neg c2];by_cases c3:j *Rp.sz α<=q/\q<j *Rp.sz α+Rp.sz α
   ·rw[if_pos c3,bC _ _ _ _ (by rw[U];exact T),if_neg (by omega),a0x,if_pos (by omega),a0H,a0x,if_pos (by omega),a0H];congr 1;omega
   rw[if_neg c3,a0x,if_pos c1,a0H]
  rw[if_neg c1,if_neg (by omega),a0x,if_neg c1]
 rw[key]
 exact h5.set hj g2
theorem Sv.first{x:Value}{E:List α}(h:Sv F H.get x E):lenA x=some E.length/\∃O,gJ H (Rp.sz α) E.length x=some O/\RL F O E:=by
 rcases h with⟨rfl,rfl⟩|⟨b,off,k,o,rfl,U,cs,Z,ro,rfl,h3,h4,T,h6⟩
 ·exact⟨rfl,[],rfl,rfl⟩
 refine⟨rfl,?_⟩;unfold gJ;cases hb:Nat.beq E.length 0 with
 |true=>
  have:=a08 hb
  have e:E=[]:=a0g this
  subst e
  exact⟨[],rfl,rfl⟩
 |false=>
  refine⟨_,?_,T⟩
  simp only[cond_false]
  unfold Heap.loadN
  have Y:=T.length
  simp only[U,bY,cy,bI,Y,a0N,cond_true]
theorem os_append(h:OS F v l p)(hs:HS B F H L R){i:Nat}(hi:L[i]?=some p){x:Value}{E:List α}{O z:List Value}{types:Array TypeId}{st xt e:TypeId}{xd:TypeDesc}{b0:Nat}
  (h0:types[0]?=some st) (h1:types[1]?=some xt) (c3:P.underlying st=some (.slice e)) (c6:P.underlying xt=some xd) (c4: ∀k,xd≠ .int k) (hz:eb P e=some (Rp.sz α)) (cl:iL P e=some b0) (c7:ey P e=some z)
  (b3:Nat.beq (jT z) (Rp.sz α)=true) (b1:Nat.ble b0 4096=true) (ar:Nat.beq (Rp.sz α) 0=false) (c5:lenA x=some E.length) (hf:gJ H (Rp.sz α) E.length x=some O) (T:RL F O E) (a5:l.length+E.length<=2147483648):
  ∃a k H1 p',gj P types v x H=some (.slice a (l++E).length k,H1)/\OS F (.slice a (l++E).length k) (l++E) p'/\HS B F H1 (L.set i p') R:=by
 have an:L.set i p=L:=by obtain⟨A,C,e1,e2⟩:=i8 L i p hi;rw[e2 p,←e1]
 have a6:=T.one
 have U:=T.length
 have dd:0<Rp.sz α:=by
  rcases a1c (Rp.sz α) with hq|hq
  ·rw[hq]at ar;cases ar
  exact hq
 have d1: ∀(Y:Option (Value×Heap)),(match xd with| .int _=>none|_=>Y)=Y:=by intro Y;cases xd<;>first|rfl|exact absurd rfl (c4 _)
 unfold gj
 simp only[h0,h1,c3,c6,hz,cl,c7,c5,hf]
 rcases h with⟨rfl,rfl,rfl⟩|⟨b,o,k,cs,ax,rfl,rfl,d4,d3,d5,he,h3,h4,h5,h6⟩
 ·cases hm:Nat.beq E.length 0 with
  |true=>
   have:E=[]:=a0g (a08 hm)
   subst this
   exact⟨none,0,H,[],rfl,.nil,by rw[an];exact hs⟩
  |false=>
   have a4:Nat.ble E.length 2147483648=true:=a0t (by simp at a5;omega)
   simp only[cond_false,b3,a4,b1,ar,a1I,a1k,cond_true]
   refine⟨_,_,_,[(H.next,.cells O (some (Rp.sz α)) false)],rfl,.inr ⟨_,0,_,_,_,rfl,rfl,_,_,_,rfl,?_,by simp,?_,.inr rfl⟩,?_⟩
   ·intro _;show 0+E.length *Rp.sz α<=O.length;rw[U];omega
   ·rw[a0W,a0z,←U,a1j];exact T
   refine hs.turn hi (H':=aS H O (some (Rp.sz α))) (by simp[aS]) (fun b hb _=>Heap.get_push_ne _ _ (by omega)) (fun b o hb=>?_) (by simp) (fun b hb=> .inl (by simpa[aS] using hb))
   simp at hb;obtain⟨rfl,rfl⟩:=hb
   exact⟨Heap.get_push_same _ _,by simp[aS],.inl (a07 _)⟩
 injection he with e1 e2 e3
 subst e1 e2 e3
 replace h3:=h3 rfl
 have hg:=hs.get hi (b:=b) (o:= .cells cs ax false) (by simp)
 simp only[hg]
 cases hk:Nat.ble (l.length+E.length) k with
 |true=>
  have b2:=a0e hk
  simp only[cond_true]
  cases hm:Nat.beq E.length 0 with
  |true=>
   have:E=[]:=a0g (a08 hm)
   subst this
   simp only[cond_true,a0o]
   exact⟨_,_,_,_,rfl,.inr ⟨b,o,k,cs,ax,rfl,rfl,_,_,_,rfl,fun _=>h3,h4,h5,h6⟩,by rw[an];exact hs⟩
  |false=>
   simp only[cond_false]
   have co:(l.length+E.length) *Rp.sz α<=k *Rp.sz α:=a0y _ b2
   have hb:o+l.length *Rp.sz α+O.length<=cs.length:=by rw[U];rw[a0P]at co;omega
   rw[kO hg hb a6]
   simp only
   refine⟨some ⟨b,o,none⟩,k,_,[(b,.cells (bD cs (o+l.length *Rp.sz α) O) ax false)],by rw[a00],.inr ⟨b,o,k,_,ax,rfl,rfl,_,_,_,rfl,?_,by rw[a00];exact b2,?_,h6⟩,hs.put hi⟩
   ·intro _;rw[cr _ _ _ hb];exact h3
   have key:((bD cs (o+l.length *Rp.sz α) O).drop o).take ((l++E).length *Rp.sz α)=(cs.drop o).take (l.length *Rp.sz α)++O:=by
    have cv:=h5.length;apply a1D;intro q;rw[a0x,a0H,bC _ _ _ _ hb,a00,a0P,List.getElem?_append,cv];by_cases c1:q<l.length *Rp.sz α
    ·rw[if_pos (by omega),if_neg (by omega),if_pos c1,a0x,if_pos c1,a0H]
    rw[if_neg c1];by_cases c2:q<l.length *Rp.sz α+E.length *Rp.sz α
    ·rw[if_pos c2,if_pos (by rw[U];omega)];congr 1;omega
    rw[if_neg c2,a0Z (by rw[U];omega)]
   rw[key]
   exact h5.append T
 |false=>
  simp only[cond_false]
  have a4:Nat.ble (l.length+E.length) 2147483648=true:=a0t a5
  have c0:Nat.ble l.length k=true:=a0t h4
  simp only[b3,a4,b1,ar,c0,a1I,a1k,cond_true]
  have b9:gJ H (Rp.sz α) l.length (.slice (some ⟨b,o,none⟩) l.length k)=some ((cs.drop o).take (l.length *Rp.sz α)):=by
   unfold gJ;cases hb:Nat.beq l.length 0 with
   |true=>
    have:=a08 hb
    simp[this]
   |false=>
    simp only[cond_false]
    unfold Heap.loadN
    have hl:=h5.length
    simp only[hg,bY,cy,bI,hl,a0N,cond_true]
  rw[b9]
  simp only[dY]
  have a2:=h5.append T
  have Z:=a2.length
  have a3: ∀(k':Nat) (bb:Nat),k'=(l++E).length->OS F (.slice (some ⟨bb,0,none⟩) (l++E).length k') (l++E) [(bb,.cells ((cs.drop o).take (l.length *Rp.sz α)++O) (some (Rp.sz α)) false)]:=by rintro k' bb rfl;refine .inr ⟨bb,0,_,_,_,rfl,rfl,_,_,_,rfl,fun _=>(by rw[Z];omega),a07 _,?_,.inr rfl⟩;rw[a0W,←Z,a1j];exact a2
  rcases h6 with rfl|rfl
  ·simp only;refine⟨some ⟨H.next,0,none⟩,l.length+E.length,_,_,by rw[a00],a3 _ _ (by rw[a00]),?_⟩;refine hs.turn hi (by simp[aS]) (fun b hb _=>Heap.get_push_ne _ _ (by omega)) (fun b o hb=>?_) (by simp) (fun b hb=> .inl (by simpa[aS] using hb));simp at hb;obtain⟨rfl,rfl⟩:=hb;exact⟨Heap.get_push_same _ _,by simp[aS],.inl (a07 _)⟩
  simp only[a0N,a1k,a6,cond_true]
  refine⟨some ⟨H.next,0,none⟩,l.length+E.length,_,_,by rw[a00],a3 _ _ (by rw[a00]),?_⟩
  refine hs.turn hi (by simp[aS]) (fun c hb cL=>?_) (fun c o hb=>?_) (by simp) (fun c hb=>?_)
  ·show((H.put b .dead).push _).get c=_;rw[Heap.get_push_ne _ _ (by simp;omega),Heap.get_put_ne _ _ fun e=>cL (.cells cs (some (Rp.sz α)) false) (by simp[e])]
  ·simp at hb;obtain⟨rfl,rfl⟩:=hb;exact⟨Heap.get_push_same (H.put b .dead) _,by simp[aS],.inl (a07 _)⟩
  simp only[aS,Heap.log_push,Heap.log_put]at hb
  rcases a0m.1 hb with rfl|hb
  ·exact .inr (.inr ⟨.cells cs (some (Rp.sz α)) false,by simp⟩)
  exact .inl hb
end
end Go.R
end
noncomputable section
set_option linter.unusedVariables false
namespace Go.R
section
variable {P:Program} {G:Nat} {cf:cF} {ops:Array Oper}
theorem kv{s E:St}{d:Option Tmp}{v:Value}(h:s.put d v=some E):E.size=s.size:=by
 unfold St.put at h;cases d with
 |none=>simp only[a01]at h;rw[←h]
 |some d=>
  cases hb:Nat.ble (d+1) s.size with
  |true=>simp only[hb,cond_true,a01]at h;rw[←h]
  |false=>simp only[hb,cond_false]at h;cases h
theorem step_size{o:Oper}{s T:St}(h:step P G cf ops o s=some T):T.size=s.size:=by
 unfold step at h;cases O:bl ops o s.tmps with
 |false=>simp only[O,cond_false]at h;exact kv h
 |true=>
  simp only[O,cond_true]at h
  cases E:o.op.operands.toList.all (br G) with
  |false=>rw[E]at h;cases h
  |true=>
   rw[E]at h
   simp only[cond_true]at h
   split at h
   ·have:=kv h;exact this
   ·have:=kv h;exact this
   ·split at h
    ·have:=kv h;exact this
    cases h
   cases h
theorem kT: ∀(l:List Oper) (s E:St),gk P G cf ops l s=some E->E.size=s.size
 | [],_,_,h=>by rw[jv]at h;simp only[a01]at h;rw[←h]
 |o::l,s,E,h=>by
  rw[bS]at h;split at h
  ·rename_i t O;rw[kT l _ _ h,step_size O]
  cases h
theorem jP: ∀(l:List Oper) (i:Nat) (fs:List (Nat×Inf)) (s s':St),bp P G cf ops i fs l s=some s'->s'.size=s.size
 | [],_,_,_,_,h=>by unfold bp at h;simp only[a01]at h;rw[←h]
 |o::l,i,fs,s,s',h=>by
  unfold bp at h;split at h
  ·rename_i t f E;cases O:cj (cC ops) i f fs with
   |false=>rw[O]at h;cases h
   |true=>
    rw[O]at h
    rw[jP l _ _ _ _ h]
    unfold im at E
    split at E
    ·rename_i U T;simp only[a01,a06]at E;rw[←E.1];have:=step_size T;exact this
    cases E
  cases h
theorem region_size{E:Bool}{s T:St}(h:bO P G cf ops E s=some T):T.size=s.size:=by
 unfold bO at h;cases E with
 |false=>exact kT _ _ _ h
 |true=>
  simp only[cond_true]at h
  cases O:kU ops&&P.follows .mixedOrders with
  |false=>rw[O]at h;cases h
  |true=>rw[O]at h;exact jP _ _ _ _ _ h
def SizeOK(ex:Code->St->Option (Ex×St)):Prop:= ∀c s e E,ex c s=some (e,E)->E.size=s.size
theorem execC_size{ex:Code->St->Option (Ex×St)}(ar:SizeOK ex):SizeOK (eZ P G ex cf):=by
 intro c;have Z: ∀{r:Option (Ex×St)} {k:St->Option (Ex×St)} {n:Nat} {e:Ex} {E:St},(∀e s,r=some (e,s)->s.size=n)->(∀s e E,s.size=n->k s=some (e,E)->E.size=n)->gM r k=some (e,E)->E.size=n:=by
  intro r k n e E hr hk h;cases T:r with
  |none=>rw[T]at h;cases h
  |some y=>
   obtain⟨Y,U⟩:=y
   have O:=hr Y U T
   rw[T]at h
   cases Y with
   |normal=>exact hk U e E O h
   |exit i=>simp only[gM,a01,a06]at h;rw[←h.2];exact O
   |ret=>simp only[gM,a01,a06]at h;rw[←h.2];exact O
 induction c with
 |skip=>intro s e E h;rw[me]at h;simp only[a01,a06]at h;rw[←h.2]
 |region id ops draw=>
  intro s e E h
  rw[gL]at h
  cases T:bO P G cf ops draw s with
  |none=>rw[T]at h;cases h
  |some t=>
   rw[T]at h
   simp only[ed,a01,a06]at h
   rw[←h.2];exact region_size T
 |seq a b iha ihb=>
  intro s e E h
  rw[ln]at h
  exact Z (fun e U O=>iha s e U O) (fun U e E O h2=>(ihb U e E h2).trans O) h
 |cond c t e iht ihe=>
  intro s e E h
  rw[jA]at h
  cases T:br G c with
  |false=>rw[T]at h;cases h
  |true=>
   rw[T]at h
   simp only[cond_true]at h
   unfold mi at h
   split at h
   ·rename_i b hb;cases b with
    |true=>exact iht s _ E h
    |false=>exact ihe s _ E h
   cases h
 |block id b ih=>
  intro s e E h
  rw[iH]at h
  cases T:eZ P G ex cf b s with
  |none=>rw[T]at h;cases h
  |some y=>
   obtain⟨Y,U⟩:=y
   have O:=ih s Y U T
   rw[T]at h
   cases Y with
   |normal=>simp only[di,a01,a06]at h;rw[←h.2];exact O
   |exit i=>
    unfold di at h
    cases hb:Nat.beq i id with
    |true=>simp only[hb,cond_true,a01,a06]at h;rw[←h.2];exact O
    |false=>simp only[hb,cond_false,a01,a06]at h;rw[←h.2];exact O
   |ret=>simp only[di,a01,a06]at h;rw[←h.2];exact O
 |loop b ih=>
  intro s e E h
  rw[jz]at h
  exact Z (fun e U O=>ih s e U O) (fun U e E O h2=>(ar _ U e E h2).trans O) h
 |exit id=>intro s e E h;rw[mf]at h;simp only[a01,a06]at h;rw[←h.2]
 |ret=>intro s e E h;rw[execC_ret]at h;simp only[a01,a06]at h;rw[←h.2]
 |_=>intro s e E h;cases h
theorem exec_size{K:bB}: ∀n,SizeOK (mh P G K n)
 |0=>fun c s e E h=>by cases h
 |n+1=>fun c=>execC_size (exec_size n) c
end
section
variable {P:Program} {G:Nat} {K:bB} {sz:Nat} {Q Q1:Ex->Fn->Heap->Prop} {c:Code} {k:List Fr} {f:Fn} {H:Heap}
theorem wk_cut(h1:WK P G K sz c [] f H Q1)(h2: ∀f' H',Q1 .normal f' H'->WK P G K sz .skip k f' H' Q)(h3: ∀i f' H',Q1 (.exit i) f' H'->WK P G K sz (.exit i) k f' H' Q)(h4: ∀f' H',Q1 .ret f' H'->Q .ret f' H'):
  WK P G K sz c k f H Q:=⟨fun t ht=>by
 obtain⟨E,e,s1,hx,hq⟩:=h1.out t ht
 have U:mh P G K (E+1) c ⟨t,sz,H⟩=some (e,s1):=hx
 have a3:=exec_size _ _ _ _ _ U
 obtain⟨Y,O,H1⟩:=s1
 have a1:O=sz:=a3
 subst a1
 cases e with
 |ret=>exact⟨E,.ret,_,by rw[U];exact kr k,h4 _ _ hq⟩
 |normal=>
  obtain⟨T,e,s',h5,h6⟩:=(h2 _ _ hq).out Y rfl
  refine⟨Nat.max E T,e,s',?_,h6⟩
  refine ef (a1i (a0J E T)) k _ _ (fun x Z=>?_) _ h5
  have:x=(.normal,⟨Y,O,H1⟩):=by have:some (Ex.normal,(⟨Y,O,H1⟩:St))=some x:=Z;exact(Option.some.inj this).symm
  subst this
  exact jb (a1i (a1b E T)) _ _ _ U
 |exit i=>
  obtain⟨T,e,s',h5,h6⟩:=(h3 i _ _ hq).out Y rfl
  refine⟨Nat.max E T,e,s',?_,h6⟩
  refine ef (a1i (a0J E T)) k _ _ (fun x Z=>?_) _ h5
  have:x=(.exit i,⟨Y,O,H1⟩):=by have:some (Ex.exit i,(⟨Y,O,H1⟩:St))=some x:=Z;exact(Option.some.inj this).symm
  subst this
  exact jb (a1i (a1b E T)) _ _ _ U⟩
def inR(lo hi:Nat)(ex:List Nat)(j:Nat):Bool:=(Nat.ble lo j&&Nat.ble j hi)||memB j ex
def hav(lo hi:Nat)(ex:List Nat)(g f:Fn):Fn:=fun j=>bif inR lo hi ex j then g j else f j
structure Leaves(lo hi:Nat)(ex:List Nat)(f f':Fn):Prop where
 out: ∀j,inR lo hi ex j=false->f' j=f j
theorem Leaves.refl{lo hi:Nat}{ex:List Nat}{f:Fn}:Leaves lo hi ex f f:=⟨fun _ _=>rfl⟩
theorem Leaves.upd{lo hi:Nat}{ex:List Nat}{f f':Fn}{i:Nat}{v:Value}(O:inR lo hi ex i=true)(h:Leaves lo hi ex f f'):Leaves lo hi ex f (upd f' i v):=⟨fun j E=>by
 unfold Go.R.upd;cases hb:Nat.beq i j with
 |true=>have:=a08 hb;subst this;rw[O]at E;cases E
 |false=>exact h.out j E⟩
theorem Leaves.eq{lo hi:Nat}{ex:List Nat}{f f':Fn}(h:Leaves lo hi ex f f'):f'=hav lo hi ex f' f:=by
 funext j;unfold hav;cases hb:inR lo hi ex j with
 |true=>rfl
 |false=>exact h.out j hb
theorem dV{id:Nat}{ops:Array Oper}{E:Bool}(lo hi:Nat)(ex:List Nat)(l:List (Nat×Value))(O:Heap->Prop)
  (T:WK P G K sz (.region id ops E) [] f H fun e f' H'=>e= .normal/\O H'/\Leaves lo hi ex f f'/\aX f' l)
  (U: ∀g H',O H'->WK P G K sz .skip k (lG (hav lo hi ex g f) l) H' Q):WK P G K sz (.region id ops E) k f H Q:=by
 refine wk_cut T ?_ ?_ ?_
 ·rintro f' H' ⟨_,hH,hl,ha⟩;have:=U f' H' hH;rw[←hl.eq,iW ha]at this;exact this
 ·rintro i f' H' ⟨h,_⟩;cases h
 rintro f' H' ⟨h,_⟩;cases h
end
inductive ID where
 |v
 |a
 |r
 |l (b:Nat)
 |x (W:List Nat)
 |q (S:Nat->Prop)
 |n (B:Nat)
def ID.fits:ID->Inf->Prop
 | .v,g=>g= .v
 | .a,g=> ∃b,g= .a b
 | .r,g=>gO g=true
 | .l b,g=>g= .l b
 | .x W,g=> ∃w,g= .x w/\∀b,b∈w->b∈W
 | .q S,g=>g= .v\/∃b,g= .l b/\S b
 | .n B,g=> ∃b,g= .a b/\B<=b
def ID.nilW:List Nat->Prop
 | []=>True
 |_=>False
def cD:ID->ID->Prop
 | .v,_=>True
 |_,.v=>True
 | .q S,.x W=> ∀b,b∈W->¬S b
 | .x W,.q S=> ∀b,b∈W->¬S b
 | .l b,.x W=>b∉W
 | .x W,.l b=>b∉W
 | .x W,.x U=>ID.nilW W/\ID.nilW U
 | .n B,.x W=> ∀b,b∈W->b<B
 | .x _,.n _=>True
 | .a,.x W=>ID.nilW W
 | .r,.x W=>ID.nilW W
 | .x _,.a=>True
 | .x W,.r=>ID.nilW W
 |_,_=>True
theorem eQ{b:Nat}: ∀{l:List Nat},b∉l->memB b l=false
 | [],_=>rfl
 |c::l,h=>by
  simp only[a0m,not_or]at h;unfold memB;have:Nat.beq b c=false:=by
   cases hb:Nat.beq b c with
   |false=>rfl
   |true=>exact absurd (a08 hb) h.1
  rw[this,eQ h.2];rfl
theorem bG: ∀{d:ID} {g:Inf},d.fits g->(∀W,d≠ .x W)->gO g=true
 | .v,_,h,_=>by subst h;rfl
 | .a,_,⟨_,h⟩,_=>by subst h;rfl
 | .r,_,h,_=>h
 | .l _,_,h,_=>by subst h;rfl
 | .x W,_,_,h=>absurd rfl (h W)
 | .q _,_,h,_=>by rcases h with rfl|⟨_,rfl,_⟩<;>rfl
 | .n _,_,h,_=>by obtain⟨_,rfl,_⟩:=h;rfl
theorem eW{W:List Nat}{g:Inf}(h:ID.nilW W)(E:ID.fits (.x W) g):gO g=true:=by
 obtain⟨w,rfl,O⟩:=E;cases W with
 |nil=>
  cases w with
  |nil=>rfl
  |cons a t=>have:=O a (by simp);simp at this
 |cons _ _=>exact absurd h id
theorem compat_of{d e:ID}{f g:Inf}(hd:d.fits f)(E:e.fits g)(h:cD d e):eE f g=true:=by
 have key:gO f=true->gO g=true->eE f g=true:=nk;cases d with
 |v=>rw[show f= .v from hd];rfl
 |a=>
  cases e with
  |x W=>exact key (bG hd (by intro W h;cases h)) (eW h E)
  |v=>rw[show g= .v from E];cases f<;>rfl
  |_=>exact key (bG hd (by intro W h;cases h)) (bG E (by intro W h;cases h))
 |r=>
  cases e with
  |x W=>exact key (bG hd (by intro W h;cases h)) (eW h E)
  |v=>rw[show g= .v from E];cases f<;>rfl
  |_=>exact key (bG hd (by intro W h;cases h)) (bG E (by intro W h;cases h))
 |l b=>
  cases e with
  |x W=>
   obtain⟨w,rfl,O⟩:=E
   rw[show f= .l b from hd]
   show(!memB b w)=true
   rw[eQ fun hb=>h (O b hb)];rfl
  |v=>rw[show g= .v from E];cases f<;>rfl
  |_=>exact key (bG hd (by intro W h;cases h)) (bG E (by intro W h;cases h))
 |x W=>
  cases e with
  |v=>rw[show g= .v from E];cases f<;>rfl
  |a=>obtain⟨b,rfl⟩:=E;obtain⟨w,rfl,_⟩:=hd;rfl
  |n B=>obtain⟨b,rfl,_⟩:=E;obtain⟨w,rfl,_⟩:=hd;rfl
  |r=>exact key (eW h hd) E
  |q S=>
   obtain⟨w,rfl,O⟩:=hd
   rcases E with rfl|⟨b,rfl,hb⟩
   ·rfl
   show(!memB b w)=true
   rw[eQ fun T=>h b (O b T) hb];rfl
  |l b=>
   obtain⟨w,rfl,O⟩:=hd
   rw[show g= .l b from E]
   show(!memB b w)=true
   rw[eQ fun hb=>h (O b hb)];rfl
  |x U=>exact key (eW h.1 hd) (eW h.2 E)
 |q S=>
  cases e with
  |x W=>
   obtain⟨w,rfl,O⟩:=E
   rcases hd with rfl|⟨b,rfl,hb⟩
   ·rfl
   show(!memB b w)=true
   rw[eQ fun T=>h b (O b T) hb];rfl
  |v=>rw[show g= .v from E];cases f<;>rfl
  |_=>exact key (bG hd (by intro W h;cases h)) (bG E (by intro W h;cases h))
 |n B=>
  cases e with
  |x W=>
   obtain⟨w,rfl,O⟩:=E
   obtain⟨b,rfl,hb⟩:=hd
   show(!memB b w)=true
   rw[eQ fun T=>absurd (h b (O b T)) (Nat.not_lt_of_le hb)];rfl
  |v=>rw[show g= .v from E];cases f<;>rfl
  |_=>exact key (bG hd (by intro W h;cases h)) (bG E (by intro W h;cases h))
def FsD:List (Nat×Inf)->List (Nat×ID)->Prop
 | [],[]=>True
 |(j,g)::fs,(i,d)::D=>j=i/\d.fits g/\FsD fs D
 |_,_=>False
def okD(ops:Array Oper)(i:Nat)(d:ID):List (Nat×ID)->Prop
 | []=>True
 |(j,e)::D=>(bm (cC ops) j i=true\/cD e d)/\okD ops i d D
theorem dZ{ops:Array Oper}{i:Nat}{d:ID}{f:Inf}(E:d.fits f): ∀{fs:List (Nat×Inf)} {D:List (Nat×ID)},FsD fs D->okD ops i d D->cj (cC ops) i f fs=true
 | [],[],_,_=>rfl
 |(j,g)::fs,(_,e)::D,⟨rfl,h2,h3⟩,⟨h4,h5⟩=>by
  unfold cj;rw[dZ E h3 h5,Bool.and_true];rcases h4 with h4|h4
  ·rw[h4];rfl
  rw[compat_of h2 E h4,a1p]
 | [],_::_,h,_=>absurd h id
 |_::_,[],h,_=>absurd h id
section
variable {P:Program} {G:Nat} {K:bB} {sz:Nat} {Q:Ex->Fn->Heap->Prop} {ops:Array Oper} {D:List (Nat×ID)} {i:Nat} {os:List Oper} {k:List Fr} {f:Fn} {H H1:Heap} {v:Value}
 {d:Tmp} {op:Op} {ty:TypeId} {pos:String} {af:Array Edge}
structure WF2(P:Program)(G:Nat)(K:bB)(sz:Nat)(ops:Array Oper)(D:List (Nat×ID))(i:Nat)(os:List Oper)(k:List Fr)(f:Fn)(H:Heap)(Q:Ex->Fn->Heap->Prop):Prop where
 out: ∀t fs,cU t=f->FsD fs D->∃n e s',runK P G K (n+1) k (ed (bp P G (call P G K n) ops i fs os ⟨t,sz,H⟩))=some (e,s')/\Q e (cU s'.tmps) s'.heap
theorem aK{id:Nat}(T:(kU ops&&P.follows .mixedOrders)=true)(h:WF2 P G K sz ops [] 0 ops.toList k f H Q):WK P G K sz (.region id ops true) k f H Q:=⟨fun t U=>by
 obtain⟨n,e,Y,E,O⟩:=h.out t [] U trivial;refine⟨n,e,Y,?_,O⟩;have:mh P G K (n+1) (.region id ops true) ⟨t,sz,H⟩=ed (bp P G (call P G K n) ops 0 [] ops.toList ⟨t,sz,H⟩):=by show ed (bO P G (call P G K n) ops true ⟨t,sz,H⟩)=_;unfold bO;simp only[cond_true,T]
 rw[this];exact E⟩
theorem bn(h:WK P G K sz .skip k f H Q):WF2 P G K sz ops D i [] k f H Q:=⟨fun t fs T _=>by
 obtain⟨n,e,U,E,O⟩:=h.out t T;exact⟨n,e,U,by unfold bp;exact E,O⟩⟩
def Did(ops:Array Oper)(f:Fn)(o:Oper)(n:Nat)(log:List Nat)(d:ID):Prop:= ∀t sz H,cU t=f->d.fits (ev ops o ⟨t,sz,H⟩ n log)
theorem did_v{o:Oper}{n:Nat}{log:List Nat}(h:bh o.op=true):Did ops f o n log .v:=fun _ _ _ _=>infOf_value h
theorem jC{o:Oper}{n:Nat}{log:List Nat}(O:o.guard=none)(E:bh o.op=false)(h:eu o.op=true):Did ops f o n log .a:=fun t sz H _=>by unfold ev bl;simp only[O,a1x,E,Bool.or_self,cond_false,h,cond_true];exact⟨_,rfl⟩
theorem did_n{o:Oper}{n:Nat}{log:List Nat}(O:o.guard=none)(E:bh o.op=false)(h:eu o.op=true):Did ops f o n log (.n n):=fun t sz H _=>by unfold ev bl;simp only[O,a1x,E,Bool.or_self,cond_false,h,cond_true];exact⟨_,rfl,a07 _⟩
theorem cV{E:Option Tmp}{lt:TypeId}{a:Operand}{n b o:Nat}{log:List Nat}(ha:en f a= .pointer (some ⟨b,o,none⟩)):Did ops f ⟨E,.load lt a,ty,pos,af,none⟩ n log (.l b):=fun t sz H O=>by
 have:dy t a= .pointer (some ⟨b,o,none⟩):=by rw[fA,O];exact ha
 unfold ev bl;simp only[a1x,a1O,cond_false,eu,bh,this];rfl
theorem gZ{n b:Nat}{l:List Nat}(h:b∈dT n l):b∈l/\b<n:=by
 induction l with
 |nil=>simp[dT]at h
 |cons c l ih=>
  unfold dT at h
  cases hb:Nat.ble n c with
  |true=>
   rw[hb]at h
   have:=ih h
   exact⟨a0j _ this.1,this.2⟩
  |false=>
   rw[hb]at h
   rcases a0m.1 h with rfl|h
   ·refine⟨a0r ..,?_⟩;rcases a0d b n with h1|h1
    ·exact h1
    rw[a0t h1]at hb;cases hb
   have:=ih h
   exact⟨a0j _ this.1,this.2⟩
theorem did_r{o:Oper}{n:Nat}{log:List Nat}(h: ∀b,b∈log->n<=b):Did ops f o n log .r:=fun t sz H _=>infOf_benign (below_nil h)
theorem lp{E:Option Tmp}{x:Operand}{ts:Array TypeId}{n k m:Nat}{a:Option Addr}{log:List Nat}(T:en f x= .slice a k m):Did ops f ⟨E,.call ⟨.builtin .len, #[x],ts⟩,ty,pos,af,none⟩ n log .v:=fun t sz H O=>by
 have:dy t x= .slice a k m:=by rw[fA,O];exact T
 unfold ev bl;simp only[a1x,a1O,cond_false,eu,bh];show ID.fits .v (match ge (dy t) [x] with| [.slice _ _ _]=>Inf.v| [.string _]=> .v|_=> .x (dT n log));show ID.fits .v (match [dy t x] with| [.slice _ _ _]=>Inf.v| [.string _]=> .v|_=> .x (dT n log));rw[this];rfl
def gF:Op->Bool
 | .load _ _| .slice _ _ _ _ _| .call ⟨.builtin .len,_,_⟩=>false
 |o=> !bh o&& !eu o
theorem cz{o:Oper}{n:Nat}{log:List Nat}{W:List Nat}(Y:o.guard=none)(E:gF o.op=true)(h: ∀b,b∈log->n<=b\/b∈W):Did ops f o n log (.x W):=fun t sz H _=>by
 have T:bh o.op=false/\eu o.op=false:=by
  unfold gF at E;split at E
  ·cases E
  ·cases E
  ·cases E
  simpa using E
 refine⟨dT n log,?_,fun b hb=>?_⟩
 ·unfold ev bl;simp only[Y,a1x,T.1,T.2,Bool.or_self,cond_false];split
  ·rename_i O;rw[O]at E;cases E
  ·rename_i O;rw[O]at E;cases E
  ·rename_i O;rw[O]at E;cases E
  rfl
 obtain⟨U,Z⟩:=gZ hb;rcases h b U with h3|h3
 ·omega
 exact h3
theorem wf_val{id:ID}(ha:AP P (en f) ⟨some d,op,ty,pos,af,none⟩ {H with log:=[]} (.val v,H1))(ho:op.operands.toList.all (br G)=true)(hd:Nat.ble (d+1) sz=true)
  (T:Did ops f ⟨some d,op,ty,pos,af,none⟩ H.next H1.log id) (U:okD ops i id D)
  (h: ∀l,(∀b,b∈l->b∈H1.log\/b∈H.log)->WF2 P G K sz ops ((i,id)::D) (i+1) os k (upd f d v) {H1 with log:=l} Q):WF2 P G K sz ops D i (⟨some d,op,ty,pos,af,none⟩::os) k f H Q:=⟨fun t fs O E=>by
 obtain⟨t',Y,Z⟩:=mD (P:=P) (G:=G) (ops:=ops) (t:=t) (sz:=sz) (o:=⟨some d,op,ty,pos,af,none⟩) rfl ho (by rw[O];exact ha.eq) hd
 have hi:=T t sz H O
 obtain⟨n,e,s',h3,h4⟩:=(h (dT H.next H1.log++H.log) (fun b hb=>by
  rcases a0f.1 hb with hb|hb
  ·exact .inl (gZ hb).1
  exact .inr hb)).out t' ((i,ev ops ⟨some d,op,ty,pos,af,none⟩ ⟨t,sz,H⟩ H.next H1.log)::fs) (by rw[Z,O];rfl) ⟨rfl,hi,E⟩
 refine⟨n,e,s',?_,h4⟩
 unfold bp im
 rw[Y]
 simp only[dZ hi E U,cond_true]
 exact h3⟩
theorem aN{id:ID}(ha:AP P (en f) ⟨some d,op,ty,pos,af,none⟩ {H with log:=[]} (.val v,{H with log:=[]}))(ho:op.operands.toList.all (br G)=true)(hd:Nat.ble (d+1) sz=true)
  (T:Did ops f ⟨some d,op,ty,pos,af,none⟩ H.next [] id) (U:okD ops i id D)
  (h:WF2 P G K sz ops ((i,id)::D) (i+1) os k (upd f d v) H Q):WF2 P G K sz ops D i (⟨some d,op,ty,pos,af,none⟩::os) k f H Q:=⟨fun t fs O E=>by
 obtain⟨t',Y,Z⟩:=mD (P:=P) (G:=G) (ops:=ops) (t:=t) (sz:=sz) (o:=⟨some d,op,ty,pos,af,none⟩) rfl ho (by rw[O];exact ha.eq) hd
 have hi:=T t sz H O
 obtain⟨n,e,s',h3,h4⟩:=h.out t' ((i,ev ops ⟨some d,op,ty,pos,af,none⟩ ⟨t,sz,H⟩ H.next [])::fs) (by rw[Z,O];rfl) ⟨rfl,hi,E⟩
 refine⟨n,e,s',?_,h4⟩
 unfold bp im
 rw[Y]
 simp only[dZ hi E U,cond_true,dT,a0z]
 exact h3⟩
theorem wf_skip{id:ID}(ha:AP P (en f) ⟨none,op,ty,pos,af,none⟩ {H with log:=[]} (.skip,H1))(ho:op.operands.toList.all (br G)=true)
  (T:Did ops f ⟨none,op,ty,pos,af,none⟩ H.next H1.log id) (U:okD ops i id D)
  (h: ∀l,(∀b,b∈l->b∈H1.log\/b∈H.log)->WF2 P G K sz ops ((i,id)::D) (i+1) os k f {H1 with log:=l} Q):WF2 P G K sz ops D i (⟨none,op,ty,pos,af,none⟩::os) k f H Q:=⟨fun t fs O E=>by
 obtain⟨t',Y,Z⟩:=step_skip (P:=P) (G:=G) (ops:=ops) (t:=t) (sz:=sz) (o:=⟨none,op,ty,pos,af,none⟩) rfl ho (by rw[O];exact ha.eq) rfl
 have hi:=T t sz H O
 obtain⟨n,e,s',h3,h4⟩:=(h (dT H.next H1.log++H.log) (fun b hb=>by
  rcases a0f.1 hb with hb|hb
  ·exact .inl (gZ hb).1
  exact .inr hb)).out t' ((i,ev ops ⟨none,op,ty,pos,af,none⟩ ⟨t,sz,H⟩ H.next H1.log)::fs) (by rw[Z,O];rfl) ⟨rfl,hi,E⟩
 refine⟨n,e,s',?_,h4⟩
 unfold bp im
 rw[Y]
 simp only[dZ hi E U,cond_true]
 exact h3⟩
theorem ba{W:List Nat}{g:FuncId}{args:List Value}{R:Value->Heap->Prop}(ha:AP P (en f) ⟨some d,op,ty,pos,af,none⟩ {H with log:=[]} (.enter g args,{H with log:=[]}))(ho:op.operands.toList.all (br G)=true)(hd:Nat.ble (d+1) sz=true)(hk:gF op=true)
  (hc:C P G K g args {H with log:=[]} R) (a2:okD ops i (.x W) D)
  (h: ∀v E,R v E->(∀b,b∈E.log->H.next<=b\/b∈W)/\∀l,(∀b,b∈l->b∈E.log\/b∈H.log)->WF2 P G K sz ops ((i,.x W)::D) (i+1) os k (upd f d v) {E with log:=l} Q):WF2 P G K sz ops D i (⟨some d,op,ty,pos,af,none⟩::os) k f H Q:=⟨fun t fs ht Y=>by
 obtain⟨T,v,E,a1,hr⟩:=hc.out
 obtain⟨Z,h0⟩:=h v E hr
 obtain⟨t',h1,h2⟩:=jQ (s:=⟨t,sz,E⟩) (d:=some d) (v:=v) hd
 have hi:=cz (ops:=ops) (f:=f) (o:=⟨some d,op,ty,pos,af,none⟩) rfl hk Z t sz H ht
 obtain⟨O,e,s',h3,h4⟩:=(h0 (dT H.next E.log++H.log) (fun b hb=>by
  rcases a0f.1 hb with hb|hb
  ·exact .inl (gZ hb).1
  exact .inr hb)).out t' ((i,ev ops ⟨some d,op,ty,pos,af,none⟩ ⟨t,sz,H⟩ H.next E.log)::fs) (by rw[h2,ht];rfl) ⟨rfl,hi,Y⟩
 refine⟨Nat.max T O,e,s',?_,h4⟩
 have a3:step P G (call P G K (Nat.max T O)) ops ⟨some d,op,ty,pos,af,none⟩ ⟨t,sz,{H with log:=[]}⟩=some ⟨t',sz,E⟩:=by unfold step bl;simp only[cond_true,ho,fA,ht,ha.eq,fN (a1b T O) _ _ _ _ a1];exact h1
 unfold bp im
 rw[a3]
 simp only[dZ hi Y a2,cond_true]
 refine ef (a1i (a0J T O)) k _ _ (fun x U=>?_) _ h3
 cases hq:bp P G (call P G K O) ops (i+1) ((i,ev ops ⟨some d,op,ty,pos,af,none⟩ ⟨t,sz,H⟩ H.next E.log)::fs) os ⟨t',sz,{E with log:=dT H.next E.log++H.log}⟩ with
 |none=>rw[hq]at U;cases U
 |some y=>
  have:=fq (fN (P:=P) (G:=G) (K:=K) (a0J T O)) _ _ _ _ _ hq
  rw[hq]at U
  rw[this];exact U⟩
theorem inf_guard{t:Tr Value}{v want:Bool}{j:Nat}{E:Option Tmp}(U:cU t=f)(Z:cH ops f j=some v)(Y:v=want)(sz:Nat)(H:Heap)(n:Nat)(log:List Nat):
  ev ops ⟨E,op,ty,pos,af,some (j,want)⟩ ⟨t,sz,H⟩ n log=ev ops ⟨E,op,ty,pos,af,none⟩ ⟨t,sz,H⟩ n log:=by
 have O:bl ops ⟨E,op,ty,pos,af,some (j,want)⟩ t=true:=by rw[iU U Z _ rfl,Y];cases want<;>rfl
 have T:bl ops ⟨E,op,ty,pos,af,none⟩ t=true:=rfl
 unfold ev
 simp only[O,T]
theorem dP{v want:Bool}{j:Nat}{O:Option Tmp}(hy:cH ops f j=some v)(Z:v=want)(h:WF2 P G K sz ops D i (⟨O,op,ty,pos,af,none⟩::os) k f H Q):WF2 P G K sz ops D i (⟨O,op,ty,pos,af,some (j,want)⟩::os) k f H Q:=⟨fun t fs T U=>by
 obtain⟨n,e,s',E,h2⟩:=h.out t fs T U;refine⟨n,e,s',?_,h2⟩;unfold bp im at E⊢;rw[lT T hy Z];cases Y:step P G (call P G K n) ops ⟨O,op,ty,pos,af,none⟩ ⟨t,sz,{H with log:=[]}⟩ with
 |none=>rw[Y]at E;exact E
 |some s1=>
  rw[Y]at E
  simp only[inf_guard T hy Z]
  exact E⟩
theorem kI{want:Bool}{j:Nat}(hw: ∀t,cU t=f->bl ops ⟨some d,op,ty,pos,af,some (j,want)⟩ t=false)(hd:Nat.ble (d+1) sz=true)
  (h:WF2 P G K sz ops ((i,.v)::D) (i+1) os k (upd f d undef) H Q):WF2 P G K sz ops D i (⟨some d,op,ty,pos,af,some (j,want)⟩::os) k f H Q:=⟨fun t fs U O=>by
 obtain⟨Y,h3,h4⟩:=jQ (s:=⟨t,sz,{H with log:=[]}⟩) (d:=some d) (v:=undef) hd
 have E:=hw t U
 have hi:ev ops ⟨some d,op,ty,pos,af,some (j,want)⟩ ⟨t,sz,H⟩ H.next []= .v:=by unfold ev;simp only[E,a1I,Bool.true_or,cond_true]
 obtain⟨n,e,s',Z,h2⟩:=h.out Y ((i,.v)::fs) (by rw[h4,U];rfl) ⟨rfl,rfl,O⟩
 refine⟨n,e,s',?_,h2⟩
 have T:step P G (call P G K n) ops ⟨some d,op,ty,pos,af,some (j,want)⟩ ⟨t,sz,{H with log:=[]}⟩=some ⟨Y,sz,{H with log:=[]}⟩:=by unfold step;simp only[E,cond_false];exact h3
 have hc:cj (cC ops) i .v fs=true:=j5 fun j g _=>by cases g<;>simp[eE]
 unfold bp im
 rw[T]
 simp only[hi,hc,cond_true,dT,a0z]
 exact Z⟩
theorem dQ{v want:Bool}{j:Nat}(T:cH ops f j=some v)(O:v= !want)(hd:Nat.ble (d+1) sz=true)(h:WF2 P G K sz ops ((i,.v)::D) (i+1) os k (upd f d undef) H Q):
  WF2 P G K sz ops D i (⟨some d,op,ty,pos,af,some (j,want)⟩::os) k f H Q:=
 kI (fun t E=>by rw[iU E T _ rfl,O];cases want<;>rfl) hd h
theorem wf_gn{want:Bool}{j:Nat}(O:cH ops f j=none)(hd:Nat.ble (d+1) sz=true)(h:WF2 P G K sz ops ((i,.v)::D) (i+1) os k (upd f d undef) H Q):
  WF2 P G K sz ops D i (⟨some d,op,ty,pos,af,some (j,want)⟩::os) k f H Q:=
 kI (fun t E=>by
  unfold bl;have:lM ops t j=none:=by rw[←O,←E];rfl
  simp only[this];cases want<;>rfl) hd h
theorem wf_gsT{v:Bool}{j:Nat}(E:cH ops f j=some v)(hd:Nat.ble (d+1) sz=true)(O:v=true->WF2 P G K sz ops D i (⟨some d,op,ty,pos,af,none⟩::os) k f H Q)(T:v=false->WF2 P G K sz ops ((i,.v)::D) (i+1) os k (upd f d undef) H Q):
  WF2 P G K sz ops D i (⟨some d,op,ty,pos,af,some (j,true)⟩::os) k f H Q:=by
 cases v with
 |true=>exact dP E rfl (O rfl)
 |false=>exact dQ E rfl hd (T rfl)
theorem wf_gsF{v:Bool}{j:Nat}(E:cH ops f j=some v)(hd:Nat.ble (d+1) sz=true)(O:v=false->WF2 P G K sz ops D i (⟨some d,op,ty,pos,af,none⟩::os) k f H Q)(T:v=true->WF2 P G K sz ops ((i,.v)::D) (i+1) os k (upd f d undef) H Q):
  WF2 P G K sz ops D i (⟨some d,op,ty,pos,af,some (j,false)⟩::os) k f H Q:=by
 cases v with
 |true=>exact dQ E rfl hd (T rfl)
 |false=>exact dP E rfl (O rfl)
end
end Go.R
end
noncomputable section
namespace Go.R
theorem lF{n:Int}(h:in64 n):IntKind.i64.wrap n=n:=by
 have e:IntKind.i64.wrap n=if(true&&decide (n%(2^64:Int)>=(2^63:Int))) then n%(2^64:Int)-(2^64:Int) else n%(2^64:Int):=rfl
 rw[e];obtain⟨O,T⟩:=h;by_cases E:0<=n
 ·rw[Int.emod_eq_of_lt E (by omega)];have:decide (n>=(2^63:Int))=false:=decide_eq_false (by omega);rw[this];rfl
 have:n%(2^64:Int)=n+2^64:=by omega
 rw[this];have:decide (n+2^64>=(2^63:Int))=true:=decide_eq_true (by omega);rw[this];simp only[a1k,if_true];omega
theorem jr{n:Int}(h:0<=n/\n<18446744073709551616):IntKind.u64.wrap n=n:=by show n%(2^64:Int)=n;exact Int.emod_eq_of_lt h.1 (by omega)
theorem w_u8{n:Int}(h:0<=n/\n<256):IntKind.u8.wrap n=n:=by show n%(2^8:Int)=n;exact Int.emod_eq_of_lt h.1 (by omega)
theorem fG(b:UInt8):(b.toNat:Int)<256:=by have:=UInt8.toNat_lt b;omega
section
variable {α:Type} [Rp α] {P:Program} {ρ:Operand->Value} {d:Option Tmp} {ty:TypeId} {pos:String} {af:Array Edge} {gd:Option (Nat×Bool)} {B:Base} {F:Fz} {H:Heap} {L R:List Fp} {v:Value} {l:List α} {p:Fp}
variable {t yt:TypeId} {x y:Operand} {k:IntKind} {a b c:Int}
theorem dh(k:IntKind):gt k k=true:=by cases k<;>rfl
theorem fQ(O:ρ x= .int k a)(T:ρ y= .int k b)(E:k.wrap (a+b)=c):AP P ρ ⟨d,.binOp .add t x y yt,ty,pos,af,gd⟩ H (.val (.int k c),H):=
 jh O T (by subst E;show(bif gt k k then _ else none:Option Value)=_;rw[dh];rfl)
theorem ap_sub(O:ρ x= .int k a)(T:ρ y= .int k b)(E:k.wrap (a-b)=c):AP P ρ ⟨d,.binOp .sub t x y yt,ty,pos,af,gd⟩ H (.val (.int k c),H):=
 jh O T (by subst E;show(bif gt k k then _ else none:Option Value)=_;rw[dh];rfl)
theorem ap_mul(O:ρ x= .int k a)(T:ρ y= .int k b)(E:k.wrap (a *b)=c):AP P ρ ⟨d,.binOp .mul t x y yt,ty,pos,af,gd⟩ H (.val (.int k c),H):=
 jh O T (by subst E;show(bif gt k k then _ else none:Option Value)=_;rw[dh];rfl)
theorem ap_div(O:ρ x= .int k a)(T:ρ y= .int k b)(hb:b≠0)(E:k.wrap (a.tdiv b)=c):AP P ρ ⟨d,.binOp .quo t x y yt,ty,pos,af,gd⟩ H (.val (.int k c),H):=by subst E;exact ap_quo O T (dh k) (by simpa using hb)
theorem lz(O:ρ x= .int k a)(T:ρ y= .int k b)(hb:b≠0)(E:a.tmod b=c):AP P ρ ⟨d,.binOp .rem t x y yt,ty,pos,af,gd⟩ H (.val (.int k c),H):=by subst E;exact ap_rem O T (dh k) (by simpa using hb)
theorem ap_cv{s:TypeId}{E:IntKind}{u:TypeDesc}(U:ρ x= .int k a)(hs:P.underlying s=some u)(O:P.underlying t=some (.int E))(T:E.wrap a=c):
  AP P ρ ⟨d,.convert s t x,ty,pos,af,gd⟩ H (.val (.int E c),H):=by subst T;exact ap_conv U hs O
theorem ap_ng(O:ρ x= .int k a)(E:k.wrap (0-a)=c):AP P ρ ⟨d,.unOp .neg t x,ty,pos,af,gd⟩ H (.val (.int k c),H):=by subst E;exact ap_neg O
theorem bH{op:BinOp}{r:Bool}(O:ρ x= .int k a)(T:ρ y= .int k b)(E:l9 op k a b=some (.bool r))(hs:ll op=false):AP P ρ ⟨d,.binOp op t x y yt,ty,pos,af,gd⟩ H (.val (.bool r),H):=
 jh O T (by rw[hs,dh];exact E)
variable {s u:List UInt8}
theorem fE{i:Operand}{O:IntKind}{j:Int}{E:UInt8}(Y:ρ x= .string ⟨⟨s⟩⟩)(hi:ρ i= .int O j)(U:P.underlying t=some .string)(T:0<=j)(hc:s[j.toNat]?=some E):
  AP P ρ ⟨d,.index t x i,ty,pos,af,gd⟩ H (.val (.int .u8 E.toNat),H):=by
 refine⟨?_⟩
 obtain⟨m,rfl⟩:=a0U T
 show lC P t (ρ x) (ρ i) H=_
 rw[Y,hi]
 show ovl (strAt P t ⟨⟨s⟩⟩ (.int O (Int.ofNat m))) H=_
 unfold strAt
 rw[U]
 show ovl (match nth s m with|some b=>some (.int .u8 b.toNat)|none=>none) H=_
 rw[iZ]
 have:s[m]?=some E:=hc
 rw[this];rfl
theorem ap_eqS(E:ρ x= .string ⟨⟨s⟩⟩)(O:ρ y= .string ⟨⟨u⟩⟩):AP P ρ ⟨d,.binOp .eql t x y yt,ty,pos,af,gd⟩ H (.val (.bool (s==u)),H):=ap_str E O rfl
theorem ap_neS(E:ρ x= .string ⟨⟨s⟩⟩)(O:ρ y= .string ⟨⟨u⟩⟩):AP P ρ ⟨d,.binOp .neq t x y yt,ty,pos,af,gd⟩ H (.val (.bool (s !=u)),H):=ap_str E O rfl
theorem ap_leS(E:ρ x= .string ⟨⟨s⟩⟩)(O:ρ y= .string ⟨⟨u⟩⟩):AP P ρ ⟨d,.binOp .leq t x y yt,ty,pos,af,gd⟩ H (.val (.bool (Op.bytesLess s u||s==u)),H):=ap_str E O rfl
theorem ap_ltS(E:ρ x= .string ⟨⟨s⟩⟩)(O:ρ y= .string ⟨⟨u⟩⟩):AP P ρ ⟨d,.binOp .lss t x y yt,ty,pos,af,gd⟩ H (.val (.bool (Op.bytesLess s u)),H):=ap_str E O rfl
theorem aL(O:ρ x= .string ⟨⟨s⟩⟩)(T:ρ y= .string ⟨⟨u⟩⟩)(E:s.length+u.length<=1099511627776):AP P ρ ⟨d,.binOp .add t x y yt,ty,pos,af,gd⟩ H (.val (.string ⟨⟨s++u⟩⟩),H):=
 ap_str O T (by
  show(bif Nat.ble (jT (appL s u)) 1099511627776 then some (Value.string ⟨⟨appL s u⟩⟩) else none)=_;rw[dY,bI,a00,a0t E];rfl)
def cutAt(n:Nat)(lo hi:Option Value)(i j:Nat):Prop:=bnds n n lo hi=some (i,j)
theorem bnds_of{n k i j:Nat}{lo hi:Option Value}(O:cn n hi=some j)(T:cn 0 lo=some i)(E:i<=j)(U:j<=k):bnds n k lo hi=some (i,j):=by unfold bnds;simp only[O,T,a0t E,a0t U,a1k,cond_true]
theorem optN{d:Nat}{O:IntKind}{j:Int}(E:0<=j):cn d (some (.int O j))=some j.toNat:=by obtain⟨m,rfl⟩:=a0U E;rfl
theorem optN0{d:Nat}:cn d none=some d:=rfl
theorem ap_slS{lo hi:Option Operand}{i j:Nat}(Z:ρ x= .string ⟨⟨s⟩⟩)(Y:P.underlying t=some .string)(O:cn s.length (hi.map ρ)=some j)(T:cn 0 (lo.map ρ)=some i)(E:i<=j)(U:j<=s.length):
  AP P ρ ⟨d,.slice t x lo hi none,ty,pos,af,gd⟩ H (.val (.string ⟨⟨(s.drop i).take (j-i)⟩⟩),H):=by
 refine⟨?_⟩
 show ovl (bz P t (ρ x) (lo.map ρ) (hi.map ρ) (Option.map ρ none) H) H=_
 rw[Z]
 unfold bz
 simp only[a1R,Y]
 show ovl (match bnds (jT s) (jT s) (lo.map ρ) (hi.map ρ) with|some (l,r)=>some (.string ⟨⟨hU (hZ s l) (r-l)⟩⟩)|none=>none) H=_
 rw[bI,bnds_of O T E U]
 simp only[bY,cy];rfl
theorem Sl_cut{F:Fz}{o:AObj}{off k i j:Nat}{l:List α}(h:Sl F o off k l)(a1:i<=j)(hj:j<=l.length):Sl F o (off+i *Rp.sz α) (k-i) ((l.take j).drop i):=by
 obtain⟨cs,Y,ro,rfl,O,h2,T,Z⟩:=h;have hl:=T.length;have E:((l.take j).drop i).length=j-i:=by simp;omega
 refine⟨cs,Y,ro,rfl,fun U=>?_,by rw[E];omega,?_,Z⟩
 ·replace O:=O U;have:i *Rp.sz α+(k-i) *Rp.sz α=k *Rp.sz α:=by rw[←a0P];congr 1;omega
  omega
 have h5:=(T.take j).drop i;have e:((cs.drop (off+i *Rp.sz α)).take (((l.take j).drop i).length *Rp.sz α))=(((cs.drop off).take (l.length *Rp.sz α)).take (j *Rp.sz α)).drop (i *Rp.sz α):=by rw[E,a1t,a1z,a1u];congr 1;have:j *Rp.sz α<=l.length *Rp.sz α:=a0y _ hj;rw[Nat.min_eq_left this,Nat.sub_mul]
 rw[e];exact h5
theorem Sl_at0{F:Fz}{o:AObj}{off k:Nat}{l:List α}(h:Sl F o off k l):Sl F o off 0 ([]:List α):=by obtain⟨cs,O,Y,rfl,T,Z,h3,U⟩:=h;exact⟨cs,O,Y,rfl,fun E=>(by have:=T E;omega),a07 _,by simp[RL],U⟩
theorem cut_val{lo hi:Option Operand}{t e:TypeId}{i j off k Z:Nat}{o:AObj}(hx:ρ x= .slice (some ⟨Z,off,none⟩) l.length k)(ht:P.underlying t=some (.slice e))(hz:eb P e=some (Rp.sz α))(hb:H.get Z=some o)(h:Sl F o off k l)
  (h1:cn l.length (hi.map ρ)=some j) (h2:cn 0 (lo.map ρ)=some i) (an:i<=j) (hj:j<=l.length):
  ∃U k',AP P ρ ⟨d,.slice t x lo hi none,ty,pos,af,gd⟩ H (.val (.slice (some ⟨Z,U,none⟩) ((l.take j).drop i).length k'),H)/\Sl F o U k' ((l.take j).drop i):=by
 obtain⟨cs,ar,ro,rfl,g1,g2,g3,g4⟩:=h
 have E:((l.take j).drop i).length=j-i:=by simp;omega
 have T:=Sl_cut (F:=F) (o:= .cells cs ar ro) ⟨cs,ar,ro,rfl,g1,g2,g3,g4⟩ an hj
 have Y: ∀w,bz P t (.slice (some ⟨Z,off,none⟩) l.length k) (lo.map ρ) (hi.map ρ) none H=some w->AP P ρ ⟨d,.slice t x lo hi none,ty,pos,af,gd⟩ H (.val w,H):=by intro w hw;refine⟨?_⟩;show ovl (bz P t (ρ x) (lo.map ρ) (hi.map ρ) (Option.map ρ none) H) H=_;rw[hx,a1R,hw];rfl
 have O:=bnds_of (n:=l.length) (k:=k) h1 h2 an (a05 hj g2)
 rcases g4 with rfl|rfl
 ·cases hk:Nat.beq k i with
  |true=>
   have a9:=a08 hk
   have e0:(l.take j).drop i=[]:=a0g (by rw[E];omega)
   refine⟨off,k-i,Y _ ?_,?_⟩
   ·unfold bz;simp only[ht,O,hz,hb,hk,cond_true,E]
   rw[e0,a9,Nat.sub_self]
   exact Sl_at0 (k:=k) (l:=l) ⟨cs,none,ro,rfl,g1,g2,g3,.inl rfl⟩
  |false=>
   refine⟨off+i *Rp.sz α,k-i,Y _ ?_,T⟩
   unfold bz
   simp only[ht,O,hz,hb,hk,cond_false,E]
 refine⟨off+i *Rp.sz α,k-i,Y _ ?_,T⟩
 unfold bz
 simp only[ht,O,hz,hb,a0N,cond_true,E]
theorem nil_cut{lo hi:Option Operand}{t e:TypeId}{i j:Nat}{sz:Nat}(hx:ρ x= .slice none 0 0)(Z:P.underlying t=some (.slice e))(hz:eb P e=some sz)(T:cn 0 (hi.map ρ)=some j)(U:cn 0 (lo.map ρ)=some i)(O:i<=j)(Y:j<=0):
  AP P ρ ⟨d,.slice t x lo hi none,ty,pos,af,gd⟩ H (.val (.slice none 0 0),H):=by
 refine⟨?_⟩
 show ovl (bz P t (ρ x) (lo.map ρ) (hi.map ρ) (Option.map ρ none) H) H=_
 rw[hx]
 unfold bz
 have E:=bnds_of (n:=0) (k:=0) T U O Y
 simp only[a1R,Z,E,hz,Option.isSome_some,cond_true]
 rfl
theorem sr_cut{lo hi:Option Operand}{t e:TypeId}{i j:Nat}(h:SR F v l)(hs:HS B F H L R)(hx:ρ x=v)(ht:P.underlying t=some (.slice e))(hz:eb P e=some (Rp.sz α))
  (U:cn l.length (hi.map ρ)=some j) (Y:cn 0 (lo.map ρ)=some i) (E:i<=j) (Z:j<=l.length):
  ∃a k,AP P ρ ⟨d,.slice t x lo hi none,ty,pos,af,gd⟩ H (.val (.slice a ((l.take j).drop i).length k),H)/\SR F (.slice a ((l.take j).drop i).length k) ((l.take j).drop i):=by
 rcases h with⟨rfl,rfl⟩|⟨b,off,k,o,rfl,T,g2⟩
 ·have e0:(([]:List α).take j).drop i=[]:=by simp
  rw[e0];exact⟨none,0,nil_cut hx ht hz U Y E (by simpa using Z),SR.nil⟩
 obtain⟨O,k',h3,h4⟩:=cut_val hx ht hz (hs.fz b o T).1 g2 U Y E Z
 exact⟨_,k',h3,.inr ⟨b,O,k',o,rfl,T,h4⟩⟩
theorem os_lit{t:TypeId}{n:Nat}{z:List Value}{E:Array (Nat×Operand)}{cells:List Value}(hs:HS B F H L R)(hi:fH P t=some (Rp.sz α,z))(Z:Nat.ble (n *Rp.sz α) 16777216=true)
  (U:Instr.fill (fun i=>some (i *Rp.sz α,Rp.sz α)) ⟨dU n z⟩ (ge (fun p=>(p.1,ρ p.2)) E.toList)=some ⟨cells⟩) (O:RL F cells l) (Y:l.length=n):
  ∃a H1 T,AP P ρ ⟨d,.buildSlice t n E,ty,pos,af,gd⟩ H (.val (.slice a n n),H1)/\OS F (.slice a n n) l T/\HS B F H1 (L++[T]) R/\∀b,b∈H1.log->b∈H.log:=by
 subst Y
 refine⟨_,_,[(H.next,.cells cells none false)],np hi Z U,?_,hs.push _,fun b hb=>by simpa using hb⟩
 have:=O.length
 exact .inr ⟨H.next,0,l.length,cells,none,rfl,rfl,_,_,_,rfl,fun _=>(by omega),a07 _,by rw[a0W,←this,a1j];exact O,.inl rfl⟩
theorem ap_app{E O:Operand}{st T:TypeId}{u w:Value}{H1:Heap}(Y:ρ E=v)(Z:ρ O=u)(U:gj P #[st,T] v u H=some (w,H1)):AP P ρ ⟨d,.call ⟨.builtin .append, #[E,O], #[st,T]⟩,ty,pos,af,gd⟩ H (.val w,H1):=by refine⟨?_⟩;show ovh (gj P #[st,T] (ρ E) (ρ O) H)=_;rw[Y,Z,U];rfl
theorem os_app{s0 x0:Operand}{st e:TypeId}{u:Value}{E:List α}{q T:Nat}{z:List Value}(h:OS F v l p)(hs:HS B F H L R)(hq:L[q]?=some p)(hx:ρ s0=v)(hy:ρ x0=u)(hu:Sv F H.get u E)(ht:P.underlying st=some (.slice e))
  (hz:eb P e=some (Rp.sz α)) (Z:iL P e=some T) (a1:ey P e=some z) (ax:Nat.beq (jT z) (Rp.sz α)=true) (Y:Nat.ble T 4096=true) (ar:Nat.beq (Rp.sz α) 0=false) (U:l.length+E.length<=2147483648):
  ∃a k H1 O,AP P ρ ⟨d,.call ⟨.builtin .append, #[s0,x0], #[st,st]⟩,ty,pos,af,gd⟩ H (.val (.slice a (l++E).length k),H1)/\OS F (.slice a (l++E).length k) (l++E) O/\HS B F H1 (L.set q O) R:=by
 obtain⟨h1,b5,h2,h3⟩:=hu.first
 obtain⟨a,k,H1,O,h4,h5,h6⟩:=os_append (types:= #[st,st]) h hs hq (x:=u) rfl rfl ht ht (by intro k hk;cases hk) hz Z a1 ax Y ar h1 h2 h3 U
 exact⟨a,k,H1,O,ap_app hx hy h4,h5,h6⟩
theorem os_st{t:TypeId}{a0 Y:Operand}{j q off n b o:Nat}{w:Value}{y Z:α}{E:List Value}(h:OS F v l p)(hs:HS B F H L R)(hq:L[q]?=some p)(ha:ρ a0= .pointer (some ⟨b,o,none⟩))(hb:b=sB v)(ho:o=sO v+j *Rp.sz α+off)(hx:ρ Y=w)(hn:eb P t=some n)(hc:w.cells.toList=E)(hl:Nat.beq E.length n=true)
  (hy:l[j]?=some y) (h1:allL Value.oneCell' E=true) (hr: ∀cs,Rp.rep F cs y->off+E.length<=cs.length/\Rp.rep F (bD cs off E) Z):
  ∃H1 O,AP P ρ ⟨d,.store t a0 Y,ty,pos,af,gd⟩ H (.skip,H1)/\OS F v (l.set j Z) O/\HS B F H1 (L.set q O) R/\∀b cs T,p=[(b,.cells cs T false)]->∃U,O=[(b,.cells U T false)]:=by
 subst hb ho
 obtain⟨H1,O,h2,h3,h4,h5⟩:=os_set h hs hq hy h1 hr
 exact⟨H1,O,ap_st ha hx hn hc hl h2,h3,h4,h5⟩
end
end Go.R
end
noncomputable section
namespace Go.R
theorem agN{f:Fn}:aX f []:=trivial
theorem agC{f:Fn}{i:Nat}{v:Value}{l:List (Nat×Value)}(h:f i=v)(t:aX f l):aX f ((i,v)::l):=⟨h,t⟩
theorem j9{ops:Array Oper}{i:Nat}: ∀D,okD ops i .v D
 | []=>trivial
 |(_,e)::D=>⟨.inr (by cases e<;>trivial),j9 D⟩
structure Rs where
 v:Value
 H:Heap
 p:Fp
section
variable {P:Program} {G:Nat} {K:bB} {sz:Nat} {Q:Ex->Fn->Heap->Prop} {ops:Array Oper} {D:List (Nat×ID)} {i:Nat} {os:List Oper} {k:List Fr} {f:Fn} {H H1:Heap} {v:Value}
 {d:Tmp} {op:Op} {ty:TypeId} {pos:String} {af:Array Edge} {Φ:Rs->Prop}
theorem aJ(ha: ∃r:Rs,AP P (en f) ⟨some d,op,ty,pos,af,none⟩ H (.val r.v,r.H)/\Φ r)(T:op.operands.toList.all (br G)=true)(hd:Nat.ble (d+1) sz=true)
  (h: ∀v H1 p,Φ ⟨v,H1,p⟩->WO P G K sz ops os k (upd f d v) H1 Q):WO P G K sz ops (⟨some d,op,ty,pos,af,none⟩::os) k f H Q:=by
 obtain⟨⟨v,H1,p⟩,E,O⟩:=ha
 exact ai E T hd (h v H1 p O)
theorem aF(ha: ∃r:Rs,AP P (en f) ⟨none,op,ty,pos,af,none⟩ H (.skip,r.H)/\Φ r)(T:op.operands.toList.all (br G)=true)
  (h: ∀v H1 p,Φ ⟨v,H1,p⟩->WO P G K sz ops os k f H1 Q):WO P G K sz ops (⟨none,op,ty,pos,af,none⟩::os) k f H Q:=by
 obtain⟨⟨v,H1,p⟩,E,O⟩:=ha
 exact wo_skip E T (h v H1 p O)
theorem cQ{id:ID}(ha: ∃r:Rs,AP P (en f) ⟨some d,op,ty,pos,af,none⟩ {H with log:=[]} (.val r.v,r.H)/\Φ r)(Y:op.operands.toList.all (br G)=true)(hd:Nat.ble (d+1) sz=true)
  (O: ∀v H1 p,Φ ⟨v,H1,p⟩->Did ops f ⟨some d,op,ty,pos,af,none⟩ H.next H1.log id) (T:okD ops i id D)
  (h: ∀v H1 p,Φ ⟨v,H1,p⟩->∀l,(∀b,b∈l->b∈H1.log\/b∈H.log)->WF2 P G K sz ops ((i,id)::D) (i+1) os k (upd f d v) {H1 with log:=l} Q):
  WF2 P G K sz ops D i (⟨some d,op,ty,pos,af,none⟩::os) k f H Q:=by
 obtain⟨⟨v,H1,p⟩,U,E⟩:=ha
 exact wf_val U Y hd (O v H1 p E) T (h v H1 p E)
theorem fh{id:ID}(ha: ∃r:Rs,AP P (en f) ⟨none,op,ty,pos,af,none⟩ {H with log:=[]} (.skip,r.H)/\Φ r)(Y:op.operands.toList.all (br G)=true)
  (O: ∀v H1 p,Φ ⟨v,H1,p⟩->Did ops f ⟨none,op,ty,pos,af,none⟩ H.next H1.log id) (T:okD ops i id D)
  (h: ∀v H1 p,Φ ⟨v,H1,p⟩->∀l,(∀b,b∈l->b∈H1.log\/b∈H.log)->WF2 P G K sz ops ((i,id)::D) (i+1) os k f {H1 with log:=l} Q):
  WF2 P G K sz ops D i (⟨none,op,ty,pos,af,none⟩::os) k f H Q:=by
 obtain⟨⟨v,H1,p⟩,U,E⟩:=ha
 exact wf_skip U Y (O v H1 p E) T (h v H1 p E)
end
section
variable {α:Type} [Rp α] {P:Program} {ρ:Operand->Value} {d:Option Tmp} {ty:TypeId} {pos:String} {af:Array Edge} {gd:Option (Nat×Bool)} {B:Base} {F:Fz} {H:Heap} {L R:List Fp} {v:Value} {l:List α} {p:Fp}
def Wr(H H1:Heap)(W:List Nat):Prop:= ∀b,b∈H1.log->b∈H.log\/H.next<=b\/b∈W
theorem Wr.did{H1:Heap}{W:List Nat}(h:Wr {H with log:=[]} H1 W): ∀b,b∈H1.log->H.next<=b\/b∈W:=fun b hb=>by
 rcases h b hb with h|h|h
 ·simp at h
 ·exact .inl h
 exact .inr h
theorem Wr.nil{H1:Heap}(h: ∀b,b∈H1.log->b∈H.log):Wr H H1 []:=fun b hb=> .inl (h b hb)
theorem HS.lg{B:Base}{F O:Fz}{E H1:Heap}{L T R U:List Fp}(h:HS B F H1 L R)(Y:HS B O E T U){l:List Nat}(Z: ∀b,b∈l->b∈H1.log\/b∈E.log):HS B F {H1 with log:=l} L R:=
 h.relog fun b hb=>by
  rcases Z b hb with h1|h1
  ·exact h.log b h1
  exact Y.log b h1
theorem aZ{e:TypeId}{z:List Value}(hs:HS B F H L R)(E:ey P e=some z):
  ∃r:Rs,AP P ρ ⟨d,.alloc e,ty,pos,af,gd⟩ H (.val r.v,r.H)/\(∃b,r.v= .pointer (some ⟨b,0,none⟩)/\HS B F r.H (L++[[(b,.cells z none false)]]) R/\Wr H r.H []):=
 ⟨⟨_,_,[]⟩,ap_alloc E,_,rfl,hs.push _,.nil fun b hb=>by simpa using hb⟩
theorem dm{e:TypeId}{x:Operand}{u:Value}{cs:List Value}(hs:HS B F H L R)(E:ρ x=u)(hc:u.cells.toList=cs):
  ∃r:Rs,AP P ρ ⟨d,.box e x,ty,pos,af,gd⟩ H (.val r.v,r.H)/\(∃b,r.v= .pointer (some ⟨b,0,none⟩)/\HS B F r.H (L++[[(b,.cells cs none false)]]) R/\Wr H r.H []):=
 ⟨⟨_,_,[]⟩,ap_box (by rw[E];exact hc),_,rfl,hs.push _,.nil fun b hb=>by simpa using hb⟩
theorem be{t:TypeId}{n:Nat}{z:List Value}{E:Array (Nat×Operand)}{ps:List (Nat×Value)}{cells:List Value}(l:List α)(hs:HS B F H L R)(T:ge (fun p=>(p.1,ρ p.2)) E.toList=ps)(hi:fH P t=some (Rp.sz α,z))(hn:Nat.ble (n *Rp.sz α) 16777216=true)
  (hf:Instr.fill (fun i=>some (i *Rp.sz α,Rp.sz α)) ⟨dU n z⟩ ps=some ⟨cells⟩) (hr:RL F cells l) (O:l.length=n):
  ∃r:Rs,AP P ρ ⟨d,.buildSlice t n E,ty,pos,af,gd⟩ H (.val r.v,r.H)/\(∃a k,r.v= .slice a l.length k/\OS F (.slice a l.length k) l r.p/\HS B F r.H (L++[r.p]) R/\Wr H r.H []):=by
 subst T
 obtain⟨a,H1,p',U,Y,Z,h4⟩:=os_lit (d:=d) (ty:=ty) (pos:=pos) (af:=af) (gd:=gd) hs hi hn hf hr O
 exact⟨⟨_,H1,p'⟩,U,a,n,by rw[O],by rw[O];exact Y,Z,.nil h4⟩
theorem rs_cut{x:Operand}{lo hi:Option Operand}{t e:TypeId}{i j:Nat}(h:SR F v l)(hs:HS B F H L R)(hx:ρ x=v)(ht:P.underlying t=some (.slice e))(hz:eb P e=some (Rp.sz α))
  (U:cn l.length (hi.map ρ)=some j) (Y:cn 0 (lo.map ρ)=some i) (E:i<=j) (Z:j<=l.length):
  ∃r:Rs,AP P ρ ⟨d,.slice t x lo hi none,ty,pos,af,gd⟩ H (.val r.v,r.H)/\(∃a k,r.v= .slice a ((l.take j).drop i).length k/\r.H=H/\SR F (.slice a ((l.take j).drop i).length k) ((l.take j).drop i)):=by
 obtain⟨a,k,O,T⟩:=sr_cut (d:=d) (ty:=ty) (pos:=pos) (af:=af) (gd:=gd) h hs hx ht hz U Y E Z
 exact⟨⟨_,H,[]⟩,O,a,k,rfl,rfl,T⟩
theorem ck{s0 x0:Operand}{st e:TypeId}{u:Value}{E:List α}{q O:Nat}{z:List Value}(h:OS F v l p)(hs:HS B F H L R)(hq:L[q]?=some p)(hx:ρ s0=v)(hy:ρ x0=u)(hu:Sv F H.get u E)(ht:P.underlying st=some (.slice e))
  (hz:eb P e=some (Rp.sz α)) (Z:iL P e=some O) (a1:ey P e=some z) (ax:Nat.beq (jT z) (Rp.sz α)=true) (Y:Nat.ble O 4096=true) (ar:Nat.beq (Rp.sz α) 0=false) (T:l.length+E.length<=2147483648):
  ∃r:Rs,AP P ρ ⟨d,.call ⟨.builtin .append, #[s0,x0], #[st,st]⟩,ty,pos,af,gd⟩ H (.val r.v,r.H)/\(∃a k,r.v= .slice a (l++E).length k/\OS F (.slice a (l++E).length k) (l++E) r.p/\HS B F r.H (L.set q r.p) R/\Wr H r.H (p.map Prod.fst)):=by
 have hc:=hs.callOwn hq
 obtain⟨a,k,H1,p',h1,h2,U⟩:=os_app (d:=d) (ty:=ty) (pos:=pos) (af:=af) (gd:=gd) (q:=0) h hc rfl hx hy hu ht hz Z a1 ax Y ar T
 have h4:=hs.backOwn (M:=[]) hq rfl (fun b hb=>hb) U
 exact⟨⟨_,H1,p'⟩,h1,a,k,rfl,h2,by simpa using h4,fun b hb=>U.log b hb⟩
theorem rs_st{t:TypeId}{a0 Y:Operand}{j q off n b o:Nat}{w:Value}{y:α}(Z:α){E:List Value}(h:OS F v l p)(hs:HS B F H L R)(U:L[q]?=some p)(ha:ρ a0= .pointer (some ⟨b,o,none⟩))(hb:b=sB v)(ho:o=sO v+j *Rp.sz α+off)(hx:ρ Y=w)(hn:eb P t=some n)(hc:w.cells.toList=E)(hl:Nat.beq E.length n=true)
  (hy:l[j]?=some y) (h1:allL Value.oneCell' E=true) (hr: ∀cs,Rp.rep F cs y->off+E.length<=cs.length/\Rp.rep F (bD cs off E) Z):
  ∃r:Rs,AP P ρ ⟨d,.store t a0 Y,ty,pos,af,gd⟩ H (.skip,r.H)/\(OS F v (l.set j Z) r.p/\HS B F r.H (L.set q r.p) R/\Wr H r.H (p.map Prod.fst)):=by
 have T:=hs.callOwn U
 obtain⟨H1,p',g1,g2,O,_⟩:=os_st (d:=d) (ty:=ty) (pos:=pos) (af:=af) (gd:=gd) (q:=0) h T rfl ha hb ho hx hn hc hl hy h1 hr
 have h4:=hs.backOwn (M:=[]) U rfl (fun b hb=>hb) O
 exact⟨⟨.bool true,H1,p'⟩,g1,g2,by simpa using h4,fun b hb=>O.log b hb⟩
theorem aq{t:TypeId}{a0 Z:Operand}{q n b o:Nat}{w:Value}{E cs O:List Value}(hs:HS B F H L R)(Y:L[q]?=some [(b,.cells cs none false)])(ha:ρ a0= .pointer (some ⟨b,o,none⟩))(hx:ρ Z=w)(hn:eb P t=some n)(hc:w.cells.toList=E)(hl:Nat.beq E.length n=true)
  (hb:Nat.ble (o+E.length) cs.length=true) (h1:allL Value.oneCell' E=true) (he:bD cs o E=O):
  ∃r:Rs,AP P ρ ⟨d,.store t a0 Z,ty,pos,af,gd⟩ H (.skip,r.H)/\(HS B F r.H (L.set q [(b,.cells O none false)]) R/\Wr H r.H [b]):=by
 have U:=hs.callOwn Y
 obtain⟨H1,g1,T⟩:=U.st (i:=0) rfl hb h1 he
 have h4:=hs.backOwn (M:=[]) Y rfl (fun b hb=>hb) T
 exact⟨⟨.bool true,H1,[]⟩,ap_st ha hx hn hc hl g1,by simpa using h4,fun b hb=>T.log b hb⟩
end
theorem flat_sub{β:Type}{E L:List (List β)}(h:List.Sublist E L):List.Sublist E.flatten L.flatten:=by
 induction h with
 |slnil=>exact List.Sublist.refl _
 |cons a _ ih=>rw[a0M];exact ih.trans (List.sublist_append_right _ _)
 |cons_cons a _ ih=>rw[a0M,a0M];exact(List.Sublist.refl a).append ih
theorem HS.sub{B:Base}{F:Fz}{H:Heap}{L T R:List Fp}(h:HS B F H L R)(E:List.Sublist T L):HS B F H T R:=
 ⟨h.fz,fun p O b o hb=>h.own p (O.imp (fun x=>E.subset x) id) b o hb,((flat_sub (E.append (List.Sublist.refl R))).map _).nodup h.nd,h.n0,h.log,fun p O=>h.mine p (E.subset O)⟩
theorem HS.forget{B:Base}{F:Fz}{H:Heap}{L R:List Fp}(h:HS B F H L R):HS B F H [] R:=h.sub (List.nil_sublist _)
theorem HS.only{B:Base}{F:Fz}{H:Heap}{L R:List Fp}{p:Fp}(h:HS B F H L R){i:Nat}(hi:L[i]?=some p):HS B F H [p] R:=h.sub (List.singleton_sublist.2 (a0p hi))
section
variable {α:Type} [Rp α] {F:Fz} {B:Base} {H:Heap} {L R:List Fp} {v:Value} {l:List α} {p:Fp}
theorem OS.frz(h:OS F v l p)(hs:HS B F H L R){i:Nat}(hi:L[i]?=some p): ∃F',F.le F'/\HS B F' H (L.set i []) R/\SR F' v l/\∀b o,(b,o)∈p->F' b=some o:=by
 obtain⟨F',T,Y,U⟩:=hs.freeze hi;refine⟨F',T,Y,?_,U⟩;rcases h with⟨E,O,_⟩|⟨b,off,k,cs,an,E,O,Z⟩
 ·exact .inl ⟨E,O⟩
 exact .inr ⟨b,off,k,_,E,U b _ (by rw[O];simp),Z.mono T⟩
end
theorem bf{β:Type}{l:List β}{j:Nat}{x:β}(h:j<l.length):l[j]?=some (l.getD j x):=by rw[a0c,a0b h];rfl
theorem BS:(∀a b:Bool,((a&&b)=true)=(a=true/\b=true))/\(∀a b:Bool,((a||b)=true)=(a=true\/b=true))/\(∀a b:Bool,((a&&b)=false)=(a=true->b=false))/\(∀a b:Bool,((a||b)=false)=(a=false/\b=false))/\
  (∀a:Bool,((!a)=true)=(a=false))/\(∀a:Bool,((!a)=false)=(a=true))/\(∀(q:Prop) [Decidable q],(decide q=true)=q)/\(∀(q:Prop) [Decidable q],(decide q=false)= ¬q)/\
  (∀a b:Int,((a==b)=true)=(a=b))/\(∀a b:Int,((a==b)=false)=(a≠b))/\(∀a b:Int,((a !=b)=true)=(a≠b))/\(∀a b:Int,((a !=b)=false)=(a=b))/\
  (∀a b:List UInt8,((a==b)=true)=(a=b))/\(∀a b:List UInt8,((a==b)=false)=(a≠b))/\(∀a b:List UInt8,((a !=b)=true)=(a≠b))/\(∀a b:List UInt8,((a !=b)=false)=(a=b))/\
  (∀a b:Bool,((a==b)=true)=(a=b))/\(∀a b:Bool,((a==b)=false)=(a≠b))/\(∀a b:Bool,((a !=b)=true)=(a≠b))/\(∀a b:Bool,((a !=b)=false)=(a=b)):=by
 refine⟨?_,?_,?_,?_,?_,?_,?_,?_,?_,?_,?_,?_,?_,?_,?_,?_,?_,?_,?_,?_⟩<;>intros<;>simp
theorem BT:(∀a:Bool,(true&&a)=a)/\(∀a:Bool,(false&&a)=false)/\(∀a:Bool,(a&&true)=a)/\(∀a:Bool,(a&&false)=false)/\(∀a:Bool,(true||a)=true)/\(∀a:Bool,(false||a)=a)/\(∀a:Bool,(a||true)=true)/\(∀a:Bool,(a||false)=a)/\(!true)=false/\(!false)=true:=by simp
theorem Lr{lo hi:Nat}{ex:List Nat}{f:Fn}:Leaves lo hi ex f f:= .refl
theorem Lu{lo hi:Nat}{ex:List Nat}{f f':Fn}{i:Nat}{v:Value}(E:inR lo hi ex i=true)(h:Leaves lo hi ex f f'):Leaves lo hi ex f (upd f' i v):= .upd E h
section
variable {P:Program} {G:Nat} {K:bB} {sz:Nat} {Q:Ex->Fn->Heap->Prop} {ops:Array Oper} {D:List (Nat×ID)} {i:Nat} {os:List Oper} {k:List Fr} {f:Fn} {H H1:Heap} {d:Tmp} {ty:TypeId} {pos:String} {af:Array Edge} {x:Operand}
theorem wm(v:Value)(O:en f x=v)(E:(Op.move x).operands.toList.all (br G)=true)(hd:Nat.ble (d+1) sz=true)(h:WO P G K sz ops os k (upd f d v) H Q):WO P G K sz ops (⟨some d,.move x,ty,pos,af,none⟩::os) k f H Q:=ai (ap_move O) E hd h
theorem wa(v:Value)(O:en f x=v)(E:(Op.assign x).operands.toList.all (br G)=true)(hd:Nat.ble (d+1) sz=true)(h:WO P G K sz ops os k (upd f d v) H Q):WO P G K sz ops (⟨some d,.assign x,ty,pos,af,none⟩::os) k f H Q:=ai (lA O) E hd h
theorem fm(v:Value)(O:en f x=v)(E:(Op.move x).operands.toList.all (br G)=true)(hd:Nat.ble (d+1) sz=true)(h:WF2 P G K sz ops ((i,.v)::D) (i+1) os k (upd f d v) H Q):WF2 P G K sz ops D i (⟨some d,.move x,ty,pos,af,none⟩::os) k f H Q:=aN (ap_move O) E hd (did_v rfl) (j9 _) h
theorem fa(v:Value)(O:en f x=v)(E:(Op.assign x).operands.toList.all (br G)=true)(hd:Nat.ble (d+1) sz=true)(h:WF2 P G K sz ops ((i,.v)::D) (i+1) os k (upd f d v) H Q):WF2 P G K sz ops D i (⟨some d,.assign x,ty,pos,af,none⟩::os) k f H Q:=aN (lA O) E hd (did_v rfl) (j9 _) h
end
end Go.R
end
noncomputable section
set_option linter.unusedVariables false
namespace Go.R
section
variable {P:Program} {G:Nat} {K:bB} {sz:Nat} {Q:Ex->Fn->Heap->Prop} {ops:Array Oper} {D:List (Nat×ID)} {i:Nat} {os:List Oper} {k:List Fr} {f:Fn} {H:Heap} {v:Value}
 {d:Tmp} {op:Op} {ty:TypeId} {pos:String} {af:Array Edge}
def cB:ID->ID->Bool
 | .v,_=>true
 |_,.v=>true
 |_,.x _=>false
 | .x _,.a=>true
 | .x _,_=>false
 |_,_=>true
theorem cB_ok{e d:ID}(h:cB e d=true):cD e d:=by cases e<;>cases d<;>first|exact trivial|cases h
def okB(ops:Array Oper)(i:Nat)(d:ID):List (Nat×ID)->Bool
 | []=>true
 |(j,e)::D=>(cB e d||bm (cC ops) j i)&&okB ops i d D
theorem kb: ∀{D:List (Nat×ID)} {e:ID},okB ops i e D=true->okD ops i e D
 | [],_,_=>trivial
 |(j,g)::D,e,h=>by unfold okB at h;rw[a04,a0S]at h;exact⟨h.1.elim (fun h=> .inr (cB_ok h)) .inl,kb h.2⟩
theorem wfv(ha:AP P (en f) ⟨some d,op,ty,pos,af,none⟩ {H with log:=[]} (.val v,{H with log:=[]}))
  (h:WF2 P G K sz ops ((i,.v)::D) (i+1) os k (upd f d v) H Q) (O:bh op=true:=by rfl) (E:op.operands.toList.all (br G)=true:=by rfl) (hd:Nat.ble (d+1) sz=true:=by rfl):WF2 P G K sz ops D i (⟨some d,op,ty,pos,af,none⟩::os) k f H Q:=aN ha E hd (did_v O) (j9 _) h
end
end Go.R
end
noncomputable section
set_option linter.unusedVariables false
namespace Go.R
open Go
section
variable {I J:Int->Value->Prop} {es:List (Value×Value)}
def TabI(I:Int->Value->Prop)(es:List (Value×Value)):Prop:= ∀e,e∈es->∃k,e.1= .int .i64 k/\I k e.2
end
section
variable {P:Program} {ρ:Operand->Value} {d:Option Tmp} {ty:TypeId} {pos:String} {af:Array Edge} {gd:Option (Nat×Bool)} {B:Base} {F:Fz} {H:Heap} {L R:List Fp} {I:Int->Value->Prop} {es:List (Value×Value)}
end
end Go.R
end
