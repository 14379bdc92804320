/-
Symbolic runs: heaps with owners, what cells stand for.
-/
import Derived.Test.YtapgbjedgcpffaaZXRB
noncomputable section
set_option linter.unusedVariables false
set_option linter.unusedSimpArgs false
namespace Go.R
abbrev Fn:=Nat->Value
def upd(f:Fn)(i:Nat)(v:Value):Fn:=fun j=>bif Nat.beq i j then v else f j
def updO(f:Fn)(d:Option Tmp)(v:Value):Fn:=match d with
 |some d=>upd f d v
 |none=>f
def jZ(f:Fn):List (Nat×Value)->Fn
 | []=>f
 |(i,v)::l=>upd (jZ f l) i v
def aX(f:Fn):List (Nat×Value)->Prop
 | []=>True
 |(i,v)::l=>f i=v/\aX f l
def dF(f:Fn):Operand->Value
 | .tmp t=>f t
 | .const v=>v
 | .global g=> .pointer (some ⟨g,0,none⟩)
 | .func i=> .func (.func i) #[] #[]
def argF(l:List Value):Fn:=fun j=>l.getD j undef
theorem upd_self(f:Fn){i:Nat}{v:Value}(h:f i=v):upd f i v=f:=by
 funext j;unfold upd;cases z:Nat.beq i j with
 |true=>have:=a04 z;subst this;exact h.symm
 |false=>rfl
theorem gf{f:Fn}: ∀{l:List (Nat×Value)},aX f l->jZ f l=f
 | [],_=>rfl
 |(i,v)::l,h=>by unfold jZ;rw[gf h.2];exact upd_self f h.1
theorem lget_lset_fn(t:Tr Value)(d:Nat)(v:Value):cE (lset t d v)=upd (cE t) d v:=by
 funext j;rw[eZ];unfold upd;by_cases h:d=j
 ·subst h;rw[if_pos rfl,a0I];rfl
 rw[if_neg h];cases z:Nat.beq d j with
 |true=>exact absurd (a04 z) h
 |false=>rfl
theorem ek(t:Tr Value):cT t=dF (cE t):=by funext x;cases x<;>rfl
theorem argTmps_fn(args:List Value):cE (ep 0 args .nil)=argF args:=by
 funext j;rw[f0];unfold argF;by_cases h:j<args.length
 ·rw[if_pos (by omega)];rfl
 rw[if_neg (by omega),a08,a18 (by omega)];rfl
inductive Fr where
 |seq (b:Code)
 |block (id:Nat)
section
variable {P:Program} {G:Nat} {K:bx} {sz:Nat} {Q:Ex->Fn->Heap->Prop}
def runK(P:Program)(G:Nat)(K:bx)(n:Nat):List Fr->Option (Ex×St)->Option (Ex×St)
 | [],r=>r
 | .seq b::k,r=>runK P G K n k (e9 r (jM P G K n b))
 | .block id::k,r=>runK P G K n k (cL id r)
theorem dA{n m:Nat}(h:n<=m): ∀(k:List Fr) (r r':Option (Ex×St)),(∀x,r=some x->r'=some x)->∀x,runK P G K n k r=some x->runK P G K m k r'=some x
 | [],r,r',hr,x,hx=>hr x hx
 | .seq b::k,r,r',hr,x,hx=>dA h k _ _ (fun _ z=>ft hr (fun s y z=>gv h b s y z) z) x hx
 | .block id::k,r,r',hr,x,hx=>dA h k _ _ (fun _ z=>hC hr z) x hx
structure WK(P:Program)(G:Nat)(K:bx)(sz:Nat)(c:Code)(k:List Fr)(f:Fn)(H:Heap)(Q:Ex->Fn->Heap->Prop):Prop where
 out: ∀t,cE t=f->∃n e s',runK P G K (n+1) k (jM P G K (n+1) c ⟨t,sz,H⟩)=some (e,s')/\Q e (cE s'.tmps) s'.heap
structure WO(P:Program)(G:Nat)(K:bx)(sz:Nat)(ops:Array Oper)(os:List Oper)(k:List Fr)(f:Fn)(H:Heap)(Q:Ex->Fn->Heap->Prop):Prop where
 out: ∀t,cE t=f->∃n e s',runK P G K (n+1) k (dx (eO P G (call P G K n) ops os ⟨t,sz,H⟩))=some (e,s')/\Q e (cE s'.tmps) s'.heap
structure C(P:Program)(G:Nat)(K:bx)(f:FuncId)(args:List Value)(H:Heap)(R:Value->Heap->Prop):Prop where
 out: ∃n v H',call P G K n f args H=some (v,H')/\R v H'
theorem C.mono{f:FuncId}{args:List Value}{H:Heap}{R z:Value->Heap->Prop}(h:C P G K f args H R)(O: ∀v H',R v H'->z v H'):C P G K f args H z:=by obtain⟨n,v,H',A,E⟩:=h.out;exact⟨n,v,H',A,O _ _ E⟩
variable {c:Code} {k:List Fr} {f:Fn} {H:Heap}
theorem ai(h:Q .normal f H):WK P G K sz .skip [] f H Q:=⟨fun t z=>⟨0,.normal,⟨t,sz,H⟩,rfl,by rw[z];exact h⟩⟩
theorem aj{b:Code}(h:WK P G K sz b k f H Q):WK P G K sz .skip (.seq b::k) f H Q:=⟨h.out⟩
theorem dP{id:Nat}(h:WK P G K sz .skip k f H Q):WK P G K sz .skip (.block id::k) f H Q:=⟨h.out⟩
theorem aH{a b:Code}(h:WK P G K sz a (.seq b::k) f H Q):WK P G K sz (.seq a b) k f H Q:=⟨h.out⟩
theorem eC{id:Nat}{b:Code}(h:WK P G K sz b (.block id::k) f H Q):WK P G K sz (.block id b) k f H Q:=⟨h.out⟩
theorem bj{b:Code}(h:WK P G K sz b (.seq (.loop b)::k) f H Q):WK P G K sz (.loop b) k f H Q:=⟨fun t O=>by
 obtain⟨n,e,U,A,E⟩:=h.out t O;refine⟨n+1,e,U,?_,E⟩;refine dA (Nat.le_succ (n+1)) k _ _ (fun x T=>?_) _ A;show e9 (jM P G K (n+2) b ⟨t,sz,H⟩) (jM P G K (n+1) (.loop b))=some x;exact ft (fun y z=>gu _ _ _ _ z) (fun _ _ z=>z) T⟩
theorem cI{id:Nat}{b:Code}(h:WK P G K sz (.exit id) k f H Q):WK P G K sz (.exit id) (.seq b::k) f H Q:=⟨h.out⟩
theorem dQ{id:Nat}(h:WK P G K sz .skip k f H Q):WK P G K sz (.exit id) (.block id::k) f H Q:=⟨fun t E=>by
 obtain⟨n,e,O,z,A⟩:=h.out t E;refine⟨n,e,O,?_,A⟩;show runK P G K (n+1) k (cL id (some (.exit id,⟨t,sz,H⟩)))=_;unfold cL;simp only[a0I,cond_true];exact z⟩
theorem hT{id z:Nat}(A:Nat.beq id z=false)(h:WK P G K sz (.exit id) k f H Q):WK P G K sz (.exit id) (.block z::k) f H Q:=⟨fun t T=>by
 obtain⟨n,e,U,E,O⟩:=h.out t T;refine⟨n,e,U,?_,O⟩;show runK P G K (n+1) k (cL z (some (.exit id,⟨t,sz,H⟩)))=_;unfold cL;simp only[A,cond_false];exact E⟩
theorem io{n:Nat}{s:St}: ∀k:List Fr,runK P G K n k (some (.ret,s))=some (.ret,s)
 | []=>rfl
 | .seq _::k=>io k
 | .block _::k=>io k
theorem ah(h:Q .ret f H):WK P G K sz .ret k f H Q:=⟨fun t z=>⟨0,.ret,⟨t,sz,H⟩,io k,by rw[z];exact h⟩⟩
theorem cr{x:Operand}{a b:Code}{v:Bool}(Y:dF f x= .bool v)(U:bh G x=true)(V:v=true->WK P G K sz a k f H Q)(T:v=false->WK P G K sz b k f H Q):WK P G K sz (.cond x a b) k f H Q:=⟨fun t E=>by
 have h: ∀n,jM P G K (n+1) (.cond x a b) ⟨t,sz,H⟩=bif v then jM P G K (n+1) a ⟨t,sz,H⟩ else jM P G K (n+1) b ⟨t,sz,H⟩:=by intro n;show(bif bh G x then jN (cT t x) _ _ else none)=_;rw[U,ek,E,Y];rfl
 cases v with
 |true=>
  obtain⟨n,e,O,z,A⟩:=(V rfl).out t E
  exact⟨n,e,O,by rw[h];exact z,A⟩
 |false=>
  obtain⟨n,e,O,z,A⟩:=(T rfl).out t E
  exact⟨n,e,O,by rw[h];exact z,A⟩⟩
theorem wk_true{x:Operand}{a b:Code}{v:Bool}(E:dF f x= .bool v)(A:v=true)(z:bh G x=true)(h:WK P G K sz a k f H Q):WK P G K sz (.cond x a b) k f H Q:=
 cr E z (fun _=>h) (fun e=>by rw[A]at e;cases e)
theorem jX{x:Operand}{a b:Code}{v:Bool}(E:dF f x= .bool v)(A:v=false)(z:bh G x=true)(h:WK P G K sz b k f H Q):WK P G K sz (.cond x a b) k f H Q:=
 cr E z (fun e=>by rw[A]at e;cases e) (fun _=>h)
theorem aa{id:Nat}{ops:Array Oper}(h:WO P G K sz ops ops.toList k f H Q):WK P G K sz (.region id ops false) k f H Q:=⟨h.out⟩
theorem ay{ops:Array Oper}(h:WK P G K sz .skip k f H Q):WO P G K sz ops [] k f H Q:=⟨h.out⟩
theorem aN(l:List (Nat×Value))(z:aX f l)(h: ∀g,WK P G K sz c k (jZ g l) H Q):WK P G K sz c k f H Q:=by have:=h f;rwa [gf z]at this
structure AP(P:Program)(ρ:Operand->Value)(o:Oper)(H:Heap)(r:AN×Heap):Prop where
 eq:aop P ρ o H=some r
def dstOK(d:Option Tmp)(sz:Nat):Bool:=match d with
 |some d=>Nat.ble (d+1) sz
 |none=>true
theorem gX{s:St}{d:Option Tmp}{v:Value}(A:dstOK d s.size=true): ∃z,s.put d v=some {s with tmps:=z}/\cE z=updO (cE s.tmps) d v:=by
 unfold St.put;cases d with
 |none=>exact⟨s.tmps,rfl,rfl⟩
 |some d=>
  have h:Nat.ble (d+1) s.size=true:=A
  simp only[h,cond_true]
  exact⟨lset s.tmps d v,rfl,lget_lset_fn _ _ _⟩
section
variable {ops:Array Oper} {o:Oper} {os:List Oper} {v:Value} {H1:Heap}
theorem j1{t:Tr Value}(T:o.guard=none)(U:o.op.operands.toList.all (bh G)=true)(E:aop P (dF (cE t)) o H=some (.val v,H1))(O:dstOK o.dst sz=true):
  ∃h,(∀cf,step P G cf ops o ⟨t,sz,H⟩=some ⟨h,sz,H1⟩)/\cE h=updO (cE t) o.dst v:=by
 obtain⟨h,z,A⟩:=gX (s:=⟨t,sz,H1⟩) (v:=v) O
 refine⟨h,fun cf=>?_,A⟩
 unfold step aY
 simp only[T,cond_true,U,ek,E]
 exact z
theorem step_skip{t:Tr Value}(T:o.guard=none)(U:o.op.operands.toList.all (bh G)=true)(E:aop P (dF (cE t)) o H=some (.skip,H1))(O:dstOK o.dst sz=true):
  ∃h,(∀cf,step P G cf ops o ⟨t,sz,H⟩=some ⟨h,sz,H1⟩)/\cE h=updO (cE t) o.dst undef:=by
 obtain⟨h,z,A⟩:=gX (s:=⟨t,sz,H1⟩) (v:=undef) O
 refine⟨h,fun cf=>?_,A⟩
 unfold step aY
 simp only[T,cond_true,U,ek,E]
 exact z
theorem ad{d:Tmp}{op:Op}{ty:TypeId}{pos:String}{af:Array Edge}(U:AP P (dF f) ⟨some d,op,ty,pos,af,none⟩ H (.val v,H1))(Y:op.operands.toList.all (bh G)=true)(V:Nat.ble (d+1) sz=true)
  (h:WO P G K sz ops os k (upd f d v) H1 Q):WO P G K sz ops (⟨some d,op,ty,pos,af,none⟩::os) k f H Q:=⟨fun t z=>by
 obtain⟨t',A,E⟩:=j1 (P:=P) (G:=G) (ops:=ops) (t:=t) (o:=⟨some d,op,ty,pos,af,none⟩) rfl Y (by rw[z];exact U.eq) V
 obtain⟨n,e,Z,O,T⟩:=h.out t' (by rw[E,z];rfl)
 refine⟨n,e,Z,?_,T⟩
 rw[bK,A]
 exact O⟩
theorem wo_skip{op:Op}{ty:TypeId}{pos:String}{af:Array Edge}(U:AP P (dF f) ⟨none,op,ty,pos,af,none⟩ H (.skip,H1))(V:op.operands.toList.all (bh G)=true)
  (h:WO P G K sz ops os k f H1 Q):WO P G K sz ops (⟨none,op,ty,pos,af,none⟩::os) k f H Q:=⟨fun t z=>by
 obtain⟨Z,A,E⟩:=step_skip (P:=P) (G:=G) (ops:=ops) (t:=t) (sz:=sz) (o:=⟨none,op,ty,pos,af,none⟩) rfl V (by rw[z];exact U.eq) rfl
 obtain⟨n,e,Y,O,T⟩:=h.out Z (by rw[E,z];rfl)
 refine⟨n,e,Y,?_,T⟩
 rw[bK,A]
 exact O⟩
theorem wo_callG{d:Option Tmp}{op:Op}{ty:TypeId}{pos:String}{af:Array Edge}{g:FuncId}{args:List Value}{R:Value->Heap->Prop}(ha:AP P (dF f) ⟨d,op,ty,pos,af,none⟩ H (.enter g args,H1))(ho:op.operands.toList.all (bh G)=true)(hd:dstOK d sz=true)
  (hc:C P G K g args H1 R) (h: ∀v z,R v z->WO P G K sz ops os k (updO f d v) z Q):WO P G K sz ops (⟨d,op,ty,pos,af,none⟩::os) k f H Q:=⟨fun t Z=>by
 obtain⟨E,v,z,V,hr⟩:=hc.out
 have h0:=h v z hr
 obtain⟨U,h1,h2⟩:=gX (s:=⟨t,sz,z⟩) (v:=v) hd
 obtain⟨A,e,s',h3,h4⟩:=h0.out U (by rw[h2,Z])
 refine⟨Nat.max E A,e,s',?_,h4⟩
 have Y:step P G (call P G K (Nat.max E A)) ops ⟨d,op,ty,pos,af,none⟩ ⟨t,sz,H⟩=some ⟨U,sz,z⟩:=by unfold step aY;simp only[cond_true,ho,ek,Z,ha.eq,eA (a1b E A) _ _ _ _ V];exact h1
 rw[bK,Y]
 refine dA (a12 (a0K E A)) k _ _ (fun x O=>?_) _ h3
 simp only
 cases T:eO P G (call P G K A) ops os ⟨U,sz,z⟩ with
 |none=>rw[T]at O;cases O
 |some y=>rw[fJ (eA (a0K E A)) _ _ _ T];rw[T]at O;exact O⟩
theorem wo_call{d:Tmp}{op:Op}{ty:TypeId}{pos:String}{af:Array Edge}{g:FuncId}{args:List Value}{R:Value->Heap->Prop}(A:AP P (dF f) ⟨some d,op,ty,pos,af,none⟩ H (.enter g args,H1))(O:op.operands.toList.all (bh G)=true)(E:Nat.ble (d+1) sz=true)
  (hc:C P G K g args H1 R) (h: ∀v z,R v z->WO P G K sz ops os k (upd f d v) z Q):WO P G K sz ops (⟨some d,op,ty,pos,af,none⟩::os) k f H Q:=wo_callG A O E hc h
end
theorem aA{b:Code}(I:Nat->Fn->Heap->Prop)(m:Nat)(U:I m f H)
  (step: ∀m f H,I m f H->(∀z h H',z<m->I z h H'->WK P G K sz (.loop b) k h H' Q)->WK P G K sz b (.seq (.loop b)::k) f H Q):WK P G K sz (.loop b) k f H Q:=by
 have T: ∀n m,m<=n->∀f H,I m f H->WK P G K sz (.loop b) k f H Q:=by
  intro n;induction n with
  |zero=>
   intro m V f H A
   refine bj (step m f H A fun z h H' O _=>?_)
   omega
  |succ n ih=>
   intro m V f H A
   exact bj (step m f H A fun z h H' O E=>ih z (by omega) h H' E)
 exact T m m (a05 _) f H U
def bU(P:Program)(f:Fn)(H:Heap):List ResultVar->Option (List Value)
 | []=>some []
 | .tmp t::rs=>
  match bU P f H rs with
  |some l=>some (f t::l)
  |none=>none
 | .cell a t::rs=>
  match f a with
  | .pointer (some p)=>
   match H.loadV P t p,bU P f H rs with
   |some v,some l=>some (v::l)
   |_,_=>none
  |_=>none
theorem fM(s:St): ∀rs,cz P s rs=bU P (cE s.tmps) s.heap rs
 | []=>rfl
 | .tmp t::rs=>by unfold cz bU;rw[fM s rs];cases bU P (cE s.tmps) s.heap rs<;>rfl
 | .cell a t::rs=>by
  unfold cz bU;cases cE s.tmps a with
  |pointer p=>cases p with
   |none=>rfl
   |some p=>simp only[fM s rs];cases s.heap.loadV P t p<;>cases bU P (cE s.tmps) s.heap rs<;>rfl
  |_=>rfl
theorem aD{z:FuncId}{fn:Func}{args:List Value}{R:Value->Heap->Prop}(O:P.funcs[z]?=some fn)(hc:fn.body=some c)(Y:K z args H=none)
  (h:WK P G K (Nat.max args.length fn.ntmps) c [] (argF args) H fun e U H'=>(e= .normal\/e= .ret)/\∃l,bU P U H' fn.results.toList=some l/\R (dT l) H'):C P G K z args H R:=by
 obtain⟨n,e,T,V,Z,l,A,hr⟩:=h.out (ep 0 args .nil) (argTmps_fn args)
 refine⟨n+1,dT l,T.heap,?_,hr⟩
 show jh K (kC P (jM P G K (n+1))) z args H=_
 have E:jM P G K (n+1) c ⟨ep 0 args .nil,Nat.max args.length fn.ntmps,H⟩=some (e,T):=V
 unfold jh kC
 rw[Y]
 simp only[O,hc,E]
 rw[←fM]at A
 rcases Z with rfl|rfl
 ·simp only[A]
 simp only[A]
theorem c_known{z:FuncId}{args:List Value}{v:Value}{R:Value->Heap->Prop}(A:K z args H=some v)(h:R v H):C P G K z args H R:=
 ⟨0,v,H,by show jh K _ z args H=_;unfold jh;rw[A],h⟩
end
end Go.R
end
noncomputable section
namespace Go.R
section
variable {P:Program} {ρ:Operand->Value} {d:Option Tmp} {ty:TypeId} {pos:String} {af:Array Edge} {gd:Option (Nat×Bool)} {H:Heap}
theorem ap_move{x:Operand}{v:Value}(h:ρ x=v):AP P ρ ⟨d,.move x,ty,pos,af,gd⟩ H (.val v,H):=by subst h;exact⟨rfl⟩
theorem jj{x:Operand}{v:Value}(h:ρ x=v):AP P ρ ⟨d,.assign x,ty,pos,af,gd⟩ H (.val v,H):=by subst h;exact⟨rfl⟩
theorem hN{op:BinOp}{t yt:TypeId}{x y:Operand}{k h:IntKind}{a b:Int}{v:Value}(A:ρ x= .int k a)(E:ρ y= .int h b)
  (z:(bif ja op then shBin op k a b else bif fE k h then jG op k a b else none)=some v):AP P ρ ⟨d,.binOp op t x y yt,ty,pos,af,gd⟩ H (.val v,H):=by
 refine⟨?_⟩
 show aBin P ρ _ op t (ρ x) y H=_
 rw[A]
 show binInt op k a (ρ y) H=_
 rw[E]
 show ovl _ H=_
 rw[z];rfl
theorem ap_str{op:BinOp}{t yt:TypeId}{x y:Operand}{a b:ByteArray}{v:Value}(z:ρ x= .string a)(A:ρ y= .string b)(h:strOp op a b=some v):
  AP P ρ ⟨d,.binOp op t x y yt,ty,pos,af,gd⟩ H (.val v,H):=by
 refine⟨?_⟩
 show aBin P ρ _ op t (ρ x) y H=_
 rw[z]
 show binStr op a (ρ y) H=_
 rw[A]
 show ovl _ H=_
 rw[h];rfl
theorem bH{t:TypeId}{x:Operand}{b:Bool}(h:ρ x= .bool b):AP P ρ ⟨d,.unOp .not t x,ty,pos,af,gd⟩ H (.val (.bool (!b)),H):=by refine⟨?_⟩;show aUn P ρ _ .not (ρ x) H=_;rw[h];rfl
theorem ap_conv{s t:TypeId}{x:Operand}{k h:IntKind}{n:Int}(A:ρ x= .int k n){u:TypeDesc}(hs:P.underlying s=some u)(z:P.underlying t=some (.int h)):
  AP P ρ ⟨d,.convert s t x,ty,pos,af,gd⟩ H (.val (.int h (h.wrap n)),H):=by
 refine⟨?_⟩
 show fw P ρ _ s t (ρ x) H=_
 rw[A]
 show ovl (kw P s t n) H=_
 unfold kw
 rw[hs,z];rfl
theorem ap_neg{t:TypeId}{x:Operand}{k:IntKind}{n:Int}(h:ρ x= .int k n):AP P ρ ⟨d,.unOp .neg t x,ty,pos,af,gd⟩ H (.val (.int k (k.wrap (0-n))),H):=by
 refine⟨?_⟩;show aUn P ρ _ .neg (ρ x) H=_;rw[h];show bg P ρ _ H=_;unfold bg;have z:((Op.unOp .neg t x).operands.toList.all fun x=>gY (ρ x))=true:=by simp[Op.operands,h,gY,cJ]
 simp only[z,cond_true];show(match aw P (execOp ρ ⟨d,.unOp .neg t x,ty,pos,af,gd⟩) with|some (.value v)=>bif noA2 v then some (AN.val v,H) else none|_=>none)=_;have A:aw P (execOp ρ ⟨d,.unOp .neg t x,ty,pos,af,gd⟩)=some (.value (.int k (k.wrap (0-n)))):=by unfold execOp;simp only[h];rfl
 rw[A];rfl
theorem ap_cpl{t:TypeId}{x:Operand}{k:IntKind}{n:Int}(h:ρ x= .int k n):AP P ρ ⟨d,.unOp .xor t x,ty,pos,af,gd⟩ H (.val (.int k (bits .xor k (if k.signed then-1 else k.max) n)),H):=by
 refine⟨?_⟩;show aUn P ρ _ .xor (ρ x) H=_;rw[h];show bg P ρ _ H=_;unfold bg;have z:((Op.unOp .xor t x).operands.toList.all fun x=>gY (ρ x))=true:=by simp[Op.operands,h,gY,cJ]
 simp only[z,cond_true];have A:aw P (execOp ρ ⟨d,.unOp .xor t x,ty,pos,af,gd⟩)=some (.value (.int k (bits .xor k (if k.signed then-1 else k.max) n))):=by unfold execOp;simp only[h];rfl
 rw[A];rfl
theorem ap_quo{t yt:TypeId}{x y:Operand}{k h:IntKind}{a b:Int}(E:ρ x= .int k a)(O:ρ y= .int h b)(A:fE k h=true)(z:(b==0)=false):
  AP P ρ ⟨d,.binOp .quo t x y yt,ty,pos,af,gd⟩ H (.val (.int k (k.wrap (a.tdiv b))),H):=
 hN E O (by show(bif fE k h then(bif b==0 then none else some (.int k (k.wrap (a.tdiv b)))) else none:Option Value)=_;rw[A,z];rfl)
theorem ap_shl{t yt:TypeId}{x y:Operand}{k E:IntKind}{a b:Int}(z:ρ x= .int k a)(A:ρ y= .int E b)(h:0<=b):
  AP P ρ ⟨d,.binOp .shl t x y yt,ty,pos,af,gd⟩ H (.val (.int k (k.wrap (a *2^(Nat.min b.toNat k.bits)))),H):=by
 refine⟨?_⟩
 obtain⟨n,rfl⟩:=a0O h
 exact(hN z A rfl).eq
theorem ap_shr{t yt:TypeId}{x y:Operand}{k E:IntKind}{a b:Int}(z:ρ x= .int k a)(A:ρ y= .int E b)(h:0<=b):
  AP P ρ ⟨d,.binOp .shr t x y yt,ty,pos,af,gd⟩ H (.val (.int k (a.fdiv (2^(Nat.min b.toNat k.bits)))),H):=by
 refine⟨?_⟩
 obtain⟨n,rfl⟩:=a0O h
 exact(hN z A rfl).eq
theorem kI{t:TypeId}{n sz:Nat}{z:List Value}{h:Array (Nat×Operand)}{cells:Array Value}(hs:ev P t=some (sz,z))(E:Nat.ble (n *sz) 16777216=true)
  (A:Instr.fill (fun i=>some (i *sz,sz)) ⟨dj n z⟩ (eP (fun p=>(p.1,ρ p.2)) h.toList)=some cells):
  AP P ρ ⟨d,.buildSlice t n h,ty,pos,af,gd⟩ H (.val (.slice (some ⟨H.next,0,none⟩) n n),H.push (.cells cells.toList none false)):=by
 refine⟨?_⟩
 show bp P t n (eP (fun p=>(p.1,ρ p.2)) h.toList) H=_
 unfold bp
 rw[hs]
 simp only[E,cond_true,A]
 rfl
theorem hO{t e:TypeId}{x i:Operand}{b o n k sz:Nat}{U:IntKind}{j:Int}(T:ρ x= .slice (some ⟨b,o,none⟩) n k)(hi:ρ i= .int U j)(O:P.underlying t=some (.slice e))(hs:ei P e=some sz)
  (h:0<=j) (V:j<n) (E:n<=k):AP P ρ ⟨d,.indexAddr t x i,ty,pos,af,gd⟩ H (.val (.pointer (some ⟨b,o+j.toNat *sz,none⟩)),H):=by
 refine⟨?_⟩
 obtain⟨m,rfl⟩:=a0O h
 show ovl (cS P t (ρ x) (ρ i)) H=_
 rw[T,hi]
 unfold cS
 rw[O]
 show ovl (match ei P e with|some sz=>bif Nat.ble (m+1) n&&Nat.ble n k then some (.pointer (some ⟨b,o+m *sz,none⟩)) else none|none=>none) H=_
 rw[hs]
 have z:Nat.ble (m+1) n=true:=a0k (by omega)
 have A:Nat.ble n k=true:=a0k E
 simp only[z,A,a19,cond_true]
 rfl
theorem ap_load1{t:TypeId}{x:Operand}{b o:Nat}{cs:List Value}{h:Option Nat}{T:Bool}{v:Value}(O:ρ x= .pointer (some ⟨b,o,none⟩))(z:fC P t=some false)(A:H.get b=some (.cells cs h T))(E:cs[o]?=some v):
  AP P ρ ⟨d,.load t x,ty,pos,af,gd⟩ H (.val v,H):=by
 refine⟨?_⟩
 show dM P t (ρ x) H=_
 rw[O]
 show ovl (H.loadV P t ⟨b,o,none⟩) H=_
 unfold Heap.loadV
 rw[z]
 simp only
 unfold Heap.cellAt
 simp only[A,gk,E]
 rfl
theorem ap_loadN{t:TypeId}{x:Operand}{b o n:Nat}{cs l:List Value}{h:Option Nat}{U:Bool}(T:ρ x= .pointer (some ⟨b,o,none⟩))(z:fC P t=some true)(hs:ei P t=some n)(A:H.get b=some (.cells cs h U))(E:(cs.drop o).take n=l)(O:l.length=n):
  AP P ρ ⟨d,.load t x,ty,pos,af,gd⟩ H (.val (.agg ⟨l⟩),H):=by
 refine⟨?_⟩
 show dM P t (ρ x) H=_
 rw[T]
 show ovl (H.loadV P t ⟨b,o,none⟩) H=_
 unfold Heap.loadV
 rw[z]
 simp only[hs]
 unfold Heap.loadN
 simp only[A,bT,cn,bC,E,O,a0I,cond_true]
 rfl
structure Keeps(H H':Heap):Prop where
 next:H.next<=H'.next
 get: ∀b,b<H.next->H'.get b=H.get b
 log: ∃d,H'.log=d++H.log/\∀b,b∈d->H.next<=b
theorem appL_nil(l:List Value):appL l []=l:=by rw[dr];simp
theorem bk{args:Array Operand}{h:Array TypeId}{i:FuncId}{fn:Func}{f:Fn}{l:List Value}(A:P.funcs[i]?=some fn)(z:(fn.body.isSome&& !(fn.name== "runtime.NumGoroutine"))=true)(E:eP (dF f) args.toList=l):
  AP P (dF f) ⟨d,.call ⟨.value (.func i),args,h⟩,ty,pos,af,gd⟩ H (.enter i l,H):=by
 refine⟨?_⟩
 show fk (ga P (.func (.func i) #[] #[]) (eP (dF f) args.toList)) H=_
 unfold ga
 simp only[A,z,cond_true,E]
 show fk (some (.enter i (appL [] (appL l [])))) H=_
 rw[appL_nil]
 rfl
end
end Go.R
end
noncomputable section
namespace Go.R
def fb:Inf->Bool
 | .x w=>isNilL w
 |_=>true
def vkAt(ops:Array Oper)(j:Nat):Bool:=match ops[j]? with
 |some o=>aV o.op
 |none=>false
def FsOK(ops:Array Oper)(wr:List Nat)(i:Nat)(fs:List (Nat×Inf)):Prop:= ∀j g,(j,g)∈fs->j<i/\(fb g=true\/j∈wr)/\(vkAt ops j=true->g= .v)
theorem kG: ∀{f g:Inf},fb f=true->fb g=true->dO f g=true
 | .v,_,_,_=>rfl
 | .a b,.v,_,_=>rfl
 | .a b,.a c,_,_=>rfl
 | .a b,.l c,_,_=>rfl
 | .a b,.x w,_,h=>by cases w with
  |nil=>rfl
  |cons _ _=>cases h
 | .l b,.v,_,_=>rfl
 | .l b,.a c,_,_=>rfl
 | .l b,.l c,_,_=>rfl
 | .l b,.x w,_,h=>by cases w with
  |nil=>rfl
  |cons _ _=>cases h
 | .x w,.v,_,_=>rfl
 | .x w,.a c,_,_=>rfl
 | .x w,.l c,h,_=>by cases w with
  |nil=>rfl
  |cons _ _=>cases h
 | .x w,.x u,h,h'=>by simp only[fb]at h h';simp only[dO,h,h',a19]
theorem below_nil{n:Nat}: ∀{l:List Nat},(∀b,b∈l->n<=b)->dg n l=[]
 | [],_=>rfl
 |c::l,h=>by have z:Nat.ble n c=true:=a0k (h c (List.mem_cons_self ..));unfold dg;rw[z];exact below_nil fun b A=>h b (a0r _ A)
theorem infOf_benign{ops:Array Oper}{o:Oper}{s:St}{n:Nat}{log:List Nat}(h:dg n log=[]):fb (dU ops o s n log)=true:=by
 unfold dU;rw[h];cases (!aY ops o s.tmps||aV o.op) with
 |true=>rfl
 |false=>
  simp only[cond_false]
  cases ea o.op with
  |true=>rfl
  |false=>
   simp only[cond_false]
   split
   ·split<;>rfl
   ·split<;>rfl
   ·split<;>rfl
   rfl
theorem infOf_value{ops:Array Oper}{o:Oper}{s:St}{n:Nat}{log:List Nat}(h:aV o.op=true):dU ops o s n log= .v:=by unfold dU;rw[h,Bool.or_true];rfl
theorem hP{l:List Nat}{i:Nat}{f:Inf}: ∀{fs:List (Nat×Inf)},(∀j g,(j,g)∈fs->(bd l j i||dO g f)=true)->bR l i f fs=true
 | [],_=>rfl
 |(j,g)::fs,h=>by unfold bR;rw[h j g (List.mem_cons_self ..),hP fun j g z=>h j g (a0r _ z)];rfl
section
variable {P:Program} {G:Nat} {K:bx} {sz:Nat} {Q:Ex->Fn->Heap->Prop} {ops:Array Oper} {wr:List Nat} {i:Nat} {os:List Oper} {k:List Fr} {f:Fn} {H H1:Heap} {v:Value}
 {d:Tmp} {op:Op} {ty:TypeId} {pos:String} {af:Array Edge}
structure WD(P:Program)(G:Nat)(K:bx)(sz:Nat)(ops:Array Oper)(wr:List Nat)(i:Nat)(os:List Oper)(k:List Fr)(f:Fn)(H:Heap)(Q:Ex->Fn->Heap->Prop):Prop where
 out: ∀t fs,cE t=f->FsOK ops wr i fs->∃n e s',runK P G K (n+1) k (dx (bf P G (call P G K n) ops i fs os ⟨t,sz,H⟩))=some (e,s')/\Q e (cE s'.tmps) s'.heap
end
end Go.R
end
noncomputable section
namespace Go.R
def ca(ops:Array Oper)(f:Fn)(j:Nat):Option Bool:=
 match (ops[j]?).bind (·.dst) with
 |some d=>
  match f d with
  | .bool b=>some b
  |_=>none
 |none=>none
theorem aop_guard{P:Program}{ρ:Operand->Value}{d:Option Tmp}{op:Op}{ty:TypeId}{pos:String}{af:Array Edge}(g h:Option (Nat×Bool))(H:Heap):
  aop P ρ ⟨d,op,ty,pos,af,g⟩ H=aop P ρ ⟨d,op,ty,pos,af,h⟩ H:=by
 cases op<;>rfl
section
variable {P:Program} {G:Nat} {K:bx} {sz:Nat} {Q:Ex->Fn->Heap->Prop} {ops:Array Oper} {wr:List Nat} {i j:Nat} {os:List Oper} {k:List Fr} {f:Fn} {H H1:Heap} {v want:Bool}
 {d:Option Tmp} {op:Op} {ty:TypeId} {pos:String} {af:Array Edge}
theorem ge{t:Tr Value}(z:cE t=f)(A:ca ops f j=some v)(o:Oper)(h:o.guard=some (j,want)):aY ops o t=(v==want):=by
 unfold aY;rw[h];have:jt ops t j=some v:=by rw[←A,←z];rfl
 simp only[this];cases v<;>cases want<;>rfl
theorem jx{cf:bY}{t:Tr Value}(A:cE t=f)(O:ca ops f j=some v)(E:v=want):
  step P G cf ops ⟨d,op,ty,pos,af,some (j,want)⟩ ⟨t,sz,H⟩=step P G cf ops ⟨d,op,ty,pos,af,none⟩ ⟨t,sz,H⟩:=by
 unfold step
 rw[ge A O _ rfl,E]
 have h:(want==want)=true:=by cases want<;>rfl
 have z:aY ops ⟨d,op,ty,pos,af,none⟩ t=true:=rfl
 simp only[h,z,cond_true,aop_guard (some (j,want)) none]
theorem j3{cf:bY}{t:Tr Value}(z:cE t=f)(E:ca ops f j=some v)(A:v= !want):
  step P G cf ops ⟨d,op,ty,pos,af,some (j,want)⟩ ⟨t,sz,H⟩=St.put ⟨t,sz,H⟩ d undef:=by
 unfold step
 rw[ge z E _ rfl,A]
 have h:((!want)==want)=false:=by cases want<;>rfl
 simp only[h,cond_false]
theorem aC(T:ca ops f j=some v)(O:v=want)(h:WO P G K sz ops (⟨d,op,ty,pos,af,none⟩::os) k f H Q):WO P G K sz ops (⟨d,op,ty,pos,af,some (j,want)⟩::os) k f H Q:=⟨fun t A=>by
 obtain⟨n,e,U,z,E⟩:=h.out t A;refine⟨n,e,U,?_,E⟩;rw[bK]at z⊢;rw[jx A T O];exact z⟩
theorem wo_gf{d:Tmp}(Y:ca ops f j=some v)(V:v= !want)(U:Nat.ble (d+1) sz=true)(h:WO P G K sz ops os k (upd f d undef) H Q):WO P G K sz ops (⟨some d,op,ty,pos,af,some (j,want)⟩::os) k f H Q:=⟨fun t z=>by
 obtain⟨t',O,T⟩:=gX (s:=⟨t,sz,H⟩) (d:=some d) (v:=undef) U;obtain⟨n,e,Z,A,E⟩:=h.out t' (by rw[T,z];rfl);refine⟨n,e,Z,?_,E⟩;rw[bK,j3 z Y V,O];exact A⟩
theorem bm{d:Tmp}(E:ca ops f j=some v)(A:v=false)(z:Nat.ble (d+1) sz=true)(h:WO P G K sz ops os k (upd f d undef) H Q):WO P G K sz ops (⟨some d,op,ty,pos,af,some (j,true)⟩::os) k f H Q:=wo_gf E A z h
theorem ag{d:Tmp}(E:ca ops f j=some v)(A:v=true)(z:Nat.ble (d+1) sz=true)(h:WO P G K sz ops os k (upd f d undef) H Q):WO P G K sz ops (⟨some d,op,ty,pos,af,some (j,false)⟩::os) k f H Q:=wo_gf E A z h
theorem cF{d:Tmp}(Z:ca ops f j=none)(V:Nat.ble (d+1) sz=true)(h:WO P G K sz ops os k (upd f d undef) H Q):WO P G K sz ops (⟨some d,op,ty,pos,af,some (j,want)⟩::os) k f H Q:=⟨fun t A=>by
 obtain⟨t',T,U⟩:=gX (s:=⟨t,sz,H⟩) (d:=some d) (v:=undef) V;obtain⟨n,e,s',E,O⟩:=h.out t' (by rw[U,A];rfl);refine⟨n,e,s',?_,O⟩;have Y:aY ops ⟨some d,op,ty,pos,af,some (j,want)⟩ t=false:=by
  unfold aY;have:jt ops t j=none:=by rw[←Z,←A];rfl
  simp only[this];cases want<;>rfl
 have z:step P G (call P G K n) ops ⟨some d,op,ty,pos,af,some (j,want)⟩ ⟨t,sz,H⟩=St.put ⟨t,sz,H⟩ (some d) undef:=by unfold step;simp only[Y,cond_false]
 rw[bK,z,T];exact E⟩
theorem dz{d:Tmp}(h:ca ops f j=some v)(E:Nat.ble (d+1) sz=true)(z:v=true->WO P G K sz ops (⟨some d,op,ty,pos,af,none⟩::os) k f H Q)(A:v=false->WO P G K sz ops os k (upd f d undef) H Q):
  WO P G K sz ops (⟨some d,op,ty,pos,af,some (j,true)⟩::os) k f H Q:=by
 cases v with
 |true=>exact aC h rfl (z rfl)
 |false=>exact wo_gf h rfl E (A rfl)
theorem cN{d:Tmp}(h:ca ops f j=some v)(E:Nat.ble (d+1) sz=true)(z:v=false->WO P G K sz ops (⟨some d,op,ty,pos,af,none⟩::os) k f H Q)(A:v=true->WO P G K sz ops os k (upd f d undef) H Q):
  WO P G K sz ops (⟨some d,op,ty,pos,af,some (j,false)⟩::os) k f H Q:=by
 cases v with
 |true=>exact wo_gf h rfl E (A rfl)
 |false=>exact aC h rfl (z rfl)
end
section
variable {P:Program} {ρ:Operand->Value} {d:Option Tmp} {ty:TypeId} {pos:String} {af:Array Edge} {gd:Option (Nat×Bool)} {H:Heap}
theorem ao{c a b:Operand}{t:Bool}{v:Value}(hc:ρ c= .bool t)(h:t=true)(z:ρ a=v):AP P ρ ⟨d,.pick c a b,ty,pos,af,gd⟩ H (.val v,H):=by refine⟨?_⟩;show eW ρ c a b H=_;unfold eW;rw[hc,h,←z];rfl
theorem au{c a b:Operand}{t:Bool}{v:Value}(hc:ρ c= .bool t)(h:t=false)(z:ρ b=v):AP P ρ ⟨d,.pick c a b,ty,pos,af,gd⟩ H (.val v,H):=by refine⟨?_⟩;show eW ρ c a b H=_;unfold eW;rw[hc,h,←z];rfl
def dD(op:BinOp)(t:TypeId)(x y:Operand)(a b:Bool):Sem Next:=
 ((eqGuard op t x y (.bool a) (.bool b))>>=fun _=>binOp op t (.bool a) (.bool b))>>=fun r=>Pure.pure (Next.value r)
theorem ap_boolEq{t yt:TypeId}{x y:Operand}{a b:Bool}(z:ρ x= .bool a)(A:ρ y= .bool b)(h: ∀a b:Bool,aw P (dD .eql t x y a b)=some (.value (.bool (a==b)))):AP P ρ ⟨d,.binOp .eql t x y yt,ty,pos,af,gd⟩ H (.val (.bool (a==b)),H):=by
 refine⟨?_⟩;show aBin P ρ _ .eql t (ρ x) y H=_;rw[z];show bg P ρ _ H=_;unfold bg;have E:((Op.binOp .eql t x y yt).operands.toList.all fun x=>gY (ρ x))=true:=by simp[Op.operands,z,A,gY,cJ]
 simp only[E,cond_true];have O:aw P (execOp ρ ⟨d,.binOp .eql t x y yt,ty,pos,af,gd⟩)=some (.value (.bool (a==b))):=by rw[←h a b];unfold execOp dD;simp only[z,A]
 rw[O];rfl
end
end Go.R
end
noncomputable section
namespace Go.R
open Go.RowKit
def KX(ex:FuncId):bx:=fun f args _=>match args with
 | []=>bif Nat.beq f ex then some (.bool true) else none
 |_=>none
theorem kx_ok{P:Program}{ex:FuncId}(h: ∀w,Calls P ex #[] w fun e w'=>e= .returned (.bool true)/\Below w.heap.size w w'):fg P 0 (KX ex):=by
 intro f args H v z;unfold KX at z;split at z
 ·cases E:Nat.beq f ex with
  |false=>rw[E]at z;cases z
  |true=>
   rw[E]at z
   simp only[cond_true,a00]at z
   subst z
   have:=a04 E
   subst this
   refine⟨rfl,rfl,fun μ A w hc _ _=>?_⟩
   have:A= #[]:=by cases A;simp_all
   subst this
   exact h w
 cases z
end Go.R
end
noncomputable section
namespace Go.R
abbrev Fz:=Nat->Option AObj
abbrev Fp:=List (Nat×AObj)
def Fz.le(F F':Fz):Prop:= ∀b o,F b=some o->F' b=some o
theorem Fz.le_refl(F:Fz):F.le F:=fun _ _ h=>h
theorem Fz.le_trans{A B C:Fz}(h:A.le B)(k:B.le C):A.le C:=fun b o x=>k b o (h b o x)
def Fz.add(F:Fz)(b:Nat)(o:AObj):Fz:=fun j=>bif Nat.beq b j then some o else F j
def Fz.addL(F:Fz):Fp->Fz
 | []=>F
 |(b,o)::p=>(F.addL p).add b o
abbrev in64(n:Int):Prop:= -9223372036854775808<=n/\n<9223372036854775808
structure Base where
 n0:Nat
 W:List Nat
 lg:List Nat
def Base.of(H:Heap)(W:List Nat):Base:=⟨H.next,W,H.log⟩
structure HS(B:Base)(F:Fz)(H:Heap)(L R:List Fp):Prop where
 fz: ∀b o,F b=some o->H.get b=some o/\b<H.next
 own: ∀p,p∈L\/p∈R->∀b o,(b,o)∈p->H.get b=some o/\b<H.next/\F b=none
 nd:((L++R).flatten.map Prod.fst).Nodup
 n0:B.n0<=H.next
 log: ∀b,b∈H.log->b∈B.lg\/B.n0<=b\/b∈B.W
 mine: ∀p,p∈L->∀b o,(b,o)∈p->B.n0<=b\/b∈B.W
theorem gt{α:Type}: ∀(L:List (List α)) (i:Nat) (p:List α),L[i]?=some p->∃A C,L=A++p::C/\∀q,L.set i q=A++q::C
 | [],_,_,h=>by simp at h
 |x::L,0,p,h=>by simp at h;subst h;exact⟨[],L,rfl,fun _=>rfl⟩
 |x::L,i+1,p,h=>by obtain⟨A,C,z,E⟩:=gt L i p (by simpa using h);exact⟨x::A,C,by rw[z];rfl,fun q=>by rw[List.set_cons_succ,E];rfl⟩
theorem kp{α:Type}(L:List (List α))(i:Nat)(p q:List α)(h:L[i]?=some p): ∃A C,L=A++p::C/\L.set i q=A++q::C:=by obtain⟨A,C,z,E⟩:=gt L i p h;exact⟨A,C,z,E q⟩
section
variable {B:Base} {F F':Fz} {H H':Heap} {L R:List Fp}
theorem HS.relog(h:HS B F H L R){l:List Nat}(z: ∀b,b∈l->b∈B.lg\/B.n0<=b\/b∈B.W):HS B F {H with log:=l} L R:=⟨h.fz,h.own,h.nd,h.n0,z,h.mine⟩
theorem HS.log0(h:HS B F H L R):HS B F {H with log:=[]} L R:=h.relog fun b z=>by simp at z
theorem HS.turn(h:HS B F H L R){i:Nat}{p q:Fp}(hi:L[i]?=some p)(hn:H.next<=H'.next)
  (a9: ∀b,b<H.next->(∀o,(b,o)∉p)->H'.get b=H.get b)
  (hq: ∀b o,(b,o)∈q->H'.get b=some o/\b<H'.next/\(H.next<=b\/∃U,(b,U)∈p)) (b9:(q.map Prod.fst).Nodup)
  (b7: ∀b,b∈H'.log->b∈H.log\/H.next<=b\/∃o,(b,o)∈p):HS B F H' (L.set i q) R:=by
 obtain⟨A,C,e1,e2⟩:=kp L i p q hi
 have a2:p∈L:=a0h hi
 have T:=h.nd
 rw[e1]at T
 have ba: ∀x,x∈L.set i q\/x∈R->x=q\/((x∈L\/x∈R)/\∀b o U,(b,o)∈x->(b,U)∉p):=by
  intro x E;have bb: ∀x,x∈A\/x∈C\/x∈R->∀b o U,(b,o)∈x->(b,U)∉p:=by
   intro x E b o U O al;simp only[a0s,a0E,a0L,a0z,a0V,a1c,a0b]at T;have an:b∈p.map Prod.fst:=a0l.2 ⟨_,al,rfl⟩;have b5:b∈x.map Prod.fst:=a0l.2 ⟨_,O,rfl⟩;rcases E with E|E|E
   ·have:b∈A.flatten.map Prod.fst:=a0l.2 ⟨(b,o),a0F.2 ⟨x,E,O⟩,rfl⟩;exact T.2.2 b this b (.inl an) rfl
   ·have:b∈C.flatten.map Prod.fst:=a0l.2 ⟨(b,o),a0F.2 ⟨x,E,O⟩,rfl⟩;exact T.2.1.2.2 b an b (.inl this) rfl
   have:b∈R.flatten.map Prod.fst:=a0l.2 ⟨(b,o),a0F.2 ⟨x,E,O⟩,rfl⟩;exact T.2.1.2.2 b an b (.inr this) rfl
  rw[e2]at E;rcases E with E|E
  ·rcases a0b.1 E with E|E
   ·exact .inr ⟨.inl (by rw[e1];exact a0b.2 (.inl E)),bb x (.inl E)⟩
   rcases a0g.1 E with rfl|E
   ·exact .inl rfl
   exact .inr ⟨.inl (by rw[e1];exact a0b.2 (.inr (a0r _ E))),bb x (.inr (.inl E))⟩
  exact .inr ⟨.inr E,bb x (.inr (.inr E))⟩
 have b2: ∀b o,(b,o)∈p->F b=none/\b<H.next:=fun b o O=>⟨(h.own p (.inl a2) b o O).2.2,(h.own p (.inl a2) b o O).2.1⟩
 refine⟨fun b o O=>?_,fun x E b o O=>?_,?_,a0j h.n0 hn,fun b O=>?_,fun x E b o O=>?_⟩
 ·obtain⟨V,h2⟩:=h.fz b o O;refine⟨?_,a0H h2 hn⟩;rw[a9 b h2 fun U a1=>by rw[(b2 b U a1).1]at O;cases O];exact V
 ·rcases ba x E with rfl|⟨b5,hne⟩
  ·obtain⟨V,h2,Y⟩:=hq b o O;refine⟨V,h2,?_⟩;rcases Y with Y|⟨U,a1⟩
   ·cases hf:F b with
    |none=>rfl
    |some z=>have:=(h.fz b z hf).2;omega
   exact(b2 b U a1).1
  obtain⟨V,h2,Y⟩:=h.own x b5 b o O;exact⟨by rw[a9 b h2 fun U=>hne b o U O];exact V,a0H h2 hn,Y⟩
 ·rw[e2];have b3: ∀x,x∈A\/x∈C\/x∈R->∀b,b∈x.map Prod.fst->b<H.next/\∀U,(b,U)∉p:=by
   intro x E b O;obtain⟨⟨Z,o⟩,al,rfl⟩:=a0l.1 O;have b6:x∈L.set i q\/x∈R:=by
    rw[e2];rcases E with E|E|E
    ·exact .inl (a0b.2 (.inl E))
    ·exact .inl (a0b.2 (.inr (a0r _ E)))
    exact .inr E
   have cb:x∈L\/x∈R:=by
    rw[e1];rcases E with E|E|E
    ·exact .inl (a0b.2 (.inl E))
    ·exact .inl (a0b.2 (.inr (a0r _ E)))
    exact .inr E
   refine⟨(h.own x cb Z o al).2.1,fun U a1=>?_⟩;have a0:=T;simp only[a0s,a0E,a0L,a0z,a0V,a1c,a0b]at a0;have an:Z∈p.map Prod.fst:=a0l.2 ⟨_,a1,rfl⟩;rcases E with E|E|E
   ·exact a0.2.2 Z (a0l.2 ⟨(Z,o),a0F.2 ⟨x,E,al⟩,rfl⟩) Z (.inl an) rfl
   ·exact a0.2.1.2.2 Z an Z (.inl (a0l.2 ⟨(Z,o),a0F.2 ⟨x,E,al⟩,rfl⟩)) rfl
   exact a0.2.1.2.2 Z an Z (.inr (a0l.2 ⟨(Z,o),a0F.2 ⟨x,E,al⟩,rfl⟩)) rfl
  have a8: ∀(X:List Fp) b,b∈X.flatten.map Prod.fst->∃x,x∈X/\b∈x.map Prod.fst:=by intro X b O;obtain⟨y,hy,rfl⟩:=a0l.1 O;obtain⟨x,E,cc⟩:=a0F.1 hy;exact⟨x,E,a0l.2 ⟨y,cc,rfl⟩⟩
  have b4: ∀b,b∈q.map Prod.fst->H.next<=b\/∃U,(b,U)∈p:=by intro b O;obtain⟨⟨Z,o⟩,al,rfl⟩:=a0l.1 O;exact(hq Z o al).2.2
  simp only[a0s,a0E,a0L,a0z,a0V,a1c,a0b]at T⊢;obtain⟨n1,⟨n2,⟨n3,n4,n5⟩,n6⟩,n7⟩:=T;refine⟨n1,⟨b9,⟨n3,n4,n5⟩,fun a ha b O a4=>?_⟩,fun a ha b O a4=>?_⟩
  ·subst a4;have E: ∃x,(x∈A\/x∈C\/x∈R)/\a∈x.map Prod.fst:=by
    rcases O with O|O
    ·obtain⟨x,E,V⟩:=a8 C a O;exact⟨x,.inr (.inl E),V⟩
    obtain⟨x,E,V⟩:=a8 R a O;exact⟨x,.inr (.inr E),V⟩
   obtain⟨x,E,V⟩:=E;obtain⟨h2,Y⟩:=b3 x E a V;rcases b4 a ha with h4|⟨U,h4⟩
   ·omega
   exact Y U h4
  subst a4;rcases O with O|O
  ·obtain⟨x,E,V⟩:=a8 A a ha;obtain⟨h2,Y⟩:=b3 x (.inl E) a V;rcases b4 a O with h4|⟨U,h4⟩
   ·omega
   exact Y U h4
  exact n7 a ha a (.inr O) rfl
 ·rcases b7 b O with V|V|⟨o,V⟩
  ·exact h.log b V
  ·exact .inr (.inl (a0j h.n0 V))
  exact .inr (h.mine p a2 b o V)
 have b6:=ba x (.inl E)
 rcases b6 with rfl|⟨_,_⟩
 ·rcases (hq b o O).2.2 with Y|⟨U,Y⟩
  ·exact .inl (a0j h.n0 Y)
  exact h.mine p a2 b U Y
 rw[e2]at E
 rcases a0b.1 E with E|E
 ·exact h.mine x (by rw[e1];exact a0b.2 (.inl E)) b o O
 rcases a0g.1 E with rfl|E
 ·rcases (hq b o O).2.2 with Y|⟨U,Y⟩
  ·exact .inl (a0j h.n0 Y)
  exact h.mine p a2 b U Y
 exact h.mine x (by rw[e1];exact a0b.2 (.inr (a0r _ E))) b o O
theorem HS.cons(h:HS B F H L R):HS B F H ([]::L) R:=
 ⟨h.fz,fun p z b o A=>by
  rcases z with z|z
  ·rcases a0g.1 z with rfl|z
   ·simp at A
   exact h.own p (.inl z) b o A
  ·exact h.own p (.inr z) b o A,by simpa using h.nd,h.n0,h.log,fun p z b o A=>by
  rcases a0g.1 z with rfl|z
  ·simp at A
  exact h.mine p z b o A⟩
theorem HS.snoc(h:HS B F H L R):HS B F H (L++[[]]) R:=
 ⟨h.fz,fun p z b o A=>by
  rcases z with z|z
  ·rcases a0b.1 z with z|z
   ·exact h.own p (.inl z) b o A
   simp at z;subst z;simp at A
  ·exact h.own p (.inr z) b o A,by simpa using h.nd,h.n0,h.log,fun p z b o A=>by
  rcases a0b.1 z with z|z
  ·exact h.mine p z b o A
  simp at z;subst z;simp at A⟩
theorem HS.push(h:HS B F H L R)(o:AObj):HS B F (H.push o) (L++[[(H.next,o)]]) R:=by
 have A:=(h.snoc).turn (H':=H.push o) (i:=L.length) (p:=[]) (q:=[(H.next,o)]) (by simp) (by simp)
  (fun b z _=>Heap.get_push_ne _ _ (by omega)) (fun b E z=>by
   simp at z;obtain⟨rfl,rfl⟩:=z;exact⟨Heap.get_push_same _ _,by simp,.inl (a05 _)⟩) (by simp) (fun b z=> .inl (by simpa using z))
 simpa using A
theorem HS.put(h:HS B F H L R){i b:Nat}{o E:AObj}(hi:L[i]?=some [(b,o)]):HS B F (H.put b E) (L.set i [(b,E)]) R:=
 h.turn hi (by simp) (fun c _ A=>Heap.get_put_ne _ _ fun e=>A o (by simp[e])) (fun c O z=>by
  simp at z;obtain⟨rfl,rfl⟩:=z;have:=(h.own _ (.inl (a0h hi)) c o (by simp)).2.1;exact⟨Heap.get_put_same _ _ _,by simpa using this,.inr ⟨o,by simp⟩⟩) (by simp) (fun c hc=>by
  rw[Heap.log_put]at hc;rcases a0g.1 hc with rfl|hc
  ·exact .inr (.inr ⟨o,by simp⟩)
  exact .inl hc)
theorem HS.get(h:HS B F H L R){i b:Nat}{p:Fp}{o:AObj}(hi:L[i]?=some p)(z:(b,o)∈p):H.get b=some o:=(h.own p (.inl (a0h hi)) b o z).1
theorem HS.drop(h:HS B F H L R){i:Nat}{p:Fp}(hi:L[i]?=some p):HS B F H (L.set i []) R:=
 h.turn hi (a05 _) (fun _ _ _=>rfl) (fun b o z=>by simp at z) (by simp) (fun b z=> .inl z)
theorem addL_get{p:Fp}: ∀{b:Nat} {o:AObj},(F.addL p) b=some o->F b=some o\/(b,o)∈p:=by
 induction p with
 |nil=>intro b o h;exact .inl h
 |cons x p ih=>
  obtain⟨A,E⟩:=x
  intro b o h
  simp only[Fz.addL,Fz.add]at h
  cases z:Nat.beq A b with
  |true=>
   rw[z]at h;simp only[cond_true,a00]at h;subst h
   have:=a04 z;subst this
   exact .inr (by simp)
  |false=>
   rw[z]at h
   rcases ih h with h1|h1
   ·exact .inl h1
   exact .inr (a0r _ h1)
theorem addL_of{p:Fp}: ∀{b:Nat} {o:AObj},(p.map Prod.fst).Nodup->(b,o)∈p->(F.addL p) b=some o:=by
 induction p with
 |nil=>intro b o _ h;simp at h
 |cons x p ih=>
  obtain⟨A,T⟩:=x
  intro b o z h
  simp only[List.map_cons,List.nodup_cons]at z
  simp only[Fz.addL,Fz.add]
  rcases a0g.1 h with e|h
  ·injection e with e1 e2;subst e1 e2;rw[a0I];rfl
  have E:Nat.beq A b=false:=by
   cases O:Nat.beq A b with
   |false=>rfl
   |true=>have:=a04 O;subst this;exact absurd (a0l.2 ⟨_,h,rfl⟩) z.1
  rw[E];exact ih z.2 h
theorem addL_le{p:Fp}(h: ∀b o,(b,o)∈p->F b=none):F.le (F.addL p):=by
 induction p with
 |nil=>exact F.le_refl
 |cons x p ih=>
  obtain⟨A,U⟩:=x
  intro b o z
  have E:=ih (fun b o O=>h b o (a0r _ O)) b o z
  simp only[Fz.addL,Fz.add]
  cases T:Nat.beq A b with
  |false=>exact E
  |true=>
   have:=a04 T;subst this
   rw[h A U (by simp)]at z;cases z
theorem HS.nodup_of(h:HS B F H L R){p:Fp}(z:p∈L):(p.map Prod.fst).Nodup:=by have:=h.nd;obtain⟨A,C,rfl⟩:=List.append_of_mem z;simp only[a0s,a0E,a0L,a0z,a0V,a1c]at this;exact this.2.1.1
theorem HS.freeze(h:HS B F H L R){i:Nat}{p:Fp}(hi:L[i]?=some p): ∃F',F.le F'/\HS B F' H (L.set i []) R/\∀b o,(b,o)∈p->F' b=some o:=by
 have Z:p∈L:=a0h hi;have al:=addL_le (F:=F) (p:=p) fun b o O=>(h.own p (.inl Z) b o O).2.2
 have U:=h.drop hi;have an:=h.nodup_of Z;refine⟨F.addL p,al,⟨fun b o O=>?_,fun x E b o O=>?_,U.nd,U.n0,U.log,U.mine⟩,fun b o O=>addL_of an O⟩
 ·rcases addL_get O with T|T
  ·exact h.fz b o T
  have:=h.own p (.inl Z) b o T;exact⟨this.1,this.2.1⟩
 obtain⟨T,h2,h3⟩:=U.own x E b o O;refine⟨T,h2,?_⟩;cases hq:F.addL p b with
 |none=>rfl
 |some z=>
  exfalso
  rcases addL_get hq with h4|h4
  ·rw[h3]at h4;cases h4
  ·--disjoint
   obtain⟨A,C,e1,e2⟩:=kp L i p [] hi;have V:=h.nd;rw[e1]at V;simp only[a0s,a0E,a0L,a0z,a0V,a1c,a0b]at V;have Y:b∈p.map Prod.fst:=a0l.2 ⟨_,h4,rfl⟩;rcases E with E|E
   ·rw[e2]at E;rcases a0b.1 E with E|E
    ·exact V.2.2 b (a0l.2 ⟨(b,o),a0F.2 ⟨x,E,O⟩,rfl⟩) b (.inl Y) rfl
    rcases a0g.1 E with rfl|E
    ·simp at O
    exact V.2.1.2.2 b Y b (.inl (a0l.2 ⟨(b,o),a0F.2 ⟨x,E,O⟩,rfl⟩)) rfl
   exact V.2.1.2.2 b Y b (.inr (a0l.2 ⟨(b,o),a0F.2 ⟨x,E,O⟩,rfl⟩)) rfl
theorem HS.call(h:HS B F H L R):HS (.of H []) F H [] (L++R):=
 ⟨h.fz,fun p z b o A=>by
  rcases z with z|z
  ·simp at z
  exact h.own p (a0b.1 z) b o A,by simpa using h.nd,a05 _,fun b A=> .inl A,fun p z=>by simp at z⟩
theorem HS.back{M:List Fp}{O:Heap}(h:HS B F H L R)(T:O=H)(k:HS (.of O []) F' H' M (L++R)):HS B F' H' (L++M) R:=by
 subst T;refine⟨k.fz,fun p z b o A=>k.own p ?_ b o A,?_,a0j h.n0 k.n0,fun b A=>?_,fun p z b o A=>?_⟩
 ·rcases z with z|z
  ·rcases a0b.1 z with z|z
   ·exact .inr (a0b.2 (.inl z))
   exact .inl z
  exact .inr (a0b.2 (.inr z))
 ·have:=k.nd;have E:((L++M++R).flatten.map Prod.fst).Perm ((M++(L++R)).flatten.map Prod.fst):=by simp only[a0L,a0V,a0s];exact a0P _ _ _
  exact E.nodup_iff.2 this
 ·rcases k.log b A with h1|h1|h1
  ·exact h.log b h1
  ·exact .inr (.inl (a0j h.n0 h1))
  simp[Base.of]at h1
 rcases a0b.1 z with z|z
 ·exact h.mine p z b o A
 rcases k.mine p z b o A with h1|h1
 ·exact .inl (a0j h.n0 h1)
 simp[Base.of]at h1
theorem HS.callOwn(h:HS B F H L R){i:Nat}{p:Fp}(hi:L[i]?=some p):HS (.of H (p.map Prod.fst)) F H [p] (L.set i []++R):=by
 obtain⟨A,C,T,U⟩:=kp L i p [] hi;have V:p∈L:=a0h hi;refine⟨h.fz,fun x z b o E=>?_,?_,a05 _,fun b E=> .inl E,fun x z b o E=>?_⟩
 ·rcases z with z|z
  ·simp at z;subst z;exact h.own x (.inl V) b o E
  rw[U]at z;simp only[a0s,a0E,a0b,a0g]at z;rcases z with z|rfl|z|z
  ·exact h.own x (.inl (by rw[T];simp[z])) b o E
  ·simp at E
  ·exact h.own x (.inl (by rw[T];simp[z])) b o E
  exact h.own x (.inr z) b o E
 ·have:=h.nd;rw[T]at this;rw[U];have O:(([p]++(A++[]::C++R)).flatten.map Prod.fst).Perm ((A++p::C++R).flatten.map Prod.fst):=by simp only[a0L,a0z,List.flatten_nil,a0N,a0U,a0V,a0s];exact a0P _ _ _
  exact O.nodup_iff.2 this
 simp at z;subst z;exact .inr (a0l.2 ⟨_,E,rfl⟩)
theorem HS.backOwn{Y:Heap}{W:List Nat}{p q:Fp}{M:List Fp}(h:HS B F H L R){i:Nat}(hi:L[i]?=some p)(hH:Y=H)(hW: ∀b,b∈W->b∈p.map Prod.fst)(k:HS (.of Y W) F' H' (q::M) (L.set i []++R)):HS B F' H' (L.set i q++M) R:=by
 subst hH;obtain⟨A,C,Z,e2⟩:=gt L i p hi;have ax:p∈L:=a0h hi;have U: ∀b,b∈W->B.n0<=b\/b∈B.W:=fun b E=>by obtain⟨⟨b',o⟩,al,rfl⟩:=a0l.1 (hW b E);exact h.mine p ax b' o al
 have an: ∀x,x∈A++q::C++M\/x∈R->x∈q::M\/x∈A++[]::C++R:=by
  intro x z;simp only[a0s,a0E,a0b,a0g]at z⊢;rcases z with(z|z|z|z)|z
  ·exact .inr (.inl z)
  ·exact .inl (.inl z)
  ·exact .inr (.inr (.inr (.inl z)))
  ·exact .inl (.inr z)
  exact .inr (.inr (.inr (.inr z)))
 have V: ∀x,x∈q::M->∀b o,(b,o)∈x->B.n0<=b\/b∈B.W:=fun x z b o E=>by
  rcases k.mine x z b o E with O|O
  ·exact .inl (a0j h.n0 O)
  exact U b O
 rw[e2]at k⊢;refine⟨k.fz,fun x z b o E=>k.own x (an x z) b o E,?_,a0j h.n0 k.n0,fun b E=>?_,fun x z b o E=>?_⟩
 ·have:=k.nd;have T:((A++q::C++M++R).flatten.map Prod.fst).Perm ((q::M++(A++[]::C++R)).flatten.map Prod.fst):=by
   simp only[a0L,a0z,a0U,a0V,a0s,a0E];have O: ∀(a c m q r:List Nat),(a++(q++(c++(m++r)))).Perm (q++(m++(a++(c++r)))):=by intro a c m q r;refine List.Perm.trans (a0P a q _) (List.Perm.append_left q ?_);refine List.Perm.trans (List.Perm.append_left a (a0P c m r)) ?_;exact a0P a m _
   exact O _ _ _ _ _
  exact T.nodup_iff.2 this
 ·rcases k.log b E with O|O|O
  ·exact h.log b O
  ·exact .inr (.inl (a0j h.n0 O))
  exact .inr (U b O)
 simp only[a0s,a0E,a0b,a0g]at z;rcases z with z|rfl|z|z
 ·exact h.mine x (by rw[Z];simp[z]) b o E
 ·exact V x (by simp) b o E
 ·exact h.mine x (by rw[Z];simp[z]) b o E
 exact V x (by simp[z]) b o E
end
end Go.R
end
noncomputable section
namespace Go.R
class Rp(α:Type) where
 sz:Nat
 rep:Fz->List Value->α->Prop
 len: ∀{F:Fz} {cs:List Value} {x:α},rep F cs x->cs.length=sz
 one: ∀{F:Fz} {cs:List Value} {x:α},rep F cs x->allL Value.oneCell' cs=true
 mono: ∀{F F':Fz} {cs:List Value} {x:α},F.le F'->rep F cs x->rep F' cs x
def RL{α:Type} [Rp α](F:Fz):List Value->List α->Prop
 |cs,[]=>cs=[]
 |cs,x::l=> ∃c r,cs=c++r/\Rp.rep F c x/\RL F r l
theorem allL_app{p:Value->Bool}(a b:List Value):allL p (a++b)=(allL p a&&allL p b):=by simp only[kL,List.all_append]
section
variable {α:Type} [Rp α] {F F':Fz}
theorem RL.length: ∀{l:List α} {cs:List Value},RL F cs l->cs.length=l.length *Rp.sz α
 | [],cs,h=>by simp only[RL]at h;subst h;simp
 |x::l,cs,h=>by obtain⟨c,r,rfl,z,A⟩:=h;rw[a01,Rp.len z,RL.length A,a07,Nat.succ_mul,Nat.add_comm]
theorem RL.mono(z:F.le F'): ∀{l:List α} {cs:List Value},RL F cs l->RL F' cs l
 | [],_,h=>h
 |_::_,_,⟨c,r,e,h1,h2⟩=>⟨c,r,e,Rp.mono z h1,RL.mono z h2⟩
theorem RL.one: ∀{l:List α} {cs:List Value},RL F cs l->allL Value.oneCell' cs=true
 | [],cs,h=>by simp only[RL]at h;subst h;rfl
 |x::l,cs,h=>by obtain⟨c,r,rfl,z,A⟩:=h;rw[allL_app,Rp.one z,RL.one A];rfl
theorem RL.append: ∀{l m:List α} {cs z:List Value},RL F cs l->RL F z m->RL F (cs++z) (l++m)
 | [],_,cs,_,h,k=>by simp only[RL]at h;subst h;exact k
 |_::_,_,_,_,⟨c,r,e,h1,h2⟩,k=>⟨c,_,by rw[e,a0s],h1,RL.append h2 k⟩
theorem RL.drop: ∀{l:List α} {cs:List Value} (n:Nat),RL F cs l->RL F (cs.drop (n *Rp.sz α)) (l.drop n)
 |l,cs,0,h=>by simpa using h
 | [],cs,n+1,h=>by simp only[RL]at h;subst h;simp[RL]
 |x::l,cs,n+1,h=>by
  obtain⟨c,r,rfl,z,O⟩:=h;have:=RL.drop n O;rw[List.drop_append,Rp.len z];have A:List.drop ((n+1) *Rp.sz α) c=[]:=a1m (by rw[Rp.len z,Nat.succ_mul];omega);have E:(n+1) *Rp.sz α-Rp.sz α=n *Rp.sz α:=by rw[Nat.succ_mul];omega
  rw[A,E];exact this
theorem RL.head{l:List α}{x:α}{cs:List Value}(h:RL F cs (x::l)):Rp.rep F (cs.take (Rp.sz α)) x:=by obtain⟨c,r,rfl,z,_⟩:=h;rw[List.take_append,Rp.len z,Nat.sub_self,List.take_zero,a0N,a0Z (by rw[Rp.len z];omega)];exact z
theorem RL.at{l:List α}{cs:List Value}{j:Nat}{x:α}(h:RL F cs l)(A:l[j]?=some x):Rp.rep F ((cs.drop (j *Rp.sz α)).take (Rp.sz α)) x:=by
 have z:=h.drop j;have O:=(a0m.1 A).1;have E:l.drop j=x::l.drop (j+1):=by rw[a0T O];congr 1;exact(a0m.1 A).2
 rw[E]at z;exact z.head
def Sl(F:Fz)(o:AObj)(z k:Nat)(l:List α):Prop:= ∃cs h A,o= .cells cs h A/\(A=false->z+k *Rp.sz α<=cs.length)/\l.length<=k/\RL F ((cs.drop z).take (l.length *Rp.sz α)) l/\(h=none\/h=some (Rp.sz α))
def Sv(F:Fz)(get:Nat->Option AObj)(v:Value)(l:List α):Prop:=
 (v= .slice none 0 0/\l=[])\/∃b h k o,v= .slice (some ⟨b,h,none⟩) l.length k/\get b=some o/\Sl F o h k l
def SR(F:Fz)(v:Value)(l:List α):Prop:=Sv F F v l
def OS(F:Fz)(v:Value)(l:List α)(p:Fp):Prop:=
 (v= .slice none 0 0/\l=[]/\p=[])\/∃b h k cs z,v= .slice (some ⟨b,h,none⟩) l.length k/\p=[(b,.cells cs z false)]/\Sl F (.cells cs z false) h k l
theorem Sl.mono(Y:F.le F'){o:AObj}{z k:Nat}{l:List α}(h:Sl F o z k l):Sl F' o z k l:=by obtain⟨cs,A,Z,E,O,T,U,V⟩:=h;exact⟨cs,A,Z,E,O,T,U.mono Y,V⟩
theorem SR.mono(z:F.le F'){v:Value}{l:List α}(h:SR F v l):SR F' v l:=by
 rcases h with h|⟨b,off,k,o,h1,h2,h3⟩
 ·exact .inl h
 exact .inr ⟨b,off,k,o,h1,z _ _ h2,h3.mono z⟩
theorem OS.mono(z:F.le F'){v:Value}{l:List α}{p:Fp}(h:OS F v l p):OS F' v l p:=by
 rcases h with h|⟨b,off,k,cs,opn,h1,h2,h3⟩
 ·exact .inl h
 exact .inr ⟨b,off,k,cs,opn,h1,h2,h3.mono z⟩
theorem SR.nil:SR F (.slice none 0 0) ([]:List α):= .inl ⟨rfl,rfl⟩
theorem OS.nil:OS F (.slice none 0 0) ([]:List α) []:= .inl ⟨rfl,rfl,rfl⟩
variable {B:Base} {H:Heap} {L R:List Fp} {v:Value} {l:List α} {p:Fp}
theorem SR.sv(h:SR F v l)(hs:HS B F H L R):Sv F H.get v l:=by
 rcases h with h|⟨b,off,k,o,h1,h2,h3⟩
 ·exact .inl h
 exact .inr ⟨b,off,k,o,h1,(hs.fz b o h2).1,h3⟩
theorem OS.sv(h:OS F v l p)(hs:HS B F H L R){i:Nat}(hi:L[i]?=some p):Sv F H.get v l:=by
 rcases h with⟨z,A,_⟩|⟨b,E,k,cs,T,z,A,O⟩
 ·exact .inl ⟨z,A⟩
 exact .inr ⟨b,E,k,_,z,hs.get hi (by rw[A];simp),O⟩
def sB:Value->Nat
 | .slice (some a) _ _=>a.block
 |_=>0
def sO:Value->Nat
 | .slice (some a) _ _=>a.off
 |_=>0
def HC(get:Nat->Option AObj)(b o:Nat)(cs:List Value):Prop:= ∃all h z,get b=some (.cells all h z)/\(all.drop o).take cs.length=cs
theorem Sv.at{get:Nat->Option AObj}(h:Sv F get v l){j:Nat}{x:α}(A:l[j]?=some x): ∃cs,Rp.rep F cs x/\HC get (sB v) (sO v+j *Rp.sz α) cs:=by
 rcases h with⟨_,rfl⟩|⟨b,z,k,o,rfl,T,cs,O,Y,rfl,Z,h4,U,h6⟩
 ·simp at A
 have V:=(a0m.1 A).1;have E:=U.at A;refine⟨_,E,cs,O,Y,T,?_⟩;rw[Rp.len E];show(cs.drop (z+j *Rp.sz α)).take (Rp.sz α)=(((cs.drop z).take (l.length *Rp.sz α)).drop (j *Rp.sz α)).take (Rp.sz α);rw[List.drop_take,List.take_take,List.drop_drop];congr 1;have:Rp.sz α<=l.length *Rp.sz α-j *Rp.sz α:=by have:=a0A (Rp.sz α) (show j+1<=l.length from V);rw[Nat.succ_mul]at this;omega
 omega
theorem HC.get{get:Nat->Option AObj}{b o:Nat}{cs:List Value}(h:HC get b o cs){i:Nat}{v:Value}(z:cs[i]?=some v): ∃all A E,get b=some (.cells all A E)/\all[o+i]?=some v:=by
 obtain⟨all,A,E,O,T⟩:=h;refine⟨all,A,E,O,?_⟩;rw[←T,a0G]at z;split at z
 ·rw[a0W]at z;exact z
 cases z
theorem HC.part{get:Nat->Option AObj}{b o:Nat}{cs:List Value}(h:HC get b o cs){i n:Nat}(U:i+n<=cs.length): ∃all z E,get b=some (.cells all z E)/\(all.drop (o+i)).take n=(cs.drop i).take n/\((cs.drop i).take n).length=n:=by
 obtain⟨all,z,E,O,T⟩:=h;refine⟨all,z,E,O,?_,by rw[a0q,a0f];omega⟩;have A:(((all.drop o).take cs.length).drop i).take n=(cs.drop i).take n:=by rw[T]
 rw[List.drop_take,List.take_take,List.drop_drop]at A;rw[show min n (cs.length-i)=n by omega]at A;exact A
theorem HC.same{get:Nat->Option AObj}{b:Nat}{cs:List Value}{z:Option Nat}{A:Bool}(h:get b=some (.cells cs z A)):HC get b 0 cs:=⟨cs,z,A,h,by simp⟩
instance :Rp Int where
 sz:=1
 rep _ cs n:=cs=[.int .i64 n]/\in64 n
 len:=by rintro F cs x ⟨rfl,_⟩;rfl
 one:=by rintro F cs x ⟨rfl,_⟩;rfl
 mono:=by intro F F' cs x _ h;exact h
instance :Rp Bool where
 sz:=1
 rep _ cs n:=cs=[.bool n]
 len:=by rintro F cs x rfl;rfl
 one:=by rintro F cs x rfl;rfl
 mono:=by intro F F' cs x _ h;exact h
structure Str where
 b:List UInt8
 deriving DecidableEq,Inhabited
instance :Rp Str where
 sz:=1
 rep _ cs s:=cs=[.string ⟨⟨s.b⟩⟩]
 len:=by rintro F cs x rfl;rfl
 one:=by rintro F cs x rfl;rfl
 mono:=by intro F F' cs x _ h;exact h
structure U64 where
 n:Int
 deriving DecidableEq,Inhabited
instance :Rp U64 where
 sz:=1
 rep _ cs s:=cs=[.int .u64 s.n]/\0<=s.n/\s.n<18446744073709551616
 len:=by rintro F cs x ⟨rfl,_⟩;rfl
 one:=by rintro F cs x ⟨rfl,_⟩;rfl
 mono:=by intro F F' cs x _ h;exact h
instance :Rp UInt8 where
 sz:=1
 rep _ cs s:=cs=[.int .u8 s.toNat]
 len:=by rintro F cs x rfl;rfl
 one:=by rintro F cs x rfl;rfl
 mono:=by intro F F' cs x _ h;exact h
theorem Sv.shape{get:Nat->Option AObj}{v:Value}{l:List α}(h:Sv F get v l): ∃a k,v= .slice a l.length k:=by
 rcases h with⟨rfl,rfl⟩|⟨b,z,k,o,rfl,_⟩
 ·exact⟨none,0,rfl⟩
 exact⟨_,k,rfl⟩
instance :Rp (List α) where
 sz:=1
 rep F cs l:= ∃a k,cs=[.slice a l.length k]/\SR F (.slice a l.length k) l
 len:=by rintro F cs x ⟨a,k,rfl,_⟩;rfl
 one:=by rintro F cs x ⟨a,k,rfl,h⟩;rfl
 mono:=by rintro F F' cs x hF ⟨a,k,rfl,h⟩;exact⟨a,k,rfl,h.mono hF⟩
end
end Go.R
end
noncomputable section
namespace Go.R
section
variable {α:Type} [Rp α] {P:Program} {ρ:Operand->Value} {d:Option Tmp} {ty:TypeId} {pos:String} {af:Array Edge} {gd:Option (Nat×Bool)} {B:Base} {F:Fz} {H:Heap} {L R:List Fp} {v:Value} {l:List α} {p:Fp}
theorem ed{x:Operand}{t e:TypeId}(E:ρ x=v)(z:P.underlying t=some (.slice e))(h:Sv F H.get v l):
  AP P ρ ⟨d,.call ⟨.builtin .len, #[x], #[t]⟩,ty,pos,af,gd⟩ H (.val (.int .i64 l.length),H):=by
 refine⟨?_⟩
 obtain⟨a,k,A⟩:=h.shape
 show ovl (aLen P t (ρ x) H) H=_
 rw[E,A]
 unfold aLen
 rw[z];rfl
theorem ee{x:Operand}{t:TypeId}{s:List UInt8}(z:ρ x= .string ⟨⟨s⟩⟩)(h:P.underlying t=some .string):
  AP P ρ ⟨d,.call ⟨.builtin .len, #[x], #[t]⟩,ty,pos,af,gd⟩ H (.val (.int .i64 s.length),H):=by
 refine⟨?_⟩
 show ovl (aLen P t (ρ x) H) H=_
 rw[z]
 unfold aLen
 rw[h]
 show ovl (some (goInt (g0 s))) H=_
 rw[bC];rfl
theorem ap_idxV{x i:Operand}{t e:TypeId}{V:IntKind}{j:Int}(T:ρ x=v)(hi:ρ i= .int V j)(O:P.underlying t=some (.slice e))(U:ei P e=some (Rp.sz α))(h:Sv F H.get v l)(A:0<=j:=by first|(dsimp only;omega)|omega)(z:j<l.length:=by first|(dsimp only;omega)|omega):
  AP P ρ ⟨d,.indexAddr t x i,ty,pos,af,gd⟩ H (.val (.pointer (some ⟨sB v,sO v+j.toNat *Rp.sz α,none⟩)),H):=by
 rcases h with⟨_,rfl⟩|⟨b,Y,k,o,rfl,h2,cs,Z,ro,rfl,h3,E,h5,h6⟩
 ·simp at z;omega
 exact hO T hi O U A z E
theorem bJ{t:TypeId}{x:Operand}{b o h i:Nat}{cs:List Value}{w:Value}(U:ρ x= .pointer (some ⟨b,h,none⟩))(E:fC P t=some false)(hc:HC H.get b o cs)(O:h=o+i)(T:cs[i]?=some w):
  AP P ρ ⟨d,.load t x,ty,pos,af,gd⟩ H (.val w,H):=by
 subst O
 obtain⟨all,V,Y,z,A⟩:=hc.get T
 exact ap_load1 U E z A
theorem cp{t:TypeId}{x:Operand}{b o z i n:Nat}{cs l:List Value}(Y:ρ x= .pointer (some ⟨b,z,none⟩))(T:fC P t=some true)(hs:ei P t=some n)(hc:HC H.get b o cs)(V:z=o+i)(U:Nat.ble (i+n) cs.length=true)(h:gg (gx cs i) n=l):
  AP P ρ ⟨d,.load t x,ty,pos,af,gd⟩ H (.val (.agg ⟨l⟩),H):=by
 subst V
 obtain⟨all,Z,ro,A,E,O⟩:=hc.part (a0a U)
 rw[bT,cn]at h
 exact ap_loadN Y T hs A (E.trans h) (by rw[←h];exact O)
theorem bQ{s:TypeId}{x:Operand}{f b o z:Nat}(A:ρ x= .pointer (some ⟨b,o,none⟩))(h:gB P s (.pointer (some ⟨b,o,none⟩)) f=some (.pointer (some ⟨b,z,none⟩))):
  AP P ρ ⟨d,.fieldAddr s x f,ty,pos,af,gd⟩ H (.val (.pointer (some ⟨b,z,none⟩)),H):=by
 refine⟨?_⟩
 show ovl (gB P s (ρ x) f) H=_
 rw[A,h];rfl
theorem ap_fv{t:TypeId}{x:Operand}{f:Nat}{u w:Value}(z:ρ x=u)(h:f8 P t u f=some w):AP P ρ ⟨d,.field t x f,ty,pos,af,gd⟩ H (.val w,H):=by refine⟨?_⟩;show ovl (f8 P t (ρ x) f) H=_;rw[z,h];rfl
theorem ap_ex{x:Operand}{i:Nat}{u w:Value}(z:ρ x=u)(h:fv u i=some w):AP P ρ ⟨d,.extract x i,ty,pos,af,gd⟩ H (.val w,H):=by refine⟨?_⟩;show ovl (fv (ρ x) i) H=_;rw[z,h];rfl
theorem ap_bld{t:TypeId}{A:Array (Nat×Operand)}{ps:Array (Nat×Value)}{z:List Value}{w:Value}(E:A.map (fun p=>(p.1,ρ p.2))=ps)(O:dK P t=some z)(h:aw P (Instr.build t ps)=some w):
  AP P ρ ⟨d,.build t A,ty,pos,af,gd⟩ H (.val w,H):=by
 refine⟨?_⟩
 show fS P t (A.map fun p=>(p.1,ρ p.2)) H=_
 rw[E]
 unfold fS
 rw[O]
 show lift P (Instr.build t ps) H=_
 unfold lift
 rw[h]
theorem ap_alloc{e:TypeId}{z:List Value}(h:dK P e=some z):AP P ρ ⟨d,.alloc e,ty,pos,af,gd⟩ H (.val (.pointer (some ⟨H.next,0,none⟩)),H.push (.cells z none false)):=by refine⟨?_⟩;show d7 P e H=_;unfold d7;rw[h];rfl
theorem ap_box{e:TypeId}{x:Operand}{cs:List Value}(h:(ρ x).cells.toList=cs):AP P ρ ⟨d,.box e x,ty,pos,af,gd⟩ H (.val (.pointer (some ⟨H.next,0,none⟩)),H.push (.cells cs none false)):=by subst h;exact⟨rfl⟩
theorem storeL_of{b o:Nat}{cs h:List Value}{z:Option Nat}(E:H.get b=some (.cells cs z false))(O:o+h.length<=cs.length)(A:allL Value.oneCell' h=true):H.storeL ⟨b,o,none⟩ h=some (H.put b (.cells (bW cs o h) z false)):=by unfold Heap.storeL;have:Nat.ble (Nat.add o (g0 h)) (g0 cs)=true:=a0k (by rw[bC,bC];exact O);simp only[E,this,A,a19,cond_true]
theorem ap_st{t:TypeId}{a x:Operand}{b o n:Nat}{u:Value}{h:List Value}{H1:Heap}(A:ρ a= .pointer (some ⟨b,o,none⟩))(T:ρ x=u)(O:ei P t=some n)(hc:u.cells.toList=h)(E:Nat.beq h.length n=true)(z:H.storeL ⟨b,o,none⟩ h=some H1):
  AP P ρ ⟨d,.store t a x,ty,pos,af,gd⟩ H (.skip,H1):=by
 refine⟨?_⟩
 show fQ P t (ρ a) (ρ x) H=_
 rw[A,T]
 unfold fQ
 have:u.cells.size=h.length:=by rw[←hc];simp
 rw[this,O]
 simp only[E,cond_true,hc,z]
 rfl
theorem HS.st(hs:HS B F H L R){i b o:Nat}{cs h z:List Value}(hi:L[i]?=some [(b,.cells cs none false)])(O:Nat.ble (o+h.length) cs.length=true)(A:allL Value.oneCell' h=true)(E:bW cs o h=z):
  ∃H1,H.storeL ⟨b,o,none⟩ h=some H1/\HS B F H1 (L.set i [(b,.cells z none false)]) R:=by
 subst E
 exact⟨_,storeL_of (hs.get hi (a0B.2 rfl)) (a0a O) A,hs.put hi⟩
theorem HS.hc(hs:HS B F H L R){i b:Nat}{cs:List Value}(hi:L[i]?=some [(b,.cells cs none false)]):HC H.get b 0 cs:=HC.same (hs.get hi (a0B.2 rfl))
theorem Sv.first{x:Value}{z:List α}(h:Sv F H.get x z):lenA x=some z.length/\∃A,e7 H (Rp.sz α) z.length x=some A/\RL F A z:=by
 rcases h with⟨rfl,rfl⟩|⟨b,V,k,o,rfl,O,cs,Y,ro,rfl,Z,h4,E,h6⟩
 ·exact⟨rfl,[],rfl,rfl⟩
 refine⟨rfl,?_⟩;unfold e7;cases T:Nat.beq z.length 0 with
 |true=>
  have:=a04 T
  have e:z=[]:=a0i this
  subst e
  exact⟨[],rfl,rfl⟩
 |false=>
  refine⟨_,?_,E⟩
  simp only[cond_false]
  unfold Heap.loadN
  have U:=E.length
  simp only[O,bT,cn,bC,U,a0I,cond_true]
theorem os_append(h:OS F v l p)(hs:HS B F H L R){i:Nat}(hi:L[i]?=some p){x:Value}{O:List α}{T z:List Value}{types:Array TypeId}{st xt e:TypeId}{xd:TypeDesc}{b0:Nat}
  (h0:types[0]?=some st) (h1:types[1]?=some xt) (cm:P.underlying st=some (.slice e)) (c0:P.underlying xt=some xd) (co: ∀k,xd≠ .int k) (hz:ei P e=some (Rp.sz α)) (cd:fZ P e=some b0) (c3:dK P e=some z)
  (b3:Nat.beq (g0 z) (Rp.sz α)=true) (b1:Nat.ble b0 4096=true) (an:Nat.beq (Rp.sz α) 0=false) (cw:lenA x=some O.length) (hf:e7 H (Rp.sz α) O.length x=some T) (U:RL F T O) (a4:l.length+O.length<=2147483648):
  ∃a k H1 p',eN P types v x H=some (.slice a (l++O).length k,H1)/\OS F (.slice a (l++O).length k) (l++O) p'/\HS B F H1 (L.set i p') R:=by
 have al:L.set i p=L:=by obtain⟨A,C,e1,e2⟩:=gt L i p hi;rw[e2 p,←e1]
 have a8:=U.one
 have V:=U.length
 have c7:0<Rp.sz α:=by
  rcases Nat.eq_zero_or_pos (Rp.sz α) with hq|hq
  ·rw[hq]at an;cases an
  exact hq
 have dt: ∀(Y:Option (Value×Heap)),(match xd with| .int _=>none|_=>Y)=Y:=by intro Y;cases xd<;>first|rfl|exact absurd rfl (co _)
 unfold eN
 simp only[h0,h1,cm,c0,hz,cd,c3,cw,hf]
 rcases h with⟨rfl,rfl,rfl⟩|⟨b,o,k,cs,ax,rfl,rfl,em,d2,et,he,h3,h4,h5,h6⟩
 ·cases hm:Nat.beq O.length 0 with
  |true=>
   have:O=[]:=a0i (a04 hm)
   subst this
   exact⟨none,0,H,[],rfl,.nil,by rw[al];exact hs⟩
  |false=>
   have a3:Nat.ble O.length 2147483648=true:=a0k (by simp at a4;omega)
   simp only[cond_false,b3,a3,b1,an,a1p,a19,cond_true]
   refine⟨_,_,_,[(H.next,.cells T (some (Rp.sz α)) false)],rfl,.inr ⟨_,0,_,_,_,rfl,rfl,_,_,_,rfl,?_,by simp,?_,.inr rfl⟩,?_⟩
   ·intro _;show 0+O.length *Rp.sz α<=T.length;rw[V];omega
   ·rw[a1g,a0U,←V,a17];exact U
   refine hs.turn hi (H':=aO H T (some (Rp.sz α))) (by simp[aO]) (fun b E _=>Heap.get_push_ne _ _ (by omega)) (fun b o E=>?_) (by simp) (fun b E=> .inl (by simpa[aO] using E))
   simp at E;obtain⟨rfl,rfl⟩:=E
   exact⟨Heap.get_push_same _ _,by simp[aO],.inl (a05 _)⟩
 injection he with e1 e2 e3
 subst e1 e2 e3
 replace h3:=h3 rfl
 have hg:=hs.get hi (b:=b) (o:= .cells cs ax false) (by simp)
 simp only[hg]
 cases hk:Nat.ble (l.length+O.length) k with
 |true=>
  have b2:=a0a hk
  simp only[cond_true]
  cases hm:Nat.beq O.length 0 with
  |true=>
   have:O=[]:=a0i (a04 hm)
   subst this
   simp only[cond_true,a0N]
   exact⟨_,_,_,_,rfl,.inr ⟨b,o,k,cs,ax,rfl,rfl,_,_,_,rfl,fun _=>h3,h4,h5,h6⟩,by rw[al];exact hs⟩
  |false=>
   simp only[cond_false]
   have ch:(l.length+O.length) *Rp.sz α<=k *Rp.sz α:=a0A _ b2
   have E:o+l.length *Rp.sz α+T.length<=cs.length:=by rw[V];rw[a0C]at ch;omega
   rw[storeL_of hg E a8]
   simp only
   refine⟨some ⟨b,o,none⟩,k,_,[(b,.cells (bW cs (o+l.length *Rp.sz α) T) ax false)],by rw[a01],.inr ⟨b,o,k,_,ax,rfl,rfl,_,_,_,rfl,?_,by rw[a01];exact b2,?_,h6⟩,hs.put hi⟩
   ·intro _;rw[cW _ _ _ E];exact h3
   have c4:((bW cs (o+l.length *Rp.sz α) T).drop o).take ((l++O).length *Rp.sz α)=(cs.drop o).take (l.length *Rp.sz α)++T:=by
    have ci:=h5.length;apply List.ext_getElem?;intro q;rw[a0G,a0W,cx _ _ _ _ E,a01,a0C,List.getElem?_append,ci];by_cases c1:q<l.length *Rp.sz α
    ·rw[if_pos (by omega),if_neg (by omega),if_pos c1,a0G,if_pos c1,a0W]
    rw[if_neg c1];by_cases c2:q<l.length *Rp.sz α+O.length *Rp.sz α
    ·rw[if_pos c2,if_pos (by rw[V];omega)];congr 1;omega
    rw[if_neg c2,a18 (by rw[V];omega)]
   rw[c4]
   exact h5.append U
 |false=>
  simp only[cond_false]
  have a3:Nat.ble (l.length+O.length) 2147483648=true:=a0k a4
  have cl:Nat.ble l.length k=true:=a0k h4
  simp only[b3,a3,b1,an,cl,a1p,a19,cond_true]
  have b9:e7 H (Rp.sz α) l.length (.slice (some ⟨b,o,none⟩) l.length k)=some ((cs.drop o).take (l.length *Rp.sz α)):=by
   unfold e7;cases E:Nat.beq l.length 0 with
   |true=>
    have:=a04 E
    simp[this]
   |false=>
    simp only[cond_false]
    unfold Heap.loadN
    have hl:=h5.length
    simp only[hg,bT,cn,bC,hl,a0I,cond_true]
  rw[b9]
  simp only[dr]
  have a1:=h5.append U
  have Z:=a1.length
  have a2: ∀(k':Nat) (bb:Nat),k'=(l++O).length->OS F (.slice (some ⟨bb,0,none⟩) (l++O).length k') (l++O) [(bb,.cells ((cs.drop o).take (l.length *Rp.sz α)++T) (some (Rp.sz α)) false)]:=by rintro k' bb rfl;refine .inr ⟨bb,0,_,_,_,rfl,rfl,_,_,_,rfl,fun _=>(by rw[Z];omega),a05 _,?_,.inr rfl⟩;rw[a1g,←Z,a17];exact a1
  rcases h6 with rfl|rfl
  ·simp only;refine⟨some ⟨H.next,0,none⟩,l.length+O.length,_,_,by rw[a01],a2 _ _ (by rw[a01]),?_⟩;refine hs.turn hi (by simp[aO]) (fun b E _=>Heap.get_push_ne _ _ (by omega)) (fun b o E=>?_) (by simp) (fun b E=> .inl (by simpa[aO] using E));simp at E;obtain⟨rfl,rfl⟩:=E;exact⟨Heap.get_push_same _ _,by simp[aO],.inl (a05 _)⟩
  simp only[a0I,a19,a8,cond_true]
  refine⟨some ⟨H.next,0,none⟩,l.length+O.length,_,_,by rw[a01],a2 _ _ (by rw[a01]),?_⟩
  refine hs.turn hi (by simp[aO]) (fun c E ck=>?_) (fun c o E=>?_) (by simp) (fun c E=>?_)
  ·show((H.put b .dead).push _).get c=_;rw[Heap.get_push_ne _ _ (by simp;omega),Heap.get_put_ne _ _ fun e=>ck (.cells cs (some (Rp.sz α)) false) (by simp[e])]
  ·simp at E;obtain⟨rfl,rfl⟩:=E;exact⟨Heap.get_push_same (H.put b .dead) _,by simp[aO],.inl (a05 _)⟩
  simp only[aO,Heap.log_push,Heap.log_put]at E
  rcases a0g.1 E with rfl|E
  ·exact .inr (.inr ⟨.cells cs (some (Rp.sz α)) false,by simp⟩)
  exact .inl E
end
end Go.R
end
noncomputable section
set_option linter.unusedVariables false
namespace Go.R
section
variable {P:Program} {G:Nat} {cf:bY} {ops:Array Oper}
theorem ip{s A:St}{d:Option Tmp}{v:Value}(h:s.put d v=some A):A.size=s.size:=by
 unfold St.put at h;cases d with
 |none=>simp only[a00]at h;rw[←h]
 |some d=>
  cases z:Nat.ble (d+1) s.size with
  |true=>simp only[z,cond_true,a00]at h;rw[←h]
  |false=>simp only[z,cond_false]at h;cases h
theorem step_size{o:Oper}{s E:St}(h:step P G cf ops o s=some E):E.size=s.size:=by
 unfold step at h;cases A:aY ops o s.tmps with
 |false=>simp only[A,cond_false]at h;exact ip h
 |true=>
  simp only[A,cond_true]at h
  cases z:o.op.operands.toList.all (bh G) with
  |false=>rw[z]at h;cases h
  |true=>
   rw[z]at h
   simp only[cond_true]at h
   split at h
   ·have:=ip h;exact this
   ·have:=ip h;exact this
   ·split at h
    ·have:=ip h;exact this
    cases h
   cases h
theorem iN: ∀(l:List Oper) (s z:St),eO P G cf ops l s=some z->z.size=s.size
 | [],_,_,h=>by rw[gH]at h;simp only[a00]at h;rw[←h]
 |o::l,s,z,h=>by
  rw[bK]at h;split at h
  ·rename_i t A;rw[iN l _ _ h,step_size A]
  cases h
theorem gW: ∀(l:List Oper) (i:Nat) (fs:List (Nat×Inf)) (s s':St),bf P G cf ops i fs l s=some s'->s'.size=s.size
 | [],_,_,_,_,h=>by unfold bf at h;simp only[a00]at h;rw[←h]
 |o::l,i,fs,s,s',h=>by
  unfold bf at h;split at h
  ·rename_i t f z;cases A:bR (bV ops) i f fs with
   |false=>rw[A]at h;cases h
   |true=>
    rw[A]at h
    rw[gW l _ _ _ _ h]
    unfold fG at z
    split at z
    ·rename_i O E;simp only[a00,a02]at z;rw[←z.1];have:=step_size E;exact this
    cases z
  cases h
theorem region_size{z:Bool}{s E:St}(h:bB P G cf ops z s=some E):E.size=s.size:=by
 unfold bB at h;cases z with
 |false=>exact iN _ _ _ h
 |true=>
  simp only[cond_true]at h
  cases A:iO ops&&P.follows .mixedOrders with
  |false=>rw[A]at h;cases h
  |true=>rw[A]at h;exact gW _ _ _ _ _ h
def SizeOK(ex:Code->St->Option (Ex×St)):Prop:= ∀c s e h,ex c s=some (e,h)->h.size=s.size
theorem execC_size{ex:Code->St->Option (Ex×St)}(Z:SizeOK ex):SizeOK (ec P G ex cf):=by
 intro c;have U: ∀{r:Option (Ex×St)} {k:St->Option (Ex×St)} {n:Nat} {e:Ex} {z:St},(∀e s,r=some (e,s)->s.size=n)->(∀s e z,s.size=n->k s=some (e,z)->z.size=n)->e9 r k=some (e,z)->z.size=n:=by
  intro r k n e z hr hk h;cases E:r with
  |none=>rw[E]at h;cases h
  |some y=>
   obtain⟨T,O⟩:=y
   have A:=hr T O E
   rw[E]at h
   cases T with
   |normal=>exact hk O e z A h
   |exit i=>simp only[e9,a00,a02]at h;rw[←h.2];exact A
   |ret=>simp only[e9,a00,a02]at h;rw[←h.2];exact A
 induction c with
 |skip=>intro s e z h;rw[jK]at h;simp only[a00,a02]at h;rw[←h.2]
 |region id ops draw=>
  intro s e z h
  rw[e8]at h
  cases E:bB P G cf ops draw s with
  |none=>rw[E]at h;cases h
  |some t=>
   rw[E]at h
   simp only[dx,a00,a02]at h
   rw[←h.2];exact region_size E
 |seq a b iha ihb=>
  intro s e z h
  rw[jc]at h
  exact U (fun e O A=>iha s e O A) (fun O e z A V=>(ihb O e z V).trans A) h
 |cond c t e iht ihe=>
  intro s e z h
  rw[gP]at h
  cases E:bh G c with
  |false=>rw[E]at h;cases h
  |true=>
   rw[E]at h
   simp only[cond_true]at h
   unfold jN at h
   split at h
   ·rename_i b Y;cases b with
    |true=>exact iht s _ z h
    |false=>exact ihe s _ z h
   cases h
 |block id b ih=>
  intro s e z h
  rw[fX]at h
  cases E:ec P G ex cf b s with
  |none=>rw[E]at h;cases h
  |some y=>
   obtain⟨T,O⟩:=y
   have A:=ih s T O E
   rw[E]at h
   cases T with
   |normal=>simp only[cL,a00,a02]at h;rw[←h.2];exact A
   |exit i=>
    unfold cL at h
    cases Y:Nat.beq i id with
    |true=>simp only[Y,cond_true,a00,a02]at h;rw[←h.2];exact A
    |false=>simp only[Y,cond_false,a00,a02]at h;rw[←h.2];exact A
   |ret=>simp only[cL,a00,a02]at h;rw[←h.2];exact A
 |loop b ih=>
  intro s e z h
  rw[gO]at h
  exact U (fun e O A=>ih s e O A) (fun O e z A V=>(Z _ O e z V).trans A) h
 |exit id=>intro s e z h;rw[jL]at h;simp only[a00,a02]at h;rw[←h.2]
 |ret=>intro s e z h;rw[execC_ret]at h;simp only[a00,a02]at h;rw[←h.2]
 |_=>intro s e z h;cases h
theorem exec_size{K:bx}: ∀n,SizeOK (jM P G K n)
 |0=>fun c s e z h=>by cases h
 |n+1=>fun c=>execC_size (exec_size n) c
end
section
variable {P:Program} {G:Nat} {K:bx} {sz:Nat} {Q Q1:Ex->Fn->Heap->Prop} {c:Code} {k:List Fr} {f:Fn} {H:Heap}
theorem wk_cut(h1:WK P G K sz c [] f H Q1)(h2: ∀h H',Q1 .normal h H'->WK P G K sz .skip k h H' Q)(h3: ∀i h H',Q1 (.exit i) h H'->WK P G K sz (.exit i) k h H' Q)(h4: ∀h H',Q1 .ret h H'->Q .ret h H'):
  WK P G K sz c k f H Q:=⟨fun t ht=>by
 obtain⟨z,e,s1,hx,Z⟩:=h1.out t ht
 have O:jM P G K (z+1) c ⟨t,sz,H⟩=some (e,s1):=hx
 have ax:=exec_size _ _ _ _ _ O
 obtain⟨T,A,H1⟩:=s1
 have al:A=sz:=ax
 subst al
 cases e with
 |ret=>exact⟨z,.ret,_,by rw[O];exact io k,h4 _ _ Z⟩
 |normal=>
  obtain⟨E,e,s',V,Y⟩:=(h2 _ _ Z).out T rfl
  refine⟨Nat.max z E,e,s',?_,Y⟩
  refine dA (a12 (a0K z E)) k _ _ (fun x U=>?_) _ V
  have:x=(.normal,⟨T,A,H1⟩):=by have:some (Ex.normal,(⟨T,A,H1⟩:St))=some x:=U;exact(Option.some.inj this).symm
  subst this
  exact gv (a12 (a1b z E)) _ _ _ O
 |exit i=>
  obtain⟨E,e,s',V,Y⟩:=(h3 i _ _ Z).out T rfl
  refine⟨Nat.max z E,e,s',?_,Y⟩
  refine dA (a12 (a0K z E)) k _ _ (fun x U=>?_) _ V
  have:x=(.exit i,⟨T,A,H1⟩):=by have:some (Ex.exit i,(⟨T,A,H1⟩:St))=some x:=U;exact(Option.some.inj this).symm
  subst this
  exact gv (a12 (a1b z E)) _ _ _ O⟩
def inR(lo hi:Nat)(ex:List Nat)(j:Nat):Bool:=(Nat.ble lo j&&Nat.ble j hi)||memB j ex
def hav(lo hi:Nat)(ex:List Nat)(g f:Fn):Fn:=fun j=>bif inR lo hi ex j then g j else f j
structure Leaves(lo hi:Nat)(ex:List Nat)(f f':Fn):Prop where
 out: ∀j,inR lo hi ex j=false->f' j=f j
theorem Leaves.refl{lo hi:Nat}{ex:List Nat}{f:Fn}:Leaves lo hi ex f f:=⟨fun _ _=>rfl⟩
theorem Leaves.upd{lo hi:Nat}{ex:List Nat}{f A:Fn}{i:Nat}{v:Value}(E:inR lo hi ex i=true)(h:Leaves lo hi ex f A):Leaves lo hi ex f (upd A i v):=⟨fun j z=>by
 unfold Go.R.upd;cases O:Nat.beq i j with
 |true=>have:=a04 O;subst this;rw[E]at z;cases z
 |false=>exact h.out j z⟩
theorem Leaves.eq{lo hi:Nat}{ex:List Nat}{f z:Fn}(h:Leaves lo hi ex f z):z=hav lo hi ex z f:=by
 funext j;unfold hav;cases A:inR lo hi ex j with
 |true=>rfl
 |false=>exact h.out j A
theorem bn{id:Nat}{ops:Array Oper}{A:Bool}(lo hi:Nat)(ex:List Nat)(l:List (Nat×Value))(E:Heap->Prop)
  (O:WK P G K sz (.region id ops A) [] f H fun e z H'=>e= .normal/\E H'/\Leaves lo hi ex f z/\aX z l)
  (T: ∀g H',E H'->WK P G K sz .skip k (jZ (hav lo hi ex g f) l) H' Q):WK P G K sz (.region id ops A) k f H Q:=by
 refine wk_cut O ?_ ?_ ?_
 ·rintro z H' ⟨_,hH,hl,ha⟩;have:=T z H' hH;rw[←hl.eq,gf ha]at this;exact this
 ·rintro i z H' ⟨h,_⟩;cases h
 rintro z H' ⟨h,_⟩;cases h
end
inductive ID where
 |v
 |a
 |r
 |l (b:Nat)
 |x (W:List Nat)
 |q (S:Nat->Prop)
def ID.fits:ID->Inf->Prop
 | .v,g=>g= .v
 | .a,g=> ∃b,g= .a b
 | .r,g=>fb g=true
 | .l b,g=>g= .l b
 | .x W,g=> ∃w,g= .x w/\∀b,b∈w->b∈W
 | .q S,g=>g= .v\/∃b,g= .l b/\S b
def ID.nilW:List Nat->Prop
 | []=>True
 |_=>False
def cD:ID->ID->Prop
 | .v,_=>True
 |_,.v=>True
 | .q S,.x W=> ∀b,b∈W->¬S b
 | .x W,.q S=> ∀b,b∈W->¬S b
 | .l b,.x W=>b∉W
 | .x W,.l b=>b∉W
 | .x W,.x U=>ID.nilW W/\ID.nilW U
 | .a,.x W=>ID.nilW W
 | .r,.x W=>ID.nilW W
 | .x _,.a=>True
 | .x W,.r=>ID.nilW W
 |_,_=>True
theorem ey{b:Nat}: ∀{l:List Nat},b∉l->memB b l=false
 | [],_=>rfl
 |c::l,h=>by
  simp only[a0g,not_or]at h;unfold memB;have:Nat.beq b c=false:=by
   cases z:Nat.beq b c with
   |false=>rfl
   |true=>exact absurd (a04 z) h.1
  rw[this,ey h.2];rfl
theorem bL: ∀{d:ID} {g:Inf},d.fits g->(∀W,d≠ .x W)->fb g=true
 | .v,_,h,_=>by subst h;rfl
 | .a,_,⟨_,h⟩,_=>by subst h;rfl
 | .r,_,h,_=>h
 | .l _,_,h,_=>by subst h;rfl
 | .x W,_,_,h=>absurd rfl (h W)
 | .q _,_,h,_=>by rcases h with rfl|⟨_,rfl,_⟩<;>rfl
theorem d9{W:List Nat}{g:Inf}(h:ID.nilW W)(z:ID.fits (.x W) g):fb g=true:=by
 obtain⟨w,rfl,A⟩:=z;cases W with
 |nil=>
  cases w with
  |nil=>rfl
  |cons a t=>have:=A a (by simp);simp at this
 |cons _ _=>exact absurd h id
theorem compat_of{d e:ID}{f g:Inf}(A:d.fits f)(z:e.fits g)(h:cD d e):dO f g=true:=by
 have E:fb f=true->fb g=true->dO f g=true:=kG;cases d with
 |v=>rw[show f= .v from A];rfl
 |a=>
  cases e with
  |x W=>exact E (bL A (by intro W h;cases h)) (d9 h z)
  |v=>rw[show g= .v from z];cases f<;>rfl
  |_=>exact E (bL A (by intro W h;cases h)) (bL z (by intro W h;cases h))
 |r=>
  cases e with
  |x W=>exact E (bL A (by intro W h;cases h)) (d9 h z)
  |v=>rw[show g= .v from z];cases f<;>rfl
  |_=>exact E (bL A (by intro W h;cases h)) (bL z (by intro W h;cases h))
 |l b=>
  cases e with
  |x W=>
   obtain⟨w,rfl,T⟩:=z
   rw[show f= .l b from A]
   show(!memB b w)=true
   rw[ey fun O=>h (T b O)];rfl
  |v=>rw[show g= .v from z];cases f<;>rfl
  |_=>exact E (bL A (by intro W h;cases h)) (bL z (by intro W h;cases h))
 |x W=>
  cases e with
  |v=>rw[show g= .v from z];cases f<;>rfl
  |a=>obtain⟨b,rfl⟩:=z;obtain⟨w,rfl,_⟩:=A;rfl
  |r=>exact E (d9 h A) z
  |q S=>
   obtain⟨w,rfl,T⟩:=A
   rcases z with rfl|⟨b,rfl,O⟩
   ·rfl
   show(!memB b w)=true
   rw[ey fun V=>h b (T b V) O];rfl
  |l b=>
   obtain⟨w,rfl,T⟩:=A
   rw[show g= .l b from z]
   show(!memB b w)=true
   rw[ey fun O=>h (T b O)];rfl
  |x U=>exact E (d9 h.1 A) (d9 h.2 z)
 |q S=>
  cases e with
  |x W=>
   obtain⟨w,rfl,T⟩:=z
   rcases A with rfl|⟨b,rfl,O⟩
   ·rfl
   show(!memB b w)=true
   rw[ey fun V=>h b (T b V) O];rfl
  |v=>rw[show g= .v from z];cases f<;>rfl
  |_=>exact E (bL A (by intro W h;cases h)) (bL z (by intro W h;cases h))
def FsD:List (Nat×Inf)->List (Nat×ID)->Prop
 | [],[]=>True
 |(j,g)::fs,(i,d)::D=>j=i/\d.fits g/\FsD fs D
 |_,_=>False
def okD(ops:Array Oper)(i:Nat)(d:ID):List (Nat×ID)->Prop
 | []=>True
 |(j,e)::D=>(bd (bV ops) j i=true\/cD e d)/\okD ops i d D
theorem du{ops:Array Oper}{i:Nat}{d:ID}{f:Inf}(z:d.fits f): ∀{fs:List (Nat×Inf)} {D:List (Nat×ID)},FsD fs D->okD ops i d D->bR (bV ops) i f fs=true
 | [],[],_,_=>rfl
 |(j,g)::fs,(_,e)::D,⟨rfl,h2,h3⟩,⟨h4,h5⟩=>by
  unfold bR;rw[du z h3 h5,a1v];rcases h4 with h4|h4
  ·rw[h4];rfl
  rw[compat_of h2 z h4,Bool.or_true]
 | [],_::_,h,_=>absurd h id
 |_::_,[],h,_=>absurd h id
section
variable {P:Program} {G:Nat} {K:bx} {sz:Nat} {Q:Ex->Fn->Heap->Prop} {ops:Array Oper} {D:List (Nat×ID)} {i:Nat} {os:List Oper} {k:List Fr} {f:Fn} {H H1:Heap} {v:Value}
 {d:Tmp} {op:Op} {ty:TypeId} {pos:String} {af:Array Edge}
structure WF2(P:Program)(G:Nat)(K:bx)(sz:Nat)(ops:Array Oper)(D:List (Nat×ID))(i:Nat)(os:List Oper)(k:List Fr)(f:Fn)(H:Heap)(Q:Ex->Fn->Heap->Prop):Prop where
 out: ∀t fs,cE t=f->FsD fs D->∃n e s',runK P G K (n+1) k (dx (bf P G (call P G K n) ops i fs os ⟨t,sz,H⟩))=some (e,s')/\Q e (cE s'.tmps) s'.heap
theorem aK{id:Nat}(E:(iO ops&&P.follows .mixedOrders)=true)(h:WF2 P G K sz ops [] 0 ops.toList k f H Q):WK P G K sz (.region id ops true) k f H Q:=⟨fun t O=>by
 obtain⟨n,e,T,z,A⟩:=h.out t [] O trivial;refine⟨n,e,T,?_,A⟩;have:jM P G K (n+1) (.region id ops true) ⟨t,sz,H⟩=dx (bf P G (call P G K n) ops 0 [] ops.toList ⟨t,sz,H⟩):=by show dx (bB P G (call P G K n) ops true ⟨t,sz,H⟩)=_;unfold bB;simp only[cond_true,E]
 rw[this];exact z⟩
theorem aW(h:WK P G K sz .skip k f H Q):WF2 P G K sz ops D i [] k f H Q:=⟨fun t fs E _=>by
 obtain⟨n,e,O,z,A⟩:=h.out t E;exact⟨n,e,O,by unfold bf;exact z,A⟩⟩
def Did(ops:Array Oper)(f:Fn)(o:Oper)(n:Nat)(log:List Nat)(d:ID):Prop:= ∀t sz H,cE t=f->d.fits (dU ops o ⟨t,sz,H⟩ n log)
theorem did_v{o:Oper}{n:Nat}{log:List Nat}(h:aV o.op=true):Did ops f o n log .v:=fun _ _ _ _=>infOf_value h
theorem eo{o:Oper}{n:Nat}{log:List Nat}(A:o.guard=none)(z:aV o.op=false)(h:ea o.op=true):Did ops f o n log .a:=fun t sz H _=>by unfold dU aY;simp only[A,a1i,z,Bool.or_self,cond_false,h,cond_true];exact⟨_,rfl⟩
theorem fB{h:Option Tmp}{lt:TypeId}{a:Operand}{n b o:Nat}{log:List Nat}(z:dF f a= .pointer (some ⟨b,o,none⟩)):Did ops f ⟨h,.load lt a,ty,pos,af,none⟩ n log (.l b):=fun t sz H A=>by
 have:cT t a= .pointer (some ⟨b,o,none⟩):=by rw[ek,A];exact z
 unfold dU aY;simp only[a1i,a1u,cond_false,ea,aV,this];rfl
theorem fp{n b:Nat}{l:List Nat}(h:b∈dg n l):b∈l/\b<n:=by
 induction l with
 |nil=>simp[dg]at h
 |cons c l ih=>
  unfold dg at h
  cases z:Nat.ble n c with
  |true=>
   rw[z]at h
   have:=ih h
   exact⟨a0r _ this.1,this.2⟩
  |false=>
   rw[z]at h
   rcases a0g.1 h with rfl|h
   ·refine⟨List.mem_cons_self ..,?_⟩;rcases a0c b n with h1|h1
    ·exact h1
    rw[a0k h1]at z;cases z
   have:=ih h
   exact⟨a0r _ this.1,this.2⟩
theorem did_r{o:Oper}{n:Nat}{log:List Nat}(h: ∀b,b∈log->n<=b):Did ops f o n log .r:=fun t sz H _=>infOf_benign (below_nil h)
theorem eL{h:Option Tmp}{x:Operand}{ts:Array TypeId}{n k m:Nat}{a:Option Addr}{log:List Nat}(A:dF f x= .slice a k m):Did ops f ⟨h,.call ⟨.builtin .len, #[x],ts⟩,ty,pos,af,none⟩ n log .v:=fun t sz H z=>by
 have:cT t x= .slice a k m:=by rw[ek,z];exact A
 unfold dU aY;simp only[a1i,a1u,cond_false,ea,aV];show ID.fits .v (match eP (cT t) [x] with| [.slice _ _ _]=>Inf.v| [.string _]=> .v|_=> .x (dg n log));show ID.fits .v (match [cT t x] with| [.slice _ _ _]=>Inf.v| [.string _]=> .v|_=> .x (dg n log));rw[this];rfl
def eV:Op->Bool
 | .load _ _| .slice _ _ _ _ _| .call ⟨.builtin .len,_,_⟩=>false
 |o=> !aV o&& !ea o
theorem bP{o:Oper}{n:Nat}{log:List Nat}{W:List Nat}(U:o.guard=none)(z:eV o.op=true)(h: ∀b,b∈log->n<=b\/b∈W):Did ops f o n log (.x W):=fun t sz H _=>by
 have E:aV o.op=false/\ea o.op=false:=by
  unfold eV at z;split at z
  ·cases z
  ·cases z
  ·cases z
  simpa using z
 refine⟨dg n log,?_,fun b T=>?_⟩
 ·unfold dU aY;simp only[U,a1i,E.1,E.2,Bool.or_self,cond_false];split
  ·rename_i A;rw[A]at z;cases z
  ·rename_i A;rw[A]at z;cases z
  ·rename_i A;rw[A]at z;cases z
  rfl
 obtain⟨O,V⟩:=fp T;rcases h b O with h3|h3
 ·omega
 exact h3
theorem wf_val{id:ID}(ha:AP P (dF f) ⟨some d,op,ty,pos,af,none⟩ {H with log:=[]} (.val v,H1))(ho:op.operands.toList.all (bh G)=true)(hd:Nat.ble (d+1) sz=true)
  (O:Did ops f ⟨some d,op,ty,pos,af,none⟩ H.next H1.log id) (T:okD ops i id D)
  (h: ∀l,(∀b,b∈l->b∈H1.log\/b∈H.log)->WF2 P G K sz ops ((i,id)::D) (i+1) os k (upd f d v) {H1 with log:=l} Q):WF2 P G K sz ops D i (⟨some d,op,ty,pos,af,none⟩::os) k f H Q:=⟨fun t fs E A=>by
 obtain⟨t',U,V⟩:=j1 (P:=P) (G:=G) (ops:=ops) (t:=t) (sz:=sz) (o:=⟨some d,op,ty,pos,af,none⟩) rfl ho (by rw[E];exact ha.eq) hd
 have hi:=O t sz H E
 obtain⟨n,e,s',Y,Z⟩:=(h (dg H.next H1.log++H.log) (fun b z=>by
  rcases a0b.1 z with z|z
  ·exact .inl (fp z).1
  exact .inr z)).out t' ((i,dU ops ⟨some d,op,ty,pos,af,none⟩ ⟨t,sz,H⟩ H.next H1.log)::fs) (by rw[V,E];rfl) ⟨rfl,hi,A⟩
 refine⟨n,e,s',?_,Z⟩
 unfold bf fG
 rw[U]
 simp only[du hi A T,cond_true]
 exact Y⟩
theorem a6{id:ID}(Z:AP P (dF f) ⟨some d,op,ty,pos,af,none⟩ {H with log:=[]} (.val v,{H with log:=[]}))(ho:op.operands.toList.all (bh G)=true)(hd:Nat.ble (d+1) sz=true)
  (E:Did ops f ⟨some d,op,ty,pos,af,none⟩ H.next [] id) (O:okD ops i id D)
  (h:WF2 P G K sz ops ((i,id)::D) (i+1) os k (upd f d v) H Q):WF2 P G K sz ops D i (⟨some d,op,ty,pos,af,none⟩::os) k f H Q:=⟨fun t fs A z=>by
 obtain⟨t',T,U⟩:=j1 (P:=P) (G:=G) (ops:=ops) (t:=t) (sz:=sz) (o:=⟨some d,op,ty,pos,af,none⟩) rfl ho (by rw[A];exact Z.eq) hd
 have hi:=E t sz H A
 obtain⟨n,e,s',V,Y⟩:=h.out t' ((i,dU ops ⟨some d,op,ty,pos,af,none⟩ ⟨t,sz,H⟩ H.next [])::fs) (by rw[U,A];rfl) ⟨rfl,hi,z⟩
 refine⟨n,e,s',?_,Y⟩
 unfold bf fG
 rw[T]
 simp only[du hi z O,cond_true,dg,a0U]
 exact V⟩
theorem wf_skip{id:ID}(ha:AP P (dF f) ⟨none,op,ty,pos,af,none⟩ {H with log:=[]} (.skip,H1))(ho:op.operands.toList.all (bh G)=true)
  (O:Did ops f ⟨none,op,ty,pos,af,none⟩ H.next H1.log id) (T:okD ops i id D)
  (h: ∀l,(∀b,b∈l->b∈H1.log\/b∈H.log)->WF2 P G K sz ops ((i,id)::D) (i+1) os k f {H1 with log:=l} Q):WF2 P G K sz ops D i (⟨none,op,ty,pos,af,none⟩::os) k f H Q:=⟨fun t fs E A=>by
 obtain⟨t',U,V⟩:=step_skip (P:=P) (G:=G) (ops:=ops) (t:=t) (sz:=sz) (o:=⟨none,op,ty,pos,af,none⟩) rfl ho (by rw[E];exact ha.eq) rfl
 have hi:=O t sz H E
 obtain⟨n,e,s',Y,Z⟩:=(h (dg H.next H1.log++H.log) (fun b z=>by
  rcases a0b.1 z with z|z
  ·exact .inl (fp z).1
  exact .inr z)).out t' ((i,dU ops ⟨none,op,ty,pos,af,none⟩ ⟨t,sz,H⟩ H.next H1.log)::fs) (by rw[V,E];rfl) ⟨rfl,hi,A⟩
 refine⟨n,e,s',?_,Z⟩
 unfold bf fG
 rw[U]
 simp only[du hi A T,cond_true]
 exact Y⟩
theorem bo{W:List Nat}{g:FuncId}{args:List Value}{R:Value->Heap->Prop}(ha:AP P (dF f) ⟨some d,op,ty,pos,af,none⟩ {H with log:=[]} (.enter g args,{H with log:=[]}))(ho:op.operands.toList.all (bh G)=true)(hd:Nat.ble (d+1) sz=true)(hk:eV op=true)
  (hc:C P G K g args {H with log:=[]} R) (ax:okD ops i (.x W) D)
  (h: ∀v z,R v z->(∀b,b∈z.log->H.next<=b\/b∈W)/\∀l,(∀b,b∈l->b∈z.log\/b∈H.log)->WF2 P G K sz ops ((i,.x W)::D) (i+1) os k (upd f d v) {z with log:=l} Q):WF2 P G K sz ops D i (⟨some d,op,ty,pos,af,none⟩::os) k f H Q:=⟨fun t fs Z U=>by
 obtain⟨O,v,z,an,hr⟩:=hc.out
 obtain⟨V,h0⟩:=h v z hr
 obtain⟨t',h1,h2⟩:=gX (s:=⟨t,sz,z⟩) (d:=some d) (v:=v) hd
 have hi:=bP (ops:=ops) (f:=f) (o:=⟨some d,op,ty,pos,af,none⟩) rfl hk V t sz H Z
 obtain⟨A,e,s',h3,h4⟩:=(h0 (dg H.next z.log++H.log) (fun b E=>by
  rcases a0b.1 E with E|E
  ·exact .inl (fp E).1
  exact .inr E)).out t' ((i,dU ops ⟨some d,op,ty,pos,af,none⟩ ⟨t,sz,H⟩ H.next z.log)::fs) (by rw[h2,Z];rfl) ⟨rfl,hi,U⟩
 refine⟨Nat.max O A,e,s',?_,h4⟩
 have a0:step P G (call P G K (Nat.max O A)) ops ⟨some d,op,ty,pos,af,none⟩ ⟨t,sz,{H with log:=[]}⟩=some ⟨t',sz,z⟩:=by unfold step aY;simp only[cond_true,ho,ek,Z,ha.eq,eA (a1b O A) _ _ _ _ an];exact h1
 unfold bf fG
 rw[a0]
 simp only[du hi U ax,cond_true]
 refine dA (a12 (a0K O A)) k _ _ (fun x T=>?_) _ h3
 cases Y:bf P G (call P G K A) ops (i+1) ((i,dU ops ⟨some d,op,ty,pos,af,none⟩ ⟨t,sz,H⟩ H.next z.log)::fs) os ⟨t',sz,{z with log:=dg H.next z.log++H.log}⟩ with
 |none=>rw[Y]at T;cases T
 |some y=>
  have:=ej (eA (P:=P) (G:=G) (K:=K) (a0K O A)) _ _ _ _ _ Y
  rw[Y]at T
  rw[this];exact T⟩
theorem inf_guard{t:Tr Value}{v want:Bool}{j:Nat}{h:Option Tmp}(E:cE t=f)(T:ca ops f j=some v)(O:v=want)(sz:Nat)(H:Heap)(n:Nat)(log:List Nat):
  dU ops ⟨h,op,ty,pos,af,some (j,want)⟩ ⟨t,sz,H⟩ n log=dU ops ⟨h,op,ty,pos,af,none⟩ ⟨t,sz,H⟩ n log:=by
 have z:aY ops ⟨h,op,ty,pos,af,some (j,want)⟩ t=true:=by rw[ge E T _ rfl,O];cases want<;>rfl
 have A:aY ops ⟨h,op,ty,pos,af,none⟩ t=true:=rfl
 unfold dU
 simp only[z,A]
theorem az{v want:Bool}{j:Nat}{A:Option Tmp}(V:ca ops f j=some v)(U:v=want)(h:WF2 P G K sz ops D i (⟨A,op,ty,pos,af,none⟩::os) k f H Q):WF2 P G K sz ops D i (⟨A,op,ty,pos,af,some (j,want)⟩::os) k f H Q:=⟨fun t fs E O=>by
 obtain⟨n,e,Z,z,Y⟩:=h.out t fs E O;refine⟨n,e,Z,?_,Y⟩;unfold bf fG at z⊢;rw[jx E V U];cases T:step P G (call P G K n) ops ⟨A,op,ty,pos,af,none⟩ ⟨t,sz,{H with log:=[]}⟩ with
 |none=>rw[T]at z;exact z
 |some s1=>
  rw[T]at z
  simp only[inf_guard E V U]
  exact z⟩
theorem iC{want:Bool}{j:Nat}(hw: ∀t,cE t=f->aY ops ⟨some d,op,ty,pos,af,some (j,want)⟩ t=false)(hd:Nat.ble (d+1) sz=true)
  (h:WF2 P G K sz ops ((i,.v)::D) (i+1) os k (upd f d undef) H Q):WF2 P G K sz ops D i (⟨some d,op,ty,pos,af,some (j,want)⟩::os) k f H Q:=⟨fun t fs O A=>by
 obtain⟨T,Y,Z⟩:=gX (s:=⟨t,sz,{H with log:=[]}⟩) (d:=some d) (v:=undef) hd
 have z:=hw t O
 have hi:dU ops ⟨some d,op,ty,pos,af,some (j,want)⟩ ⟨t,sz,H⟩ H.next []= .v:=by unfold dU;simp only[z,a1p,Bool.true_or,cond_true]
 obtain⟨n,e,s',U,V⟩:=h.out T ((i,.v)::fs) (by rw[Z,O];rfl) ⟨rfl,rfl,A⟩
 refine⟨n,e,s',?_,V⟩
 have E:step P G (call P G K n) ops ⟨some d,op,ty,pos,af,some (j,want)⟩ ⟨t,sz,{H with log:=[]}⟩=some ⟨T,sz,{H with log:=[]}⟩:=by unfold step;simp only[z,cond_false];exact Y
 have hc:bR (bV ops) i .v fs=true:=hP fun j g _=>by cases g<;>simp[dO]
 unfold bf fG
 rw[E]
 simp only[hi,hc,cond_true,dg,a0U]
 exact U⟩
theorem ak{v want:Bool}{j:Nat}(O:ca ops f j=some v)(E:v= !want)(z:Nat.ble (d+1) sz=true)(h:WF2 P G K sz ops ((i,.v)::D) (i+1) os k (upd f d undef) H Q):
  WF2 P G K sz ops D i (⟨some d,op,ty,pos,af,some (j,want)⟩::os) k f H Q:=
 iC (fun t A=>by rw[ge A O _ rfl,E];cases want<;>rfl) z h
theorem wf_gn{want:Bool}{j:Nat}(E:ca ops f j=none)(z:Nat.ble (d+1) sz=true)(h:WF2 P G K sz ops ((i,.v)::D) (i+1) os k (upd f d undef) H Q):
  WF2 P G K sz ops D i (⟨some d,op,ty,pos,af,some (j,want)⟩::os) k f H Q:=
 iC (fun t A=>by
  unfold aY;have:jt ops t j=none:=by rw[←E,←A];rfl
  simp only[this];cases want<;>rfl) z h
theorem eR{v:Bool}{j:Nat}(h:ca ops f j=some v)(E:Nat.ble (d+1) sz=true)(z:v=true->WF2 P G K sz ops D i (⟨some d,op,ty,pos,af,none⟩::os) k f H Q)(A:v=false->WF2 P G K sz ops ((i,.v)::D) (i+1) os k (upd f d undef) H Q):
  WF2 P G K sz ops D i (⟨some d,op,ty,pos,af,some (j,true)⟩::os) k f H Q:=by
 cases v with
 |true=>exact az h rfl (z rfl)
 |false=>exact ak h rfl E (A rfl)
theorem wf_gsF{v:Bool}{j:Nat}(h:ca ops f j=some v)(E:Nat.ble (d+1) sz=true)(z:v=false->WF2 P G K sz ops D i (⟨some d,op,ty,pos,af,none⟩::os) k f H Q)(A:v=true->WF2 P G K sz ops ((i,.v)::D) (i+1) os k (upd f d undef) H Q):
  WF2 P G K sz ops D i (⟨some d,op,ty,pos,af,some (j,false)⟩::os) k f H Q:=by
 cases v with
 |true=>exact ak h rfl E (A rfl)
 |false=>exact az h rfl (z rfl)
end
end Go.R
end
noncomputable section
namespace Go.R
theorem eu{n:Int}(h:in64 n):IntKind.i64.wrap n=n:=by
 have e:IntKind.i64.wrap n=if(true&&decide (n%(2^64:Int)>=(2^63:Int))) then n%(2^64:Int)-(2^64:Int) else n%(2^64:Int):=rfl
 rw[e];obtain⟨A,E⟩:=h;by_cases z:0<=n
 ·rw[Int.emod_eq_of_lt z (by omega)];have:decide (n>=(2^63:Int))=false:=decide_eq_false (by omega);rw[this];rfl
 have:n%(2^64:Int)=n+2^64:=by omega
 rw[this];have:decide (n+2^64>=(2^63:Int))=true:=decide_eq_true (by omega);rw[this];simp only[a19,if_true];omega
theorem iD{n:Int}(h:0<=n/\n<18446744073709551616):IntKind.u64.wrap n=n:=by show n%(2^64:Int)=n;exact Int.emod_eq_of_lt h.1 (by omega)
theorem w_u8{n:Int}(h:0<=n/\n<256):IntKind.u8.wrap n=n:=by show n%(2^8:Int)=n;exact Int.emod_eq_of_lt h.1 (by omega)
theorem cV(b:UInt8):(b.toNat:Int)<256:=by have:=UInt8.toNat_lt b;omega
section
variable {α:Type} [Rp α] {P:Program} {ρ:Operand->Value} {d:Option Tmp} {ty:TypeId} {pos:String} {af:Array Edge} {gd:Option (Nat×Bool)} {B:Base} {F:Fz} {H:Heap} {L R:List Fp} {v:Value} {l:List α} {p:Fp}
variable {t yt:TypeId} {x y:Operand} {k:IntKind} {a b c:Int}
theorem dm(k:IntKind):fE k k=true:=by cases k<;>rfl
theorem dE(z:ρ x= .int k a)(A:ρ y= .int k b)(h:k.wrap (a+b)=c):AP P ρ ⟨d,.binOp .add t x y yt,ty,pos,af,gd⟩ H (.val (.int k c),H):=
 hN z A (by subst h;show(bif fE k k then _ else none:Option Value)=_;rw[dm];rfl)
theorem ap_sub(z:ρ x= .int k a)(A:ρ y= .int k b)(h:k.wrap (a-b)=c):AP P ρ ⟨d,.binOp .sub t x y yt,ty,pos,af,gd⟩ H (.val (.int k c),H):=
 hN z A (by subst h;show(bif fE k k then _ else none:Option Value)=_;rw[dm];rfl)
theorem ap_mul(z:ρ x= .int k a)(A:ρ y= .int k b)(h:k.wrap (a *b)=c):AP P ρ ⟨d,.binOp .mul t x y yt,ty,pos,af,gd⟩ H (.val (.int k c),H):=
 hN z A (by subst h;show(bif fE k k then _ else none:Option Value)=_;rw[dm];rfl)
theorem ap_div(A:ρ x= .int k a)(E:ρ y= .int k b)(h:b≠0)(z:k.wrap (a.tdiv b)=c):AP P ρ ⟨d,.binOp .quo t x y yt,ty,pos,af,gd⟩ H (.val (.int k c),H):=by subst z;exact ap_quo A E (dm k) (by simpa using h)
theorem ap_cv{s:TypeId}{h:IntKind}{u:TypeDesc}(E:ρ x= .int k a)(hs:P.underlying s=some u)(z:P.underlying t=some (.int h))(A:h.wrap a=c):
  AP P ρ ⟨d,.convert s t x,ty,pos,af,gd⟩ H (.val (.int h c),H):=by subst A;exact ap_conv E hs z
theorem ap_ng(z:ρ x= .int k a)(h:k.wrap (0-a)=c):AP P ρ ⟨d,.unOp .neg t x,ty,pos,af,gd⟩ H (.val (.int k c),H):=by subst h;exact ap_neg z
theorem a7{op:BinOp}{r:Bool}(z:ρ x= .int k a)(A:ρ y= .int k b)(h:jG op k a b=some (.bool r))(hs:ja op=false):AP P ρ ⟨d,.binOp op t x y yt,ty,pos,af,gd⟩ H (.val (.bool r),H):=
 hN z A (by rw[hs,dm];exact h)
variable {s u:List UInt8}
theorem cM{i:Operand}{z:IntKind}{j:Int}{h:UInt8}(O:ρ x= .string ⟨⟨s⟩⟩)(hi:ρ i= .int z j)(E:P.underlying t=some .string)(A:0<=j)(hc:s[j.toNat]?=some h):
  AP P ρ ⟨d,.index t x i,ty,pos,af,gd⟩ H (.val (.int .u8 h.toNat),H):=by
 refine⟨?_⟩
 obtain⟨m,rfl⟩:=a0O A
 show jk P t (ρ x) (ρ i) H=_
 rw[O,hi]
 show ovl (strAt P t ⟨⟨s⟩⟩ (.int z (Int.ofNat m))) H=_
 unfold strAt
 rw[E]
 show ovl (match nth s m with|some b=>some (.int .u8 b.toNat)|none=>none) H=_
 rw[gk]
 have:s[m]?=some h:=hc
 rw[this];rfl
theorem ap_eqS(h:ρ x= .string ⟨⟨s⟩⟩)(z:ρ y= .string ⟨⟨u⟩⟩):AP P ρ ⟨d,.binOp .eql t x y yt,ty,pos,af,gd⟩ H (.val (.bool (s==u)),H):=ap_str h z rfl
theorem ap_neS(h:ρ x= .string ⟨⟨s⟩⟩)(z:ρ y= .string ⟨⟨u⟩⟩):AP P ρ ⟨d,.binOp .neq t x y yt,ty,pos,af,gd⟩ H (.val (.bool (s !=u)),H):=ap_str h z rfl
theorem ap_leS(h:ρ x= .string ⟨⟨s⟩⟩)(z:ρ y= .string ⟨⟨u⟩⟩):AP P ρ ⟨d,.binOp .leq t x y yt,ty,pos,af,gd⟩ H (.val (.bool (Op.bytesLess s u||s==u)),H):=ap_str h z rfl
theorem ap_ltS(h:ρ x= .string ⟨⟨s⟩⟩)(z:ρ y= .string ⟨⟨u⟩⟩):AP P ρ ⟨d,.binOp .lss t x y yt,ty,pos,af,gd⟩ H (.val (.bool (Op.bytesLess s u)),H):=ap_str h z rfl
theorem ap_addS(z:ρ x= .string ⟨⟨s⟩⟩)(A:ρ y= .string ⟨⟨u⟩⟩)(h:s.length+u.length<=1099511627776):AP P ρ ⟨d,.binOp .add t x y yt,ty,pos,af,gd⟩ H (.val (.string ⟨⟨s++u⟩⟩),H):=
 ap_str z A (by
  show(bif Nat.ble (g0 (appL s u)) 1099511627776 then some (Value.string ⟨⟨appL s u⟩⟩) else none)=_;rw[dr,bC,a01,a0k h];rfl)
def cutAt(n:Nat)(lo hi:Option Value)(i j:Nat):Prop:=bnds n n lo hi=some (i,j)
theorem bnds_of{n k i j:Nat}{lo hi:Option Value}(z:dL n hi=some j)(A:dL 0 lo=some i)(h:i<=j)(E:j<=k):bnds n k lo hi=some (i,j):=by unfold bnds;simp only[z,A,a0k h,a0k E,a19,cond_true]
theorem optN{d:Nat}{z:IntKind}{j:Int}(h:0<=j):dL d (some (.int z j))=some j.toNat:=by obtain⟨m,rfl⟩:=a0O h;rfl
theorem optN0{d:Nat}:dL d none=some d:=rfl
theorem ap_slS{lo hi:Option Operand}{i j:Nat}(T:ρ x= .string ⟨⟨s⟩⟩)(O:P.underlying t=some .string)(z:dL s.length (hi.map ρ)=some j)(A:dL 0 (lo.map ρ)=some i)(h:i<=j)(E:j<=s.length):
  AP P ρ ⟨d,.slice t x lo hi none,ty,pos,af,gd⟩ H (.val (.string ⟨⟨(s.drop i).take (j-i)⟩⟩),H):=by
 refine⟨?_⟩
 show ovl (bS P t (ρ x) (lo.map ρ) (hi.map ρ) (Option.map ρ none) H) H=_
 rw[T]
 unfold bS
 simp only[Option.map_none,O]
 show ovl (match bnds (g0 s) (g0 s) (lo.map ρ) (hi.map ρ) with|some (l,r)=>some (.string ⟨⟨gg (gx s l) (r-l)⟩⟩)|none=>none) H=_
 rw[bC,bnds_of z A h E]
 simp only[bT,cn];rfl
theorem os_lit{t:TypeId}{n:Nat}{z:List Value}{h:Array (Nat×Operand)}{cells:List Value}(hs:HS B F H L R)(hi:ev P t=some (Rp.sz α,z))(V:Nat.ble (n *Rp.sz α) 16777216=true)
  (T:Instr.fill (fun i=>some (i *Rp.sz α,Rp.sz α)) ⟨dj n z⟩ (eP (fun p=>(p.1,ρ p.2)) h.toList)=some ⟨cells⟩) (A:RL F cells l) (U:l.length=n):
  ∃a H1 E,AP P ρ ⟨d,.buildSlice t n h,ty,pos,af,gd⟩ H (.val (.slice a n n),H1)/\OS F (.slice a n n) l E/\HS B F H1 (L++[E]) R/\∀b,b∈H1.log->b∈H.log:=by
 subst U
 refine⟨_,_,[(H.next,.cells cells none false)],kI hi V T,?_,hs.push _,fun b O=>by simpa using O⟩
 have:=A.length
 exact .inr ⟨H.next,0,l.length,cells,none,rfl,rfl,_,_,_,rfl,fun _=>(by omega),a05 _,by rw[a1g,←this,a17];exact A,.inl rfl⟩
theorem ap_app{h z:Operand}{st A:TypeId}{u w:Value}{H1:Heap}(O:ρ h=v)(T:ρ z=u)(E:eN P #[st,A] v u H=some (w,H1)):AP P ρ ⟨d,.call ⟨.builtin .append, #[h,z], #[st,A]⟩,ty,pos,af,gd⟩ H (.val w,H1):=by refine⟨?_⟩;show ovh (eN P #[st,A] (ρ h) (ρ z) H)=_;rw[O,T,E];rfl
theorem os_app{s0 x0:Operand}{st e:TypeId}{u:Value}{A:List α}{q O:Nat}{z:List Value}(h:OS F v l p)(hs:HS B F H L R)(hq:L[q]?=some p)(hx:ρ s0=v)(hy:ρ x0=u)(hu:Sv F H.get u A)(Y:P.underlying st=some (.slice e))
  (hz:ei P e=some (Rp.sz α)) (V:fZ P e=some O) (an:dK P e=some z) (al:Nat.beq (g0 z) (Rp.sz α)=true) (U:Nat.ble O 4096=true) (Z:Nat.beq (Rp.sz α) 0=false) (T:l.length+A.length<=2147483648):
  ∃a k H1 E,AP P ρ ⟨d,.call ⟨.builtin .append, #[s0,x0], #[st,st]⟩,ty,pos,af,gd⟩ H (.val (.slice a (l++A).length k),H1)/\OS F (.slice a (l++A).length k) (l++A) E/\HS B F H1 (L.set q E) R:=by
 obtain⟨h1,b3,h2,h3⟩:=hu.first
 obtain⟨a,k,H1,E,h4,h5,h6⟩:=os_append (types:= #[st,st]) h hs hq (x:=u) rfl rfl Y Y (by intro k hk;cases hk) hz V an al U Z h1 h2 h3 T
 exact⟨a,k,H1,E,ap_app hx hy h4,h5,h6⟩
end
end Go.R
end
noncomputable section
namespace Go.R
theorem agN{f:Fn}:aX f []:=trivial
theorem agC{f:Fn}{i:Nat}{v:Value}{l:List (Nat×Value)}(h:f i=v)(t:aX f l):aX f ((i,v)::l):=⟨h,t⟩
theorem fA{ops:Array Oper}{i:Nat}: ∀D,okD ops i .v D
 | []=>trivial
 |(_,e)::D=>⟨.inr (by cases e<;>trivial),fA D⟩
structure Rs where
 v:Value
 H:Heap
 p:Fp
section
variable {P:Program} {G:Nat} {K:bx} {sz:Nat} {Q:Ex->Fn->Heap->Prop} {ops:Array Oper} {D:List (Nat×ID)} {i:Nat} {os:List Oper} {k:List Fr} {f:Fn} {H H1:Heap} {v:Value}
 {d:Tmp} {op:Op} {ty:TypeId} {pos:String} {af:Array Edge} {Φ:Rs->Prop}
theorem aI(E: ∃r:Rs,AP P (dF f) ⟨some d,op,ty,pos,af,none⟩ H (.val r.v,r.H)/\Φ r)(T:op.operands.toList.all (bh G)=true)(O:Nat.ble (d+1) sz=true)
  (h: ∀v H1 p,Φ ⟨v,H1,p⟩->WO P G K sz ops os k (upd f d v) H1 Q):WO P G K sz ops (⟨some d,op,ty,pos,af,none⟩::os) k f H Q:=by
 obtain⟨⟨v,H1,p⟩,z,A⟩:=E
 exact ad z T O (h v H1 p A)
theorem aq(E: ∃r:Rs,AP P (dF f) ⟨none,op,ty,pos,af,none⟩ H (.skip,r.H)/\Φ r)(O:op.operands.toList.all (bh G)=true)
  (h: ∀v H1 p,Φ ⟨v,H1,p⟩->WO P G K sz ops os k f H1 Q):WO P G K sz ops (⟨none,op,ty,pos,af,none⟩::os) k f H Q:=by
 obtain⟨⟨v,H1,p⟩,z,A⟩:=E
 exact wo_skip z O (h v H1 p A)
theorem ct{id:ID}(T: ∃r:Rs,AP P (dF f) ⟨some d,op,ty,pos,af,none⟩ {H with log:=[]} (.val r.v,r.H)/\Φ r)(V:op.operands.toList.all (bh G)=true)(U:Nat.ble (d+1) sz=true)
  (A: ∀v H1 p,Φ ⟨v,H1,p⟩->Did ops f ⟨some d,op,ty,pos,af,none⟩ H.next H1.log id) (E:okD ops i id D)
  (h: ∀v H1 p,Φ ⟨v,H1,p⟩->∀l,(∀b,b∈l->b∈H1.log\/b∈H.log)->WF2 P G K sz ops ((i,id)::D) (i+1) os k (upd f d v) {H1 with log:=l} Q):
  WF2 P G K sz ops D i (⟨some d,op,ty,pos,af,none⟩::os) k f H Q:=by
 obtain⟨⟨v,H1,p⟩,O,z⟩:=T
 exact wf_val O V U (A v H1 p z) E (h v H1 p z)
theorem dH{id:ID}(T: ∃r:Rs,AP P (dF f) ⟨none,op,ty,pos,af,none⟩ {H with log:=[]} (.skip,r.H)/\Φ r)(U:op.operands.toList.all (bh G)=true)
  (A: ∀v H1 p,Φ ⟨v,H1,p⟩->Did ops f ⟨none,op,ty,pos,af,none⟩ H.next H1.log id) (E:okD ops i id D)
  (h: ∀v H1 p,Φ ⟨v,H1,p⟩->∀l,(∀b,b∈l->b∈H1.log\/b∈H.log)->WF2 P G K sz ops ((i,id)::D) (i+1) os k f {H1 with log:=l} Q):
  WF2 P G K sz ops D i (⟨none,op,ty,pos,af,none⟩::os) k f H Q:=by
 obtain⟨⟨v,H1,p⟩,O,z⟩:=T
 exact wf_skip O U (A v H1 p z) E (h v H1 p z)
end
section
variable {α:Type} [Rp α] {P:Program} {ρ:Operand->Value} {d:Option Tmp} {ty:TypeId} {pos:String} {af:Array Edge} {gd:Option (Nat×Bool)} {B:Base} {F:Fz} {H:Heap} {L R:List Fp} {v:Value} {l:List α} {p:Fp}
def Wr(H H1:Heap)(W:List Nat):Prop:= ∀b,b∈H1.log->b∈H.log\/H.next<=b\/b∈W
theorem Wr.did{H1:Heap}{W:List Nat}(h:Wr {H with log:=[]} H1 W): ∀b,b∈H1.log->H.next<=b\/b∈W:=fun b z=>by
 rcases h b z with h|h|h
 ·simp at h
 ·exact .inl h
 exact .inr h
theorem Wr.nil{H1:Heap}(h: ∀b,b∈H1.log->b∈H.log):Wr H H1 []:=fun b z=> .inl (h b z)
theorem HS.lg{B:Base}{F A:Fz}{z H1:Heap}{L E R O:List Fp}(h:HS B F H1 L R)(T:HS B A z E O){l:List Nat}(V: ∀b,b∈l->b∈H1.log\/b∈z.log):HS B F {H1 with log:=l} L R:=
 h.relog fun b U=>by
  rcases V b U with h1|h1
  ·exact h.log b h1
  exact T.log b h1
theorem aJ{e:TypeId}{z:List Value}(hs:HS B F H L R)(A:dK P e=some z):
  ∃r:Rs,AP P ρ ⟨d,.alloc e,ty,pos,af,gd⟩ H (.val r.v,r.H)/\(∃b,r.v= .pointer (some ⟨b,0,none⟩)/\HS B F r.H (L++[[(b,.cells z none false)]]) R/\Wr H r.H []):=
 ⟨⟨_,_,[]⟩,ap_alloc A,_,rfl,hs.push _,.nil fun b h=>by simpa using h⟩
theorem jz{e:TypeId}{x:Operand}{u:Value}{cs:List Value}(hs:HS B F H L R)(z:ρ x=u)(hc:u.cells.toList=cs):
  ∃r:Rs,AP P ρ ⟨d,.box e x,ty,pos,af,gd⟩ H (.val r.v,r.H)/\(∃b,r.v= .pointer (some ⟨b,0,none⟩)/\HS B F r.H (L++[[(b,.cells cs none false)]]) R/\Wr H r.H []):=
 ⟨⟨_,_,[]⟩,ap_box (by rw[z];exact hc),_,rfl,hs.push _,.nil fun b h=>by simpa using h⟩
theorem a5{t:TypeId}{n:Nat}{z:List Value}{h:Array (Nat×Operand)}{ps:List (Nat×Value)}{cells:List Value}(l:List α)(hs:HS B F H L R)(E:eP (fun p=>(p.1,ρ p.2)) h.toList=ps)(hi:ev P t=some (Rp.sz α,z))(Z:Nat.ble (n *Rp.sz α) 16777216=true)
  (Y:Instr.fill (fun i=>some (i *Rp.sz α,Rp.sz α)) ⟨dj n z⟩ ps=some ⟨cells⟩) (hr:RL F cells l) (A:l.length=n):
  ∃r:Rs,AP P ρ ⟨d,.buildSlice t n h,ty,pos,af,gd⟩ H (.val r.v,r.H)/\(∃a k,r.v= .slice a l.length k/\OS F (.slice a l.length k) l r.p/\HS B F r.H (L++[r.p]) R/\Wr H r.H []):=by
 subst E
 obtain⟨a,H1,p',O,T,U,V⟩:=os_lit (d:=d) (ty:=ty) (pos:=pos) (af:=af) (gd:=gd) hs hi Z Y hr A
 exact⟨⟨_,H1,p'⟩,O,a,n,by rw[A],by rw[A];exact T,U,.nil V⟩
theorem bX{s0 x0:Operand}{st e:TypeId}{u:Value}{A:List α}{q E:Nat}{z:List Value}(h:OS F v l p)(hs:HS B F H L R)(Z:L[q]?=some p)(hx:ρ s0=v)(hy:ρ x0=u)(hu:Sv F H.get u A)(ht:P.underlying st=some (.slice e))
  (hz:ei P e=some (Rp.sz α)) (Y:fZ P e=some E) (ax:dK P e=some z) (an:Nat.beq (g0 z) (Rp.sz α)=true) (V:Nat.ble E 4096=true) (al:Nat.beq (Rp.sz α) 0=false) (T:l.length+A.length<=2147483648):
  ∃r:Rs,AP P ρ ⟨d,.call ⟨.builtin .append, #[s0,x0], #[st,st]⟩,ty,pos,af,gd⟩ H (.val r.v,r.H)/\(∃a k,r.v= .slice a (l++A).length k/\OS F (.slice a (l++A).length k) (l++A) r.p/\HS B F r.H (L.set q r.p) R/\Wr H r.H (p.map Prod.fst)):=by
 have hc:=hs.callOwn Z
 obtain⟨a,k,H1,p',h1,h2,U⟩:=os_app (d:=d) (ty:=ty) (pos:=pos) (af:=af) (gd:=gd) (q:=0) h hc rfl hx hy hu ht hz Y ax an V al T
 have h4:=hs.backOwn (M:=[]) Z rfl (fun b O=>O) U
 exact⟨⟨_,H1,p'⟩,h1,a,k,rfl,h2,by simpa using h4,fun b O=>U.log b O⟩
theorem ae{t:TypeId}{E V:Operand}{q n b o:Nat}{w:Value}{h cs A:List Value}(hs:HS B F H L R)(U:L[q]?=some [(b,.cells cs none false)])(ha:ρ E= .pointer (some ⟨b,o,none⟩))(hx:ρ V=w)(hn:ei P t=some n)(hc:w.cells.toList=h)(hl:Nat.beq h.length n=true)
  (z:Nat.ble (o+h.length) cs.length=true) (Z:allL Value.oneCell' h=true) (he:bW cs o h=A):
  ∃r:Rs,AP P ρ ⟨d,.store t E V,ty,pos,af,gd⟩ H (.skip,r.H)/\(HS B F r.H (L.set q [(b,.cells A none false)]) R/\Wr H r.H [b]):=by
 have T:=hs.callOwn U
 obtain⟨H1,Y,O⟩:=T.st (i:=0) rfl z Z he
 have h4:=hs.backOwn (M:=[]) U rfl (fun b z=>z) O
 exact⟨⟨.bool true,H1,[]⟩,ap_st ha hx hn hc hl Y,by simpa using h4,fun b z=>O.log b z⟩
end
theorem flat_sub{β:Type}{z L:List (List β)}(h:List.Sublist z L):List.Sublist z.flatten L.flatten:=by
 induction h with
 |slnil=>exact List.Sublist.refl _
 |cons a _ ih=>rw[a0z];exact ih.trans (List.sublist_append_right _ _)
 |cons_cons a _ ih=>rw[a0z,a0z];exact(List.Sublist.refl a).append ih
theorem HS.sub{B:Base}{F:Fz}{H:Heap}{L E R:List Fp}(h:HS B F H L R)(z:List.Sublist E L):HS B F H E R:=
 ⟨h.fz,fun p A b o O=>h.own p (A.imp (fun x=>z.subset x) id) b o O,((flat_sub (z.append (List.Sublist.refl R))).map _).nodup h.nd,h.n0,h.log,fun p A=>h.mine p (z.subset A)⟩
theorem HS.forget{B:Base}{F:Fz}{H:Heap}{L R:List Fp}(h:HS B F H L R):HS B F H [] R:=h.sub (List.nil_sublist _)
theorem HS.only{B:Base}{F:Fz}{H:Heap}{L R:List Fp}{p:Fp}(h:HS B F H L R){i:Nat}(hi:L[i]?=some p):HS B F H [p] R:=h.sub (List.singleton_sublist.2 (a0h hi))
section
variable {α:Type} [Rp α] {F:Fz} {B:Base} {H:Heap} {L R:List Fp} {v:Value} {l:List α} {p:Fp}
theorem OS.frz(h:OS F v l p)(hs:HS B F H L R){i:Nat}(hi:L[i]?=some p): ∃F',F.le F'/\HS B F' H (L.set i []) R/\SR F' v l/\∀b o,(b,o)∈p->F' b=some o:=by
 obtain⟨F',E,U,O⟩:=hs.freeze hi;refine⟨F',E,U,?_,O⟩;rcases h with⟨z,A,_⟩|⟨b,T,k,cs,Y,z,A,V⟩
 ·exact .inl ⟨z,A⟩
 exact .inr ⟨b,T,k,_,z,O b _ (by rw[A];simp),V.mono E⟩
end
theorem aU{β:Type}{l:List β}{j:Nat}{x:β}(h:j<l.length):l[j]?=some (l.getD j x):=by rw[a08,a09 h];rfl
theorem w_tdiv{a b:Int}(z:in64 a)(Y:b≠ -1):IntKind.i64.wrap (a.tdiv b)=a.tdiv b:=by
 apply eu;by_cases A:b=0
 ·subst A;rw[Int.tdiv_zero];decide
 have h:(a.tdiv b).natAbs=a.natAbs/b.natAbs:=Int.natAbs_tdiv a b;by_cases E:b=1
 ·subst E;rw[Int.tdiv_one];exact z
 have O:2<=b.natAbs:=by omega
 have T:(a.tdiv b).natAbs *2<=a.natAbs:=by rw[h];exact a0j (Nat.mul_le_mul_left _ O) (Nat.div_mul_le_self _ _)
 obtain⟨U,V⟩:=z;clear h;constructor<;>omega
theorem BS:(∀a b:Bool,((a&&b)=true)=(a=true/\b=true))/\(∀a b:Bool,((a||b)=true)=(a=true\/b=true))/\(∀a b:Bool,((a&&b)=false)=(a=true->b=false))/\(∀a b:Bool,((a||b)=false)=(a=false/\b=false))/\
  (∀a:Bool,((!a)=true)=(a=false))/\(∀a:Bool,((!a)=false)=(a=true))/\(∀(q:Prop) [Decidable q],(decide q=true)=q)/\(∀(q:Prop) [Decidable q],(decide q=false)= ¬q)/\
  (∀a b:Int,((a==b)=true)=(a=b))/\(∀a b:Int,((a==b)=false)=(a≠b))/\(∀a b:Int,((a !=b)=true)=(a≠b))/\(∀a b:Int,((a !=b)=false)=(a=b))/\
  (∀a b:List UInt8,((a==b)=true)=(a=b))/\(∀a b:List UInt8,((a==b)=false)=(a≠b))/\(∀a b:List UInt8,((a !=b)=true)=(a≠b))/\(∀a b:List UInt8,((a !=b)=false)=(a=b))/\
  (∀a b:Bool,((a==b)=true)=(a=b))/\(∀a b:Bool,((a==b)=false)=(a≠b))/\(∀a b:Bool,((a !=b)=true)=(a≠b))/\(∀a b:Bool,((a !=b)=false)=(a=b)):=by
 refine⟨?_,?_,?_,?_,?_,?_,?_,?_,?_,?_,?_,?_,?_,?_,?_,?_,?_,?_,?_,?_⟩<;>intros<;>simp
theorem BT:(∀a:Bool,(true&&a)=a)/\(∀a:Bool,(false&&a)=false)/\(∀a:Bool,(a&&true)=a)/\(∀a:Bool,(a&&false)=false)/\(∀a:Bool,(true||a)=true)/\(∀a:Bool,(false||a)=a)/\(∀a:Bool,(a||true)=true)/\(∀a:Bool,(a||false)=a)/\(!true)=false/\(!false)=true:=by simp
theorem Lr{lo hi:Nat}{ex:List Nat}{f:Fn}:Leaves lo hi ex f f:= .refl
theorem Lu{lo hi:Nat}{ex:List Nat}{f z:Fn}{i:Nat}{v:Value}(A:inR lo hi ex i=true)(h:Leaves lo hi ex f z):Leaves lo hi ex f (upd z i v):= .upd A h
section
variable {P:Program} {G:Nat} {K:bx} {sz:Nat} {Q:Ex->Fn->Heap->Prop} {ops:Array Oper} {D:List (Nat×ID)} {i:Nat} {os:List Oper} {k:List Fr} {f:Fn} {H H1:Heap} {d:Tmp} {ty:TypeId} {pos:String} {af:Array Edge} {x:Operand}
theorem wm(v:Value)(E:dF f x=v)(A:(Op.move x).operands.toList.all (bh G)=true)(z:Nat.ble (d+1) sz=true)(h:WO P G K sz ops os k (upd f d v) H Q):WO P G K sz ops (⟨some d,.move x,ty,pos,af,none⟩::os) k f H Q:=ad (ap_move E) A z h
theorem wa(v:Value)(E:dF f x=v)(A:(Op.assign x).operands.toList.all (bh G)=true)(z:Nat.ble (d+1) sz=true)(h:WO P G K sz ops os k (upd f d v) H Q):WO P G K sz ops (⟨some d,.assign x,ty,pos,af,none⟩::os) k f H Q:=ad (jj E) A z h
theorem fm(v:Value)(E:dF f x=v)(A:(Op.move x).operands.toList.all (bh G)=true)(z:Nat.ble (d+1) sz=true)(h:WF2 P G K sz ops ((i,.v)::D) (i+1) os k (upd f d v) H Q):WF2 P G K sz ops D i (⟨some d,.move x,ty,pos,af,none⟩::os) k f H Q:=a6 (ap_move E) A z (did_v rfl) (fA _) h
theorem fa(v:Value)(E:dF f x=v)(A:(Op.assign x).operands.toList.all (bh G)=true)(z:Nat.ble (d+1) sz=true)(h:WF2 P G K sz ops ((i,.v)::D) (i+1) os k (upd f d v) H Q):WF2 P G K sz ops D i (⟨some d,.assign x,ty,pos,af,none⟩::os) k f H Q:=a6 (jj E) A z (did_v rfl) (fA _) h
end
end Go.R
end
noncomputable section
set_option linter.unusedVariables false
namespace Go.R
section
variable {P:Program} {G:Nat} {K:bx} {sz:Nat} {Q:Ex->Fn->Heap->Prop} {ops:Array Oper} {D:List (Nat×ID)} {i:Nat} {os:List Oper} {k:List Fr} {f:Fn} {H:Heap} {v:Value}
 {d:Tmp} {op:Op} {ty:TypeId} {pos:String} {af:Array Edge}
def cB:ID->ID->Bool
 | .v,_=>true
 |_,.v=>true
 |_,.x _=>false
 | .x _,.a=>true
 | .x _,_=>false
 |_,_=>true
theorem cB_ok{e d:ID}(h:cB e d=true):cD e d:=by cases e<;>cases d<;>first|exact trivial|cases h
def okB(ops:Array Oper)(i:Nat)(d:ID):List (Nat×ID)->Bool
 | []=>true
 |(j,e)::D=>(cB e d||bd (bV ops) j i)&&okB ops i d D
theorem kb: ∀{D:List (Nat×ID)} {e:ID},okB ops i e D=true->okD ops i e D
 | [],_,_=>trivial
 |(j,g)::D,e,h=>by unfold okB at h;rw[a03,a0D]at h;exact⟨h.1.elim (fun h=> .inr (cB_ok h)) .inl,kb h.2⟩
theorem wfv(z:AP P (dF f) ⟨some d,op,ty,pos,af,none⟩ {H with log:=[]} (.val v,{H with log:=[]}))
  (h:WF2 P G K sz ops ((i,.v)::D) (i+1) os k (upd f d v) H Q) (O:aV op=true:=by rfl) (E:op.operands.toList.all (bh G)=true:=by rfl) (A:Nat.ble (d+1) sz=true:=by rfl):WF2 P G K sz ops D i (⟨some d,op,ty,pos,af,none⟩::os) k f H Q:=a6 z E A (did_v O) (fA _) h
end
end Go.R
end
noncomputable section
set_option linter.unusedVariables false
namespace Go.R
open Go
section
variable {I J:Int->Value->Prop} {es:List (Value×Value)}
def TabI(I:Int->Value->Prop)(es:List (Value×Value)):Prop:= ∀e,e∈es->∃k,e.1= .int .i64 k/\I k e.2
end
section
variable {P:Program} {ρ:Operand->Value} {d:Option Tmp} {ty:TypeId} {pos:String} {af:Array Edge} {gd:Option (Nat×Bool)} {B:Base} {F:Fz} {H:Heap} {L R:List Fp} {I:Int->Value->Prop} {es:List (Value×Value)}
end
end Go.R
end
