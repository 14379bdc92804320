/-
Symbolic runs: heaps with owners, what cells stand for.
-/
import Derived.Test.YtknafdcgpaejlaaDoorZFRB
noncomputable section
set_option linter.unusedVariables false
set_option linter.unusedSimpArgs false
namespace Go.R
abbrev Fn:=Nat->Value
def upd(f:Fn)(i:Nat)(v:Value):Fn:=fun j=>bif Nat.beq i j then v else f j
def updO(f:Fn)(d:Option Tmp)(v:Value):Fn:=match d with
 |some d=>upd f d v
 |none=>f
def lh(f:Fn):List (Nat×Value)->Fn
 | []=>f
 |(i,v)::l=>upd (lh f l) i v
def am(f:Fn):List (Nat×Value)->Prop
 | []=>True
 |(i,v)::l=>f i=v/\am f l
def dj(f:Fn):Operand->Value
 | .tmp t=>f t
 | .const v=>v
 | .global g=> .pointer (some ⟨g,0,none⟩)
 | .func i=> .func (.func i) #[] #[]
def argF(l:List Value):Fn:=fun j=>l.getD j undef
theorem upd_self(f:Fn){i:Nat}{v:Value}(h:f i=v):upd f i v=f:=by
 funext j;unfold upd;cases z:Nat.beq i j with
 |true=>have:=a09 z;subst this;exact h.symm
 |false=>rfl
theorem gH{f:Fn}: ∀{l:List (Nat×Value)},am f l->lh f l=f
 | [],_=>rfl
 |(i,v)::l,h=>by unfold lh;rw[gH h.2];exact upd_self f h.1
theorem lget_lset_fn(t:Tr Value)(d:Nat)(v:Value):cC (lset t d v)=upd (cC t) d v:=by
 funext j;rw[fA];unfold upd;by_cases h:d=j
 ·subst h;rw[if_pos rfl,a0Z];rfl
 rw[if_neg h];cases z:Nat.beq d j with
 |true=>exact absurd (a09 z) h
 |false=>rfl
theorem dF(t:Tr Value):cP t=dj (cC t):=by funext x;cases x<;>rfl
theorem argTmps_fn(args:List Value):cC (eB 0 args .nil)=argF args:=by
 funext j;rw[gA];unfold argF;by_cases h:j<args.length
 ·rw[if_pos (by omega)];rfl
 rw[if_neg (by omega),a01,a0Q (by omega)];rfl
inductive Fr where
 |seq (b:Code)
 |block (id:Nat)
section
variable {P:Program} {G:Nat} {K:bM} {sz:Nat} {Q:Ex->Fn->Heap->Prop}
def runK(P:Program)(G:Nat)(K:bM)(n:Nat):List Fr->Option (Ex×St)->Option (Ex×St)
 | [],r=>r
 | .seq b::k,r=>runK P G K n k (fD r (kL P G K n b))
 | .block id::k,r=>runK P G K n k (cN id r)
theorem db{n m:Nat}(h:n<=m): ∀(k:List Fr) (r r':Option (Ex×St)),(∀x,r=some x->r'=some x)->∀x,runK P G K n k r=some x->runK P G K m k r'=some x
 | [],r,r',hr,x,hx=>hr x hx
 | .seq b::k,r,r',hr,x,hx=>db h k _ _ (fun _ z=>fW hr (fun s y z=>gW h b s y z) z) x hx
 | .block id::k,r,r',hr,x,hx=>db h k _ _ (fun _ z=>iK hr z) x hx
structure WK(P:Program)(G:Nat)(K:bM)(sz:Nat)(c:Code)(k:List Fr)(f:Fn)(H:Heap)(Q:Ex->Fn->Heap->Prop):Prop where
 out: ∀t,cC t=f->∃n e s',runK P G K (n+1) k (kL P G K (n+1) c ⟨t,sz,H⟩)=some (e,s')/\Q e (cC s'.tmps) s'.heap
structure WO(P:Program)(G:Nat)(K:bM)(sz:Nat)(ops:Array Oper)(os:List Oper)(k:List Fr)(f:Fn)(H:Heap)(Q:Ex->Fn->Heap->Prop):Prop where
 out: ∀t,cC t=f->∃n e s',runK P G K (n+1) k (dD (fj P G (call P G K n) ops os ⟨t,sz,H⟩))=some (e,s')/\Q e (cC s'.tmps) s'.heap
structure C(P:Program)(G:Nat)(K:bM)(f:FuncId)(args:List Value)(H:Heap)(R:Value->Heap->Prop):Prop where
 out: ∃n v H',call P G K n f args H=some (v,H')/\R v H'
theorem C.mono{f:FuncId}{args:List Value}{H:Heap}{R z:Value->Heap->Prop}(h:C P G K f args H R)(N: ∀v H',R v H'->z v H'):C P G K f args H z:=by obtain⟨n,v,H',A,E⟩:=h.out;exact⟨n,v,H',A,N _ _ E⟩
variable {c:Code} {k:List Fr} {f:Fn} {H:Heap}
theorem bc(h:Q .normal f H):WK P G K sz .skip [] f H Q:=⟨fun t z=>⟨0,.normal,⟨t,sz,H⟩,rfl,by rw[z];exact h⟩⟩
theorem wk_skip_seq{b:Code}(h:WK P G K sz b k f H Q):WK P G K sz .skip (.seq b::k) f H Q:=⟨h.out⟩
theorem kY{id:Nat}(h:WK P G K sz .skip k f H Q):WK P G K sz .skip (.block id::k) f H Q:=⟨h.out⟩
theorem wk_seq{a b:Code}(h:WK P G K sz a (.seq b::k) f H Q):WK P G K sz (.seq a b) k f H Q:=⟨h.out⟩
theorem wk_block{id:Nat}{b:Code}(h:WK P G K sz b (.block id::k) f H Q):WK P G K sz (.block id b) k f H Q:=⟨h.out⟩
theorem wk_loop{b:Code}(h:WK P G K sz b (.seq (.loop b)::k) f H Q):WK P G K sz (.loop b) k f H Q:=⟨fun t N=>by
 obtain⟨n,e,U,A,E⟩:=h.out t N;refine⟨n+1,e,U,?_,E⟩;refine db (Nat.le_succ (n+1)) k _ _ (fun x T=>?_) _ A;show fD (kL P G K (n+2) b ⟨t,sz,H⟩) (kL P G K (n+1) (.loop b))=some x;exact fW (fun y z=>gV _ _ _ _ z) (fun _ _ z=>z) T⟩
theorem wk_exit_seq{id:Nat}{b:Code}(h:WK P G K sz (.exit id) k f H Q):WK P G K sz (.exit id) (.seq b::k) f H Q:=⟨h.out⟩
theorem kZ{id:Nat}(h:WK P G K sz .skip k f H Q):WK P G K sz (.exit id) (.block id::k) f H Q:=⟨fun t E=>by
 obtain⟨n,e,N,z,A⟩:=h.out t E;refine⟨n,e,N,?_,A⟩;show runK P G K (n+1) k (cN id (some (.exit id,⟨t,sz,H⟩)))=_;unfold cN;simp only[a0Z,cond_true];exact z⟩
theorem iU{id z:Nat}(A:Nat.beq id z=false)(h:WK P G K sz (.exit id) k f H Q):WK P G K sz (.exit id) (.block z::k) f H Q:=⟨fun t T=>by
 obtain⟨n,e,U,E,N⟩:=h.out t T;refine⟨n,e,U,?_,N⟩;show runK P G K (n+1) k (cN z (some (.exit id,⟨t,sz,H⟩)))=_;unfold cN;simp only[A,cond_false];exact E⟩
theorem i8{n:Nat}{s:St}: ∀k:List Fr,runK P G K n k (some (.ret,s))=some (.ret,s)
 | []=>rfl
 | .seq _::k=>i8 k
 | .block _::k=>i8 k
theorem aj(h:Q .ret f H):WK P G K sz .ret k f H Q:=⟨fun t z=>⟨0,.ret,⟨t,sz,H⟩,i8 k,by rw[z];exact h⟩⟩
theorem wk_cond{x:Operand}{a b:Code}{v:Bool}(hx:dj f x= .bool v)(V:bC G x=true)(Z:v=true->WK P G K sz a k f H Q)(U:v=false->WK P G K sz b k f H Q):WK P G K sz (.cond x a b) k f H Q:=⟨fun t N=>by
 have z: ∀n,kL P G K (n+1) (.cond x a b) ⟨t,sz,H⟩=bif v then kL P G K (n+1) a ⟨t,sz,H⟩ else kL P G K (n+1) b ⟨t,sz,H⟩:=by intro n;show(bif bC G x then kM (cP t x) _ _ else none)=_;rw[V,dF,N,hx];rfl
 cases v with
 |true=>
  obtain⟨n,e,T,A,E⟩:=(Z rfl).out t N
  exact⟨n,e,T,by rw[z];exact A,E⟩
 |false=>
  obtain⟨n,e,T,A,E⟩:=(U rfl).out t N
  exact⟨n,e,T,by rw[z];exact A,E⟩⟩
theorem wk_true{x:Operand}{a b:Code}{v:Bool}(E:dj f x= .bool v)(A:v=true)(z:bC G x=true)(h:WK P G K sz a k f H Q):WK P G K sz (.cond x a b) k f H Q:=
 wk_cond E z (fun _=>h) (fun e=>by rw[A]at e;cases e)
theorem aa{id:Nat}{ops:Array Oper}(h:WO P G K sz ops ops.toList k f H Q):WK P G K sz (.region id ops false) k f H Q:=⟨h.out⟩
theorem gF{ops:Array Oper}(h:WK P G K sz .skip k f H Q):WO P G K sz ops [] k f H Q:=⟨h.out⟩
theorem ak(l:List (Nat×Value))(z:am f l)(h: ∀g,WK P G K sz c k (lh g l) H Q):WK P G K sz c k f H Q:=by have:=h f;rwa [gH z]at this
structure AP(P:Program)(ρ:Operand->Value)(o:Oper)(H:Heap)(r:AN×Heap):Prop where
 eq:aop P ρ o H=some r
def dstOK(d:Option Tmp)(sz:Nat):Bool:=match d with
 |some d=>Nat.ble (d+1) sz
 |none=>true
theorem gL{s:St}{d:Option Tmp}{v:Value}(E:dstOK d s.size=true): ∃A,s.put d v=some {s with tmps:=A}/\cC A=updO (cC s.tmps) d v:=by
 unfold St.put;cases d with
 |none=>exact⟨s.tmps,rfl,rfl⟩
 |some d=>
  have z:Nat.ble (d+1) s.size=true:=E
  simp only[z,cond_true]
  exact⟨lset s.tmps d v,rfl,lget_lset_fn _ _ _⟩
section
variable {ops:Array Oper} {o:Oper} {os:List Oper} {v:Value} {H1:Heap}
theorem lp{t:Tr Value}(U:o.guard=none)(V:o.op.operands.toList.all (bC G)=true)(N:aop P (dj (cC t)) o H=some (.val v,H1))(T:dstOK o.dst sz=true):
  ∃z,(∀cf,step P G cf ops o ⟨t,sz,H⟩=some ⟨z,sz,H1⟩)/\cC z=updO (cC t) o.dst v:=by
 obtain⟨z,A,E⟩:=gL (s:=⟨t,sz,H1⟩) (v:=v) T
 refine⟨z,fun cf=>?_,E⟩
 unfold step bd
 simp only[U,cond_true,V,dF,N]
 exact A
theorem step_skip{t:Tr Value}(U:o.guard=none)(V:o.op.operands.toList.all (bC G)=true)(N:aop P (dj (cC t)) o H=some (.skip,H1))(T:dstOK o.dst sz=true):
  ∃z,(∀cf,step P G cf ops o ⟨t,sz,H⟩=some ⟨z,sz,H1⟩)/\cC z=updO (cC t) o.dst undef:=by
 obtain⟨z,A,E⟩:=gL (s:=⟨t,sz,H1⟩) (v:=undef) T
 refine⟨z,fun cf=>?_,E⟩
 unfold step bd
 simp only[U,cond_true,V,dF,N]
 exact A
theorem bB{d:Tmp}{op:Op}{ty:TypeId}{pos:String}{af:Array Edge}(U:AP P (dj f) ⟨some d,op,ty,pos,af,none⟩ H (.val v,H1))(Z:op.operands.toList.all (bC G)=true)(V:Nat.ble (d+1) sz=true)
  (h:WO P G K sz ops os k (upd f d v) H1 Q):WO P G K sz ops (⟨some d,op,ty,pos,af,none⟩::os) k f H Q:=⟨fun t z=>by
 obtain⟨t',A,E⟩:=lp (P:=P) (G:=G) (ops:=ops) (t:=t) (o:=⟨some d,op,ty,pos,af,none⟩) rfl Z (by rw[z];exact U.eq) V
 obtain⟨n,e,s',N,T⟩:=h.out t' (by rw[E,z];rfl)
 refine⟨n,e,s',?_,T⟩
 rw[bW,A]
 exact N⟩
theorem wo_skip{op:Op}{ty:TypeId}{pos:String}{af:Array Edge}(U:AP P (dj f) ⟨none,op,ty,pos,af,none⟩ H (.skip,H1))(V:op.operands.toList.all (bC G)=true)
  (h:WO P G K sz ops os k f H1 Q):WO P G K sz ops (⟨none,op,ty,pos,af,none⟩::os) k f H Q:=⟨fun t z=>by
 obtain⟨t',A,E⟩:=step_skip (P:=P) (G:=G) (ops:=ops) (t:=t) (sz:=sz) (o:=⟨none,op,ty,pos,af,none⟩) rfl V (by rw[z];exact U.eq) rfl
 obtain⟨n,e,Z,N,T⟩:=h.out t' (by rw[E,z];rfl)
 refine⟨n,e,Z,?_,T⟩
 rw[bW,A]
 exact N⟩
theorem wo_callG{d:Option Tmp}{op:Op}{ty:TypeId}{pos:String}{af:Array Edge}{g:FuncId}{args:List Value}{R:Value->Heap->Prop}(ha:AP P (dj f) ⟨d,op,ty,pos,af,none⟩ H (.enter g args,H1))(ho:op.operands.toList.all (bC G)=true)(hd:dstOK d sz=true)
  (hc:C P G K g args H1 R) (h: ∀v z,R v z->WO P G K sz ops os k (updO f d v) z Q):WO P G K sz ops (⟨d,op,ty,pos,af,none⟩::os) k f H Q:=⟨fun t ht=>by
 obtain⟨E,v,z,V,hr⟩:=hc.out
 have h0:=h v z hr
 obtain⟨U,h1,h2⟩:=gL (s:=⟨t,sz,z⟩) (v:=v) hd
 obtain⟨A,e,s',h3,h4⟩:=h0.out U (by rw[h2,ht])
 refine⟨Nat.max E A,e,s',?_,h4⟩
 have Z:step P G (call P G K (Nat.max E A)) ops ⟨d,op,ty,pos,af,none⟩ ⟨t,sz,H⟩=some ⟨U,sz,z⟩:=by unfold step bd;simp only[cond_true,ho,dF,ht,ha.eq,dK (a1I E A) _ _ _ _ V];exact h1
 rw[bW,Z]
 refine db (a1q (a1a E A)) k _ _ (fun x N=>?_) _ h3
 simp only
 cases T:fj P G (call P G K A) ops os ⟨U,sz,z⟩ with
 |none=>rw[T]at N;cases N
 |some y=>rw[gj (dK (a1a E A)) _ _ _ T];rw[T]at N;exact N⟩
theorem wo_call{d:Tmp}{op:Op}{ty:TypeId}{pos:String}{af:Array Edge}{g:FuncId}{args:List Value}{R:Value->Heap->Prop}(A:AP P (dj f) ⟨some d,op,ty,pos,af,none⟩ H (.enter g args,H1))(N:op.operands.toList.all (bC G)=true)(E:Nat.ble (d+1) sz=true)
  (hc:C P G K g args H1 R) (h: ∀v z,R v z->WO P G K sz ops os k (upd f d v) z Q):WO P G K sz ops (⟨some d,op,ty,pos,af,none⟩::os) k f H Q:=wo_callG A N E hc h
end
theorem ah{b:Code}(I:Nat->Fn->Heap->Prop)(m:Nat)(U:I m f H)
  (step: ∀m f H,I m f H->(∀A z H',A<m->I A z H'->WK P G K sz (.loop b) k z H' Q)->WK P G K sz b (.seq (.loop b)::k) f H Q):WK P G K sz (.loop b) k f H Q:=by
 have key: ∀n m,m<=n->∀f H,I m f H->WK P G K sz (.loop b) k f H Q:=by
  intro n;induction n with
  |zero=>
   intro m V f H E
   refine wk_loop (step m f H E fun A z H' T _=>?_)
   omega
  |succ n ih=>
   intro m V f H E
   exact wk_loop (step m f H E fun A z H' T N=>ih A (by omega) z H' N)
 exact key m m (a0a _) f H U
def cb(P:Program)(f:Fn)(H:Heap):List ResultVar->Option (List Value)
 | []=>some []
 | .tmp t::rs=>
  match cb P f H rs with
  |some l=>some (f t::l)
  |none=>none
 | .cell a t::rs=>
  match f a with
  | .pointer (some p)=>
   match H.loadV P t p,cb P f H rs with
   |some v,some l=>some (v::l)
   |_,_=>none
  |_=>none
theorem gn(s:St): ∀rs,cy P s rs=cb P (cC s.tmps) s.heap rs
 | []=>rfl
 | .tmp t::rs=>by unfold cy cb;rw[gn s rs];cases cb P (cC s.tmps) s.heap rs<;>rfl
 | .cell a t::rs=>by
  unfold cy cb;cases cC s.tmps a with
  |pointer p=>cases p with
   |none=>rfl
   |some p=>simp only[gn s rs];cases s.heap.loadV P t p<;>cases cb P (cC s.tmps) s.heap rs<;>rfl
  |_=>rfl
theorem au{z:FuncId}{fn:Func}{args:List Value}{R:Value->Heap->Prop}(N:P.funcs[z]?=some fn)(hc:fn.body=some c)(Z:K z args H=none)
  (h:WK P G K (Nat.max args.length fn.ntmps) c [] (argF args) H fun e U H'=>(e= .normal\/e= .ret)/\∃l,cb P U H' fn.results.toList=some l/\R (dZ l) H'):C P G K z args H R:=by
 obtain⟨n,e,T,V,he,l,A,hr⟩:=h.out (eB 0 args .nil) (argTmps_fn args)
 refine⟨n+1,dZ l,T.heap,?_,hr⟩
 show ka K (lM P (kL P G K (n+1))) z args H=_
 have E:kL P G K (n+1) c ⟨eB 0 args .nil,Nat.max args.length fn.ntmps,H⟩=some (e,T):=V
 unfold ka lM
 rw[Z]
 simp only[N,hc,E]
 rw[←gn]at A
 rcases he with rfl|rfl
 ·simp only[A]
 simp only[A]
end
end Go.R
end
noncomputable section
namespace Go.R
section
variable {P:Program} {ρ:Operand->Value} {d:Option Tmp} {ty:TypeId} {pos:String} {af:Array Edge} {gd:Option (Nat×Bool)} {H:Heap}
theorem ap_move{x:Operand}{v:Value}(h:ρ x=v):AP P ρ ⟨d,.move x,ty,pos,af,gd⟩ H (.val v,H):=by subst h;exact⟨rfl⟩
theorem j3{x:Operand}{v:Value}(h:ρ x=v):AP P ρ ⟨d,.assign x,ty,pos,af,gd⟩ H (.val v,H):=by subst h;exact⟨rfl⟩
theorem iP{op:BinOp}{t yt:TypeId}{x y:Operand}{k z:IntKind}{a b:Int}{v:Value}(E:ρ x= .int k a)(N:ρ y= .int z b)
  (A:(bif jO op then shBin op k a b else bif gP k z then kF op k a b else none)=some v):AP P ρ ⟨d,.binOp op t x y yt,ty,pos,af,gd⟩ H (.val v,H):=by
 refine⟨?_⟩
 show aBin P ρ _ op t (ρ x) y H=_
 rw[E]
 show binInt op k a (ρ y) H=_
 rw[N]
 show ovl _ H=_
 rw[A];rfl
theorem ap_str{op:BinOp}{t yt:TypeId}{x y:Operand}{a b:ByteArray}{v:Value}(A:ρ x= .string a)(E:ρ y= .string b)(z:strOp op a b=some v):
  AP P ρ ⟨d,.binOp op t x y yt,ty,pos,af,gd⟩ H (.val v,H):=by
 refine⟨?_⟩
 show aBin P ρ _ op t (ρ x) y H=_
 rw[A]
 show binStr op a (ρ y) H=_
 rw[E]
 show ovl _ H=_
 rw[z];rfl
theorem ap_not{t:TypeId}{x:Operand}{b:Bool}(z:ρ x= .bool b):AP P ρ ⟨d,.unOp .not t x,ty,pos,af,gd⟩ H (.val (.bool (!b)),H):=by refine⟨?_⟩;show aUn P ρ _ .not (ρ x) H=_;rw[z];rfl
theorem ap_conv{s t:TypeId}{x:Operand}{k z:IntKind}{n:Int}(E:ρ x= .int k n){u:TypeDesc}(hs:P.underlying s=some u)(A:P.underlying t=some (.int z)):
  AP P ρ ⟨d,.convert s t x,ty,pos,af,gd⟩ H (.val (.int z (z.wrap n)),H):=by
 refine⟨?_⟩
 show fe P ρ _ s t (ρ x) H=_
 rw[E]
 show ovl (lH P s t n) H=_
 unfold lH
 rw[hs,A];rfl
theorem ap_neg{t:TypeId}{x:Operand}{k:IntKind}{n:Int}(z:ρ x= .int k n):AP P ρ ⟨d,.unOp .neg t x,ty,pos,af,gd⟩ H (.val (.int k (k.wrap (0-n))),H):=by
 refine⟨?_⟩;show aUn P ρ _ .neg (ρ x) H=_;rw[z];show bw P ρ _ H=_;unfold bw;have A:((Op.unOp .neg t x).operands.toList.all fun x=>gE (ρ x))=true:=by simp[Op.operands,z,gE,noA0]
 simp only[A,cond_true];show(match aq P (execOp ρ ⟨d,.unOp .neg t x,ty,pos,af,gd⟩) with|some (.value v)=>bif noA2 v then some (AN.val v,H) else none|_=>none)=_;have E:aq P (execOp ρ ⟨d,.unOp .neg t x,ty,pos,af,gd⟩)=some (.value (.int k (k.wrap (0-n)))):=by unfold execOp;simp only[z];rfl
 rw[E];rfl
theorem ap_cpl{t:TypeId}{x:Operand}{k:IntKind}{n:Int}(z:ρ x= .int k n):AP P ρ ⟨d,.unOp .xor t x,ty,pos,af,gd⟩ H (.val (.int k (bits .xor k (if k.signed then-1 else k.max) n)),H):=by
 refine⟨?_⟩;show aUn P ρ _ .xor (ρ x) H=_;rw[z];show bw P ρ _ H=_;unfold bw;have A:((Op.unOp .xor t x).operands.toList.all fun x=>gE (ρ x))=true:=by simp[Op.operands,z,gE,noA0]
 simp only[A,cond_true];have E:aq P (execOp ρ ⟨d,.unOp .xor t x,ty,pos,af,gd⟩)=some (.value (.int k (bits .xor k (if k.signed then-1 else k.max) n))):=by unfold execOp;simp only[z];rfl
 rw[E];rfl
theorem ap_quo{t yt:TypeId}{x y:Operand}{k z:IntKind}{a b:Int}(N:ρ x= .int k a)(T:ρ y= .int z b)(E:gP k z=true)(A:(b==0)=false):
  AP P ρ ⟨d,.binOp .quo t x y yt,ty,pos,af,gd⟩ H (.val (.int k (k.wrap (a.tdiv b))),H):=
 iP N T (by show(bif gP k z then(bif b==0 then none else some (.int k (k.wrap (a.tdiv b)))) else none:Option Value)=_;rw[E,A];rfl)
theorem ap_shl{t yt:TypeId}{x y:Operand}{k N:IntKind}{a b:Int}(A:ρ x= .int k a)(E:ρ y= .int N b)(z:0<=b):
  AP P ρ ⟨d,.binOp .shl t x y yt,ty,pos,af,gd⟩ H (.val (.int k (k.wrap (a*2^(Nat.min b.toNat k.bits)))),H):=by
 refine⟨?_⟩
 obtain⟨n,rfl⟩:=a16 z
 exact(iP A E rfl).eq
theorem ap_shr{t yt:TypeId}{x y:Operand}{k N:IntKind}{a b:Int}(A:ρ x= .int k a)(E:ρ y= .int N b)(z:0<=b):
  AP P ρ ⟨d,.binOp .shr t x y yt,ty,pos,af,gd⟩ H (.val (.int k (a.fdiv (2^(Nat.min b.toNat k.bits)))),H):=by
 refine⟨?_⟩
 obtain⟨n,rfl⟩:=a16 z
 exact(iP A E rfl).eq
theorem lS{t:TypeId}{n sz:Nat}{z:List Value}{A:Array (Nat×Operand)}{cells:Array Value}(hs:eG P t=some (sz,z))(N:Nat.ble (n*sz) 16777216=true)
  (E:Instr.fill (fun i=>some (i*sz,sz)) ⟨cw n z⟩ (eO (fun p=>(p.1,ρ p.2)) A.toList)=some cells):
  AP P ρ ⟨d,.buildSlice t n A,ty,pos,af,gd⟩ H (.val (.slice (some ⟨H.next,0,none⟩) n n),H.push (.cells cells.toList none false)):=by
 refine⟨?_⟩
 show bH P t n (eO (fun p=>(p.1,ρ p.2)) A.toList) H=_
 unfold bH
 rw[hs]
 simp only[N,cond_true,E]
 rfl
theorem iQ{t e:TypeId}{x i:Operand}{b o n k sz:Nat}{V:IntKind}{j:Int}(U:ρ x= .slice (some ⟨b,o,none⟩) n k)(hi:ρ i= .int V j)(T:P.underlying t=some (.slice e))(hs:dp P e=some sz)
  (z:0<=j) (Z:j<n) (N:n<=k):AP P ρ ⟨d,.indexAddr t x i,ty,pos,af,gd⟩ H (.val (.pointer (some ⟨b,o+j.toNat*sz,none⟩)),H):=by
 refine⟨?_⟩
 obtain⟨m,rfl⟩:=a16 z
 show ovl (cT P t (ρ x) (ρ i)) H=_
 rw[U,hi]
 unfold cT
 rw[T]
 show ovl (match dp P e with|some sz=>bif Nat.ble (m+1) n&&Nat.ble n k then some (.pointer (some ⟨b,o+m*sz,none⟩)) else none|none=>none) H=_
 rw[hs]
 have A:Nat.ble (m+1) n=true:=a0w (by omega)
 have E:Nat.ble n k=true:=a0w N
 simp only[A,E,a1l,cond_true]
 rfl
theorem ap_load1{t:TypeId}{x:Operand}{b o:Nat}{cs:List Value}{z:Option Nat}{U:Bool}{v:Value}(T:ρ x= .pointer (some ⟨b,o,none⟩))(A:gf P t=some false)(E:H.get b=some (.cells cs z U))(N:cs[o]?=some v):
  AP P ρ ⟨d,.load t x,ty,pos,af,gd⟩ H (.val v,H):=by
 refine⟨?_⟩
 show dU P t (ρ x) H=_
 rw[T]
 show ovl (H.loadV P t ⟨b,o,none⟩) H=_
 unfold Heap.loadV
 rw[A]
 simp only
 unfold Heap.cellAt
 simp only[E,gN,N]
 rfl
theorem ap_loadN{t:TypeId}{x:Operand}{b o n:Nat}{cs l:List Value}{z:Option Nat}{V:Bool}(U:ρ x= .pointer (some ⟨b,o,none⟩))(A:gf P t=some true)(hs:dp P t=some n)(E:H.get b=some (.cells cs z V))(N:(cs.drop o).take n=l)(T:l.length=n):
  AP P ρ ⟨d,.load t x,ty,pos,af,gd⟩ H (.val (.agg ⟨l⟩),H):=by
 refine⟨?_⟩
 show dU P t (ρ x) H=_
 rw[U]
 show ovl (H.loadV P t ⟨b,o,none⟩) H=_
 unfold Heap.loadV
 rw[A]
 simp only[hs]
 unfold Heap.loadN
 simp only[E,ca,cn,bS,N,T,a0Z,cond_true]
 rfl
structure Keeps(H H':Heap):Prop where
 next:H.next<=H'.next
 get: ∀b,b<H.next->H'.get b=H.get b
 log: ∃d,H'.log=d++H.log/\∀b,b∈d->H.next<=b
theorem appL_nil(l:List Value):appL l []=l:=by rw[dA];simp
theorem aV{args:Array Operand}{z:Array TypeId}{i:FuncId}{fn:Func}{f:Fn}{l:List Value}(E:P.funcs[i]?=some fn)(A:(fn.body.isSome&& !(fn.name== "runtime.NumGoroutine"))=true)(N:eO (dj f) args.toList=l):
  AP P (dj f) ⟨d,.call ⟨.value (.func i),args,z⟩,ty,pos,af,gd⟩ H (.enter i l,H):=by
 refine⟨?_⟩
 show eY (ff P (.func (.func i) #[] #[]) (eO (dj f) args.toList)) H=_
 unfold ff
 simp only[E,A,cond_true,N]
 show eY (some (.enter i (appL [] (appL l [])))) H=_
 rw[appL_nil]
 rfl
end
end Go.R
end
noncomputable section
namespace Go.R
def fG:Inf->Bool
 | .x w=>isNilL w
 |_=>true
def vkAt(ops:Array Oper)(j:Nat):Bool:=match ops[j]? with
 |some o=>aX o.op
 |none=>false
def FsOK(ops:Array Oper)(wr:List Nat)(i:Nat)(fs:List (Nat×Inf)):Prop:= ∀j g,(j,g)∈fs->j<i/\(fG g=true\/j∈wr)/\(vkAt ops j=true->g= .v)
theorem lQ: ∀{f g:Inf},fG f=true->fG g=true->dW f g=true
 | .v,_,_,_=>rfl
 | .a b,.v,_,_=>rfl
 | .a b,.a c,_,_=>rfl
 | .a b,.l c,_,_=>rfl
 | .a b,.x w,_,h=>by cases w with
  |nil=>rfl
  |cons _ _=>cases h
 | .l b,.v,_,_=>rfl
 | .l b,.a c,_,_=>rfl
 | .l b,.l c,_,_=>rfl
 | .l b,.x w,_,h=>by cases w with
  |nil=>rfl
  |cons _ _=>cases h
 | .x w,.v,_,_=>rfl
 | .x w,.a c,_,_=>rfl
 | .x w,.l c,h,_=>by cases w with
  |nil=>rfl
  |cons _ _=>cases h
 | .x w,.x u,h,h'=>by simp only[fG]at h h';simp only[dW,h,h',a1l]
theorem below_nil{n:Nat}: ∀{l:List Nat},(∀b,b∈l->n<=b)->cV n l=[]
 | [],_=>rfl
 |c::l,h=>by have z:Nat.ble n c=true:=a0w (h c (a0r ..));unfold cV;rw[z];exact below_nil fun b A=>h b (a0h _ A)
theorem infOf_benign{ops:Array Oper}{o:Oper}{s:St}{n:Nat}{log:List Nat}(h:cV n log=[]):fG (dw ops o s n log)=true:=by
 unfold dw;rw[h];cases (!bd ops o s.tmps||aX o.op) with
 |true=>rfl
 |false=>
  simp only[cond_false]
  cases dQ o.op with
  |true=>rfl
  |false=>
   simp only[cond_false]
   split
   ·split<;>rfl
   ·split<;>rfl
   ·split<;>rfl
   rfl
theorem infOf_value{ops:Array Oper}{o:Oper}{s:St}{n:Nat}{log:List Nat}(h:aX o.op=true):dw ops o s n log= .v:=by unfold dw;rw[h,Bool.or_true];rfl
theorem iR{l:List Nat}{i:Nat}{f:Inf}: ∀{fs:List (Nat×Inf)},(∀j g,(j,g)∈fs->(bo l j i||dW g f)=true)->bZ l i f fs=true
 | [],_=>rfl
 |(j,g)::fs,h=>by unfold bZ;rw[h j g (a0r ..),iR fun j g z=>h j g (a0h _ z)];rfl
section
variable {P:Program} {G:Nat} {K:bM} {sz:Nat} {Q:Ex->Fn->Heap->Prop} {ops:Array Oper} {wr:List Nat} {i:Nat} {os:List Oper} {k:List Fr} {f:Fn} {H H1:Heap} {v:Value}
 {d:Tmp} {op:Op} {ty:TypeId} {pos:String} {af:Array Edge}
structure WD(P:Program)(G:Nat)(K:bM)(sz:Nat)(ops:Array Oper)(wr:List Nat)(i:Nat)(os:List Oper)(k:List Fr)(f:Fn)(H:Heap)(Q:Ex->Fn->Heap->Prop):Prop where
 out: ∀t fs,cC t=f->FsOK ops wr i fs->∃n e s',runK P G K (n+1) k (dD (bn P G (call P G K n) ops i fs os ⟨t,sz,H⟩))=some (e,s')/\Q e (cC s'.tmps) s'.heap
end
end Go.R
end
noncomputable section
namespace Go.R
def cm(ops:Array Oper)(f:Fn)(j:Nat):Option Bool:=
 match (ops[j]?).bind (·.dst) with
 |some d=>
  match f d with
  | .bool b=>some b
  |_=>none
 |none=>none
theorem aop_guard{P:Program}{ρ:Operand->Value}{d:Option Tmp}{op:Op}{ty:TypeId}{pos:String}{af:Array Edge}(g z:Option (Nat×Bool))(H:Heap):
  aop P ρ ⟨d,op,ty,pos,af,g⟩ H=aop P ρ ⟨d,op,ty,pos,af,z⟩ H:=by
 cases op<;>rfl
section
variable {P:Program} {G:Nat} {K:bM} {sz:Nat} {Q:Ex->Fn->Heap->Prop} {ops:Array Oper} {wr:List Nat} {i j:Nat} {os:List Oper} {k:List Fr} {f:Fn} {H H1:Heap} {v want:Bool}
 {d:Option Tmp} {op:Op} {ty:TypeId} {pos:String} {af:Array Edge}
theorem gG{t:Tr Value}(A:cC t=f)(E:cm ops f j=some v)(o:Oper)(z:o.guard=some (j,want)):bd ops o t=(v==want):=by
 unfold bd;rw[z];have:ke ops t j=some v:=by rw[←E,←A];rfl
 simp only[this];cases v<;>cases want<;>rfl
theorem kp{cf:cj}{t:Tr Value}(E:cC t=f)(T:cm ops f j=some v)(N:v=want):
  step P G cf ops ⟨d,op,ty,pos,af,some (j,want)⟩ ⟨t,sz,H⟩=step P G cf ops ⟨d,op,ty,pos,af,none⟩ ⟨t,sz,H⟩:=by
 unfold step
 rw[gG E T _ rfl,N]
 have z:(want==want)=true:=by cases want<;>rfl
 have A:bd ops ⟨d,op,ty,pos,af,none⟩ t=true:=rfl
 simp only[z,A,cond_true,aop_guard (some (j,want)) none]
theorem lq{cf:cj}{t:Tr Value}(A:cC t=f)(N:cm ops f j=some v)(E:v= !want):
  step P G cf ops ⟨d,op,ty,pos,af,some (j,want)⟩ ⟨t,sz,H⟩=St.put ⟨t,sz,H⟩ d undef:=by
 unfold step
 rw[gG A N _ rfl,E]
 have z:((!want)==want)=false:=by cases want<;>rfl
 simp only[z,cond_false]
theorem el(T:cm ops f j=some v)(N:v=want)(h:WO P G K sz ops (⟨d,op,ty,pos,af,none⟩::os) k f H Q):WO P G K sz ops (⟨d,op,ty,pos,af,some (j,want)⟩::os) k f H Q:=⟨fun t A=>by
 obtain⟨n,e,U,z,E⟩:=h.out t A;refine⟨n,e,U,?_,E⟩;rw[bW]at z⊢;rw[kp A T N];exact z⟩
theorem wo_gf{d:Tmp}(Z:cm ops f j=some v)(V:v= !want)(U:Nat.ble (d+1) sz=true)(h:WO P G K sz ops os k (upd f d undef) H Q):WO P G K sz ops (⟨some d,op,ty,pos,af,some (j,want)⟩::os) k f H Q:=⟨fun t z=>by
 obtain⟨t',N,T⟩:=gL (s:=⟨t,sz,H⟩) (d:=some d) (v:=undef) U;obtain⟨n,e,s',A,E⟩:=h.out t' (by rw[T,z];rfl);refine⟨n,e,s',?_,E⟩;rw[bW,lq z Z V,N];exact A⟩
theorem jo{d:Tmp}(E:cm ops f j=some v)(A:v=false)(z:Nat.ble (d+1) sz=true)(h:WO P G K sz ops os k (upd f d undef) H Q):WO P G K sz ops (⟨some d,op,ty,pos,af,some (j,true)⟩::os) k f H Q:=wo_gf E A z h
theorem wo_gf0{d:Tmp}(E:cm ops f j=some v)(A:v=true)(z:Nat.ble (d+1) sz=true)(h:WO P G K sz ops os k (upd f d undef) H Q):WO P G K sz ops (⟨some d,op,ty,pos,af,some (j,false)⟩::os) k f H Q:=wo_gf E A z h
theorem wo_gn{d:Tmp}(hy:cm ops f j=none)(V:Nat.ble (d+1) sz=true)(h:WO P G K sz ops os k (upd f d undef) H Q):WO P G K sz ops (⟨some d,op,ty,pos,af,some (j,want)⟩::os) k f H Q:=⟨fun t A=>by
 obtain⟨t',T,U⟩:=gL (s:=⟨t,sz,H⟩) (d:=some d) (v:=undef) V;obtain⟨n,e,s',E,N⟩:=h.out t' (by rw[U,A];rfl);refine⟨n,e,s',?_,N⟩;have Z:bd ops ⟨some d,op,ty,pos,af,some (j,want)⟩ t=false:=by
  unfold bd;have:ke ops t j=none:=by rw[←hy,←A];rfl
  simp only[this];cases want<;>rfl
 have z:step P G (call P G K n) ops ⟨some d,op,ty,pos,af,some (j,want)⟩ ⟨t,sz,H⟩=St.put ⟨t,sz,H⟩ (some d) undef:=by unfold step;simp only[Z,cond_false]
 rw[bW,z,T];exact E⟩
theorem wo_gsT{d:Tmp}(z:cm ops f j=some v)(N:Nat.ble (d+1) sz=true)(A:v=true->WO P G K sz ops (⟨some d,op,ty,pos,af,none⟩::os) k f H Q)(E:v=false->WO P G K sz ops os k (upd f d undef) H Q):
  WO P G K sz ops (⟨some d,op,ty,pos,af,some (j,true)⟩::os) k f H Q:=by
 cases v with
 |true=>exact el z rfl (A rfl)
 |false=>exact wo_gf z rfl N (E rfl)
theorem wo_gsF{d:Tmp}(z:cm ops f j=some v)(N:Nat.ble (d+1) sz=true)(A:v=false->WO P G K sz ops (⟨some d,op,ty,pos,af,none⟩::os) k f H Q)(E:v=true->WO P G K sz ops os k (upd f d undef) H Q):
  WO P G K sz ops (⟨some d,op,ty,pos,af,some (j,false)⟩::os) k f H Q:=by
 cases v with
 |true=>exact wo_gf z rfl N (E rfl)
 |false=>exact el z rfl (A rfl)
end
section
variable {P:Program} {ρ:Operand->Value} {d:Option Tmp} {ty:TypeId} {pos:String} {af:Array Edge} {gd:Option (Nat×Bool)} {H:Heap}
theorem d6{c a b:Operand}{t:Bool}{v:Value}(hc:ρ c= .bool t)(z:t=true)(A:ρ a=v):AP P ρ ⟨d,.pick c a b,ty,pos,af,gd⟩ H (.val v,H):=by refine⟨?_⟩;show fw ρ c a b H=_;unfold fw;rw[hc,z,←A];rfl
theorem fY{c a b:Operand}{t:Bool}{v:Value}(hc:ρ c= .bool t)(z:t=false)(A:ρ b=v):AP P ρ ⟨d,.pick c a b,ty,pos,af,gd⟩ H (.val v,H):=by refine⟨?_⟩;show fw ρ c a b H=_;unfold fw;rw[hc,z,←A];rfl
def dL(op:BinOp)(t:TypeId)(x y:Operand)(a b:Bool):Sem Next:=
 ((eqGuard op t x y (.bool a) (.bool b))>>=fun _=>binOp op t (.bool a) (.bool b))>>=fun r=>Pure.pure (Next.value r)
theorem ap_boolEq{t yt:TypeId}{x y:Operand}{a b:Bool}(A:ρ x= .bool a)(E:ρ y= .bool b)(z: ∀a b:Bool,aq P (dL .eql t x y a b)=some (.value (.bool (a==b)))):AP P ρ ⟨d,.binOp .eql t x y yt,ty,pos,af,gd⟩ H (.val (.bool (a==b)),H):=by
 refine⟨?_⟩;show aBin P ρ _ .eql t (ρ x) y H=_;rw[A];show bw P ρ _ H=_;unfold bw;have N:((Op.binOp .eql t x y yt).operands.toList.all fun x=>gE (ρ x))=true:=by simp[Op.operands,A,E,gE,noA0]
 simp only[N,cond_true];have T:aq P (execOp ρ ⟨d,.binOp .eql t x y yt,ty,pos,af,gd⟩)=some (.value (.bool (a==b))):=by rw[←z a b];unfold execOp dL;simp only[A,E]
 rw[T];rfl
end
end Go.R
end
noncomputable section
namespace Go.R
open Go.RowKit
def KX(ex:FuncId):bM:=fun f args _=>match args with
 | []=>bif Nat.beq f ex then some (.bool true) else none
 |_=>none
end Go.R
end
noncomputable section
namespace Go.R
abbrev Fz:=Nat->Option AObj
abbrev Fp:=List (Nat×AObj)
def Fz.le(F F':Fz):Prop:= ∀b o,F b=some o->F' b=some o
theorem Fz.le_refl(F:Fz):F.le F:=fun _ _ h=>h
theorem Fz.le_trans{A B C:Fz}(h:A.le B)(k:B.le C):A.le C:=fun b o x=>k b o (h b o x)
def Fz.add(F:Fz)(b:Nat)(o:AObj):Fz:=fun j=>bif Nat.beq b j then some o else F j
def Fz.addL(F:Fz):Fp->Fz
 | []=>F
 |(b,o)::p=>(F.addL p).add b o
abbrev in64(n:Int):Prop:= -9223372036854775808<=n/\n<9223372036854775808
structure Base where
 n0:Nat
 W:List Nat
 lg:List Nat
def Base.of(H:Heap)(W:List Nat):Base:=⟨H.next,W,H.log⟩
structure HS(B:Base)(F:Fz)(H:Heap)(L R:List Fp):Prop where
 fz: ∀b o,F b=some o->H.get b=some o/\b<H.next
 own: ∀p,p∈L\/p∈R->∀b o,(b,o)∈p->H.get b=some o/\b<H.next/\F b=none
 nd:((L++R).flatten.map Prod.fst).Nodup
 n0:B.n0<=H.next
 log: ∀b,b∈H.log->b∈B.lg\/B.n0<=b\/b∈B.W
 mine: ∀p,p∈L->∀b o,(b,o)∈p->B.n0<=b\/b∈B.W
theorem ej{α:Type}: ∀(L:List (List α)) (i:Nat) (p:List α),L[i]?=some p->∃A C,L=A++p::C/\∀q,L.set i q=A++q::C
 | [],_,_,h=>by simp at h
 |x::L,0,p,h=>by simp at h;subst h;exact⟨[],L,rfl,fun _=>rfl⟩
 |x::L,i+1,p,h=>by obtain⟨A,C,z,E⟩:=ej L i p (by simpa using h);exact⟨x::A,C,by rw[z];rfl,fun q=>by rw[a1W,E];rfl⟩
theorem gU{α:Type}(L:List (List α))(i:Nat)(p q:List α)(h:L[i]?=some p): ∃A C,L=A++p::C/\L.set i q=A++q::C:=by obtain⟨A,C,z,E⟩:=ej L i p h;exact⟨A,C,z,E q⟩
section
variable {B:Base} {F F':Fz} {H H':Heap} {L R:List Fp}
theorem HS.relog(h:HS B F H L R){l:List Nat}(z: ∀b,b∈l->b∈B.lg\/B.n0<=b\/b∈B.W):HS B F {H with log:=l} L R:=⟨h.fz,h.own,h.nd,h.n0,z,h.mine⟩
theorem HS.log0(h:HS B F H L R):HS B F {H with log:=[]} L R:=h.relog fun b z=>by simp at z
theorem HS.turn(h:HS B F H L R){i:Nat}{p q:Fp}(hi:L[i]?=some p)(hn:H.next<=H'.next)
  (ax: ∀b,b<H.next->(∀o,(b,o)∉p)->H'.get b=H.get b)
  (hq: ∀b o,(b,o)∈q->H'.get b=some o/\b<H'.next/\(H.next<=b\/∃o',(b,o')∈p)) (bb:(q.map Prod.fst).Nodup)
  (a8: ∀b,b∈H'.log->b∈H.log\/H.next<=b\/∃o,(b,o)∈p):HS B F H' (L.set i q) R:=by
 obtain⟨A,C,e1,e2⟩:=gU L i p q hi
 have ao:p∈L:=a0l hi
 have T:=h.nd
 rw[e1]at T
 have ay: ∀x,x∈L.set i q\/x∈R->x=q\/((x∈L\/x∈R)/\∀b o o',(b,o)∈x->(b,o')∉p):=by
  intro x E;have key: ∀x,x∈A\/x∈C\/x∈R->∀b o o',(b,o)∈x->(b,o')∉p:=by
   intro x E b o o' N ad;simp only[a0o,a0P,a0M,a0L,a0Y,a1j,a07]at T;have ag:b∈p.map Prod.fst:=a0s.2 ⟨_,ad,rfl⟩;have a6:b∈x.map Prod.fst:=a0s.2 ⟨_,N,rfl⟩;rcases E with E|E|E
   ·have:b∈A.flatten.map Prod.fst:=a0s.2 ⟨(b,o),a0N.2 ⟨x,E,N⟩,rfl⟩;exact T.2.2 b this b (.inl ag) rfl
   ·have:b∈C.flatten.map Prod.fst:=a0s.2 ⟨(b,o),a0N.2 ⟨x,E,N⟩,rfl⟩;exact T.2.1.2.2 b ag b (.inl this) rfl
   have:b∈R.flatten.map Prod.fst:=a0s.2 ⟨(b,o),a0N.2 ⟨x,E,N⟩,rfl⟩;exact T.2.1.2.2 b ag b (.inr this) rfl
  rw[e2]at E;rcases E with E|E
  ·rcases a07.1 E with E|E
   ·exact .inr ⟨.inl (by rw[e1];exact a07.2 (.inl E)),key x (.inl E)⟩
   rcases a0m.1 E with rfl|E
   ·exact .inl rfl
   exact .inr ⟨.inl (by rw[e1];exact a07.2 (.inr (a0h _ E))),key x (.inr (.inl E))⟩
  exact .inr ⟨.inr E,key x (.inr (.inr E))⟩
 have a3: ∀b o,(b,o)∈p->F b=none/\b<H.next:=fun b o N=>⟨(h.own p (.inl ao) b o N).2.2,(h.own p (.inl ao) b o N).2.1⟩
 refine⟨fun b o N=>?_,fun x E b o N=>?_,?_,a0c h.n0 hn,fun b N=>?_,fun x E b o N=>?_⟩
 ·obtain⟨U,h2⟩:=h.fz b o N;refine⟨?_,a0V h2 hn⟩;rw[ax b h2 fun o' an=>by rw[(a3 b o' an).1]at N;cases N];exact U
 ·rcases ay x E with rfl|⟨a6,hne⟩
  ·obtain⟨U,h2,V⟩:=hq b o N;refine⟨U,h2,?_⟩;rcases V with V|⟨o',an⟩
   ·cases hf:F b with
    |none=>rfl
    |some z=>have:=(h.fz b z hf).2;omega
   exact(a3 b o' an).1
  obtain⟨U,h2,V⟩:=h.own x a6 b o N;exact⟨by rw[ax b h2 fun o'=>hne b o o' N];exact U,a0V h2 hn,V⟩
 ·rw[e2];have a4: ∀x,x∈A\/x∈C\/x∈R->∀b,b∈x.map Prod.fst->b<H.next/\∀o',(b,o')∉p:=by
   intro x E b N;obtain⟨⟨Z,o⟩,ad,rfl⟩:=a0s.1 N;have a7:x∈L.set i q\/x∈R:=by
    rw[e2];rcases E with E|E|E
    ·exact .inl (a07.2 (.inl E))
    ·exact .inl (a07.2 (.inr (a0h _ E)))
    exact .inr E
   have be:x∈L\/x∈R:=by
    rw[e1];rcases E with E|E|E
    ·exact .inl (a07.2 (.inl E))
    ·exact .inl (a07.2 (.inr (a0h _ E)))
    exact .inr E
   refine⟨(h.own x be Z o ad).2.1,fun o' an=>?_⟩;have al:=T;simp only[a0o,a0P,a0M,a0L,a0Y,a1j,a07]at al;have ag:Z∈p.map Prod.fst:=a0s.2 ⟨_,an,rfl⟩;rcases E with E|E|E
   ·exact al.2.2 Z (a0s.2 ⟨(Z,o),a0N.2 ⟨x,E,ad⟩,rfl⟩) Z (.inl ag) rfl
   ·exact al.2.1.2.2 Z ag Z (.inl (a0s.2 ⟨(Z,o),a0N.2 ⟨x,E,ad⟩,rfl⟩)) rfl
   exact al.2.1.2.2 Z ag Z (.inr (a0s.2 ⟨(Z,o),a0N.2 ⟨x,E,ad⟩,rfl⟩)) rfl
  have aw: ∀(X:List Fp) b,b∈X.flatten.map Prod.fst->∃x,x∈X/\b∈x.map Prod.fst:=by intro X b N;obtain⟨y,hy,rfl⟩:=a0s.1 N;obtain⟨x,E,bk⟩:=a0N.1 hy;exact⟨x,E,a0s.2 ⟨y,bk,rfl⟩⟩
  have a5: ∀b,b∈q.map Prod.fst->H.next<=b\/∃o',(b,o')∈p:=by intro b N;obtain⟨⟨Z,o⟩,ad,rfl⟩:=a0s.1 N;exact(hq Z o ad).2.2
  simp only[a0o,a0P,a0M,a0L,a0Y,a1j,a07]at T⊢;obtain⟨n1,⟨n2,⟨n3,n4,n5⟩,n6⟩,n7⟩:=T;refine⟨n1,⟨bb,⟨n3,n4,n5⟩,fun a ha b N av=>?_⟩,fun a ha b N av=>?_⟩
  ·subst av;have E: ∃x,(x∈A\/x∈C\/x∈R)/\a∈x.map Prod.fst:=by
    rcases N with N|N
    ·obtain⟨x,E,U⟩:=aw C a N;exact⟨x,.inr (.inl E),U⟩
    obtain⟨x,E,U⟩:=aw R a N;exact⟨x,.inr (.inr E),U⟩
   obtain⟨x,E,U⟩:=E;obtain⟨h2,V⟩:=a4 x E a U;rcases a5 a ha with h4|⟨o',h4⟩
   ·omega
   exact V o' h4
  subst av;rcases N with N|N
  ·obtain⟨x,E,U⟩:=aw A a ha;obtain⟨h2,V⟩:=a4 x (.inl E) a U;rcases a5 a N with h4|⟨o',h4⟩
   ·omega
   exact V o' h4
  exact n7 a ha a (.inr N) rfl
 ·rcases a8 b N with U|U|⟨o,U⟩
  ·exact h.log b U
  ·exact .inr (.inl (a0c h.n0 U))
  exact .inr (h.mine p ao b o U)
 have a7:=ay x (.inl E)
 rcases a7 with rfl|⟨_,_⟩
 ·rcases (hq b o N).2.2 with V|⟨o',V⟩
  ·exact .inl (a0c h.n0 V)
  exact h.mine p ao b o' V
 rw[e2]at E
 rcases a07.1 E with E|E
 ·exact h.mine x (by rw[e1];exact a07.2 (.inl E)) b o N
 rcases a0m.1 E with rfl|E
 ·rcases (hq b o N).2.2 with V|⟨o',V⟩
  ·exact .inl (a0c h.n0 V)
  exact h.mine p ao b o' V
 exact h.mine x (by rw[e1];exact a07.2 (.inr (a0h _ E))) b o N
theorem HS.cons(h:HS B F H L R):HS B F H ([]::L) R:=
 ⟨h.fz,fun p z b o A=>by
  rcases z with z|z
  ·rcases a0m.1 z with rfl|z
   ·simp at A
   exact h.own p (.inl z) b o A
  ·exact h.own p (.inr z) b o A,by simpa using h.nd,h.n0,h.log,fun p z b o A=>by
  rcases a0m.1 z with rfl|z
  ·simp at A
  exact h.mine p z b o A⟩
theorem HS.snoc(h:HS B F H L R):HS B F H (L++[[]]) R:=
 ⟨h.fz,fun p z b o A=>by
  rcases z with z|z
  ·rcases a07.1 z with z|z
   ·exact h.own p (.inl z) b o A
   simp at z;subst z;simp at A
  ·exact h.own p (.inr z) b o A,by simpa using h.nd,h.n0,h.log,fun p z b o A=>by
  rcases a07.1 z with z|z
  ·exact h.mine p z b o A
  simp at z;subst z;simp at A⟩
theorem HS.push(h:HS B F H L R)(o:AObj):HS B F (H.push o) (L++[[(H.next,o)]]) R:=by
 have A:=(h.snoc).turn (H':=H.push o) (i:=L.length) (p:=[]) (q:=[(H.next,o)]) (by simp) (by simp)
  (fun b z _=>Heap.get_push_ne _ _ (by omega)) (fun b o' z=>by
   simp at z;obtain⟨rfl,rfl⟩:=z;exact⟨Heap.get_push_same _ _,by simp,.inl (a0a _)⟩) (by simp) (fun b z=> .inl (by simpa using z))
 simpa using A
theorem HS.put(h:HS B F H L R){i b:Nat}{o o':AObj}(hi:L[i]?=some [(b,o)]):HS B F (H.put b o') (L.set i [(b,o')]) R:=
 h.turn hi (by simp) (fun c _ A=>Heap.get_put_ne _ _ fun e=>A o (by simp[e])) (fun c E z=>by
  simp at z;obtain⟨rfl,rfl⟩:=z;have:=(h.own _ (.inl (a0l hi)) c o (by simp)).2.1;exact⟨Heap.get_put_same _ _ _,by simpa using this,.inr ⟨o,by simp⟩⟩) (by simp) (fun c hc=>by
  rw[Heap.log_put]at hc;rcases a0m.1 hc with rfl|hc
  ·exact .inr (.inr ⟨o,by simp⟩)
  exact .inl hc)
theorem HS.get(h:HS B F H L R){i b:Nat}{p:Fp}{o:AObj}(hi:L[i]?=some p)(z:(b,o)∈p):H.get b=some o:=(h.own p (.inl (a0l hi)) b o z).1
theorem HS.drop(h:HS B F H L R){i:Nat}{p:Fp}(hi:L[i]?=some p):HS B F H (L.set i []) R:=
 h.turn hi (a0a _) (fun _ _ _=>rfl) (fun b o z=>by simp at z) (by simp) (fun b z=> .inl z)
theorem addL_get{p:Fp}: ∀{b:Nat} {o:AObj},(F.addL p) b=some o->F b=some o\/(b,o)∈p:=by
 induction p with
 |nil=>intro b o h;exact .inl h
 |cons x p ih=>
  obtain⟨A,E⟩:=x
  intro b o h
  simp only[Fz.addL,Fz.add]at h
  cases z:Nat.beq A b with
  |true=>
   rw[z]at h;simp only[cond_true,a00]at h;subst h
   have:=a09 z;subst this
   exact .inr (by simp)
  |false=>
   rw[z]at h
   rcases ih h with h1|h1
   ·exact .inl h1
   exact .inr (a0h _ h1)
theorem addL_of{p:Fp}: ∀{b:Nat} {o:AObj},(p.map Prod.fst).Nodup->(b,o)∈p->(F.addL p) b=some o:=by
 induction p with
 |nil=>intro b o _ h;simp at h
 |cons x p ih=>
  obtain⟨A,T⟩:=x
  intro b o z h
  simp only[List.map_cons,List.nodup_cons]at z
  simp only[Fz.addL,Fz.add]
  rcases a0m.1 h with e|h
  ·injection e with e1 e2;subst e1 e2;rw[a0Z];rfl
  have E:Nat.beq A b=false:=by
   cases N:Nat.beq A b with
   |false=>rfl
   |true=>have:=a09 N;subst this;exact absurd (a0s.2 ⟨_,h,rfl⟩) z.1
  rw[E];exact ih z.2 h
theorem addL_le{p:Fp}(h: ∀b o,(b,o)∈p->F b=none):F.le (F.addL p):=by
 induction p with
 |nil=>exact F.le_refl
 |cons x p ih=>
  obtain⟨A,U⟩:=x
  intro b o z
  have E:=ih (fun b o N=>h b o (a0h _ N)) b o z
  simp only[Fz.addL,Fz.add]
  cases T:Nat.beq A b with
  |false=>exact E
  |true=>
   have:=a09 T;subst this
   rw[h A U (by simp)]at z;cases z
theorem HS.nodup_of(h:HS B F H L R){p:Fp}(z:p∈L):(p.map Prod.fst).Nodup:=by have:=h.nd;obtain⟨A,C,rfl⟩:=List.append_of_mem z;simp only[a0o,a0P,a0M,a0L,a0Y,a1j]at this;exact this.2.1.1
theorem HS.freeze(h:HS B F H L R){i:Nat}{p:Fp}(hi:L[i]?=some p): ∃F',F.le F'/\HS B F' H (L.set i []) R/\∀b o,(b,o)∈p->F' b=some o:=by
 have ad:p∈L:=a0l hi;have ag:=addL_le (F:=F) (p:=p) fun b o N=>(h.own p (.inl ad) b o N).2.2
 have U:=h.drop hi;have ai:=h.nodup_of ad;refine⟨F.addL p,ag,⟨fun b o N=>?_,fun x E b o N=>?_,U.nd,U.n0,U.log,U.mine⟩,fun b o N=>addL_of ai N⟩
 ·rcases addL_get N with T|T
  ·exact h.fz b o T
  have:=h.own p (.inl ad) b o T;exact⟨this.1,this.2.1⟩
 obtain⟨T,h2,h3⟩:=U.own x E b o N;refine⟨T,h2,?_⟩;cases hq:F.addL p b with
 |none=>rfl
 |some z=>
  exfalso
  rcases addL_get hq with h4|h4
  ·rw[h3]at h4;cases h4
  ·--disjoint
   obtain⟨A,C,e1,e2⟩:=gU L i p [] hi;have V:=h.nd;rw[e1]at V;simp only[a0o,a0P,a0M,a0L,a0Y,a1j,a07]at V;have Z:b∈p.map Prod.fst:=a0s.2 ⟨_,h4,rfl⟩;rcases E with E|E
   ·rw[e2]at E;rcases a07.1 E with E|E
    ·exact V.2.2 b (a0s.2 ⟨(b,o),a0N.2 ⟨x,E,N⟩,rfl⟩) b (.inl Z) rfl
    rcases a0m.1 E with rfl|E
    ·simp at N
    exact V.2.1.2.2 b Z b (.inl (a0s.2 ⟨(b,o),a0N.2 ⟨x,E,N⟩,rfl⟩)) rfl
   exact V.2.1.2.2 b Z b (.inr (a0s.2 ⟨(b,o),a0N.2 ⟨x,E,N⟩,rfl⟩)) rfl
theorem HS.call(h:HS B F H L R):HS (.of H []) F H [] (L++R):=
 ⟨h.fz,fun p z b o A=>by
  rcases z with z|z
  ·simp at z
  exact h.own p (a07.1 z) b o A,by simpa using h.nd,a0a _,fun b A=> .inl A,fun p z=>by simp at z⟩
theorem HS.back{M:List Fp}{N:Heap}(h:HS B F H L R)(T:N=H)(k:HS (.of N []) F' H' M (L++R)):HS B F' H' (L++M) R:=by
 subst T;refine⟨k.fz,fun p z b o A=>k.own p ?_ b o A,?_,a0c h.n0 k.n0,fun b A=>?_,fun p z b o A=>?_⟩
 ·rcases z with z|z
  ·rcases a07.1 z with z|z
   ·exact .inr (a07.2 (.inl z))
   exact .inl z
  exact .inr (a07.2 (.inr z))
 ·have:=k.nd;have E:((L++M++R).flatten.map Prod.fst).Perm ((M++(L++R)).flatten.map Prod.fst):=by simp only[a0M,a0Y,a0o];exact a12 _ _ _
  exact E.nodup_iff.2 this
 ·rcases k.log b A with h1|h1|h1
  ·exact h.log b h1
  ·exact .inr (.inl (a0c h.n0 h1))
  simp[Base.of]at h1
 rcases a07.1 z with z|z
 ·exact h.mine p z b o A
 rcases k.mine p z b o A with h1|h1
 ·exact .inl (a0c h.n0 h1)
 simp[Base.of]at h1
theorem HS.callOwn(h:HS B F H L R){i:Nat}{p:Fp}(hi:L[i]?=some p):HS (.of H (p.map Prod.fst)) F H [p] (L.set i []++R):=by
 obtain⟨A,C,T,U⟩:=gU L i p [] hi;have V:p∈L:=a0l hi;refine⟨h.fz,fun x z b o E=>?_,?_,a0a _,fun b E=> .inl E,fun x z b o E=>?_⟩
 ·rcases z with z|z
  ·simp at z;subst z;exact h.own x (.inl V) b o E
  rw[U]at z;simp only[a0o,a0P,a07,a0m]at z;rcases z with z|rfl|z|z
  ·exact h.own x (.inl (by rw[T];simp[z])) b o E
  ·simp at E
  ·exact h.own x (.inl (by rw[T];simp[z])) b o E
  exact h.own x (.inr z) b o E
 ·have:=h.nd;rw[T]at this;rw[U];have N:(([p]++(A++[]::C++R)).flatten.map Prod.fst).Perm ((A++p::C++R).flatten.map Prod.fst):=by simp only[a0M,a0L,List.flatten_nil,a0F,a11,a0Y,a0o];exact a12 _ _ _
  exact N.nodup_iff.2 this
 simp at z;subst z;exact .inr (a0s.2 ⟨_,E,rfl⟩)
theorem HS.backOwn{Z:Heap}{W:List Nat}{p q:Fp}{M:List Fp}(h:HS B F H L R){i:Nat}(hi:L[i]?=some p)(hH:Z=H)(hW: ∀b,b∈W->b∈p.map Prod.fst)(k:HS (.of Z W) F' H' (q::M) (L.set i []++R)):HS B F' H' (L.set i q++M) R:=by
 subst hH;obtain⟨A,C,e1,e2⟩:=ej L i p hi;have al:p∈L:=a0l hi;have U: ∀b,b∈W->B.n0<=b\/b∈B.W:=fun b E=>by obtain⟨⟨b',o⟩,ag,rfl⟩:=a0s.1 (hW b E);exact h.mine p al b' o ag
 have ai: ∀x,x∈A++q::C++M\/x∈R->x∈q::M\/x∈A++[]::C++R:=by
  intro x z;simp only[a0o,a0P,a07,a0m]at z⊢;rcases z with(z|z|z|z)|z
  ·exact .inr (.inl z)
  ·exact .inl (.inl z)
  ·exact .inr (.inr (.inr (.inl z)))
  ·exact .inl (.inr z)
  exact .inr (.inr (.inr (.inr z)))
 have V: ∀x,x∈q::M->∀b o,(b,o)∈x->B.n0<=b\/b∈B.W:=fun x z b o E=>by
  rcases k.mine x z b o E with N|N
  ·exact .inl (a0c h.n0 N)
  exact U b N
 rw[e2]at k⊢;refine⟨k.fz,fun x z b o E=>k.own x (ai x z) b o E,?_,a0c h.n0 k.n0,fun b E=>?_,fun x z b o E=>?_⟩
 ·have:=k.nd;have T:((A++q::C++M++R).flatten.map Prod.fst).Perm ((q::M++(A++[]::C++R)).flatten.map Prod.fst):=by
   simp only[a0M,a0L,a11,a0Y,a0o,a0P];have N: ∀(a c m q r:List Nat),(a++(q++(c++(m++r)))).Perm (q++(m++(a++(c++r)))):=by intro a c m q r;refine List.Perm.trans (a12 a q _) (a0W q ?_);refine List.Perm.trans (a0W a (a12 c m r)) ?_;exact a12 a m _
   exact N _ _ _ _ _
  exact T.nodup_iff.2 this
 ·rcases k.log b E with N|N|N
  ·exact h.log b N
  ·exact .inr (.inl (a0c h.n0 N))
  exact .inr (U b N)
 simp only[a0o,a0P,a07,a0m]at z;rcases z with z|rfl|z|z
 ·exact h.mine x (by rw[e1];simp[z]) b o E
 ·exact V x (by simp) b o E
 ·exact h.mine x (by rw[e1];simp[z]) b o E
 exact V x (by simp[z]) b o E
end
end Go.R
end
noncomputable section
namespace Go.R
class Rp(α:Type) where
 sz:Nat
 rep:Fz->List Value->α->Prop
 len: ∀{F:Fz} {cs:List Value} {x:α},rep F cs x->cs.length=sz
 one: ∀{F:Fz} {cs:List Value} {x:α},rep F cs x->allL Value.oneCell' cs=true
 mono: ∀{F F':Fz} {cs:List Value} {x:α},F.le F'->rep F cs x->rep F' cs x
def RL{α:Type} [Rp α](F:Fz):List Value->List α->Prop
 |cs,[]=>cs=[]
 |cs,x::l=> ∃c r,cs=c++r/\Rp.rep F c x/\RL F r l
theorem allL_app{p:Value->Bool}(a b:List Value):allL p (a++b)=(allL p a&&allL p b):=by simp only[lU,a2e]
section
variable {α:Type} [Rp α] {F F':Fz}
theorem RL.length: ∀{l:List α} {cs:List Value},RL F cs l->cs.length=l.length*Rp.sz α
 | [],cs,h=>by simp only[RL]at h;subst h;simp
 |x::l,cs,h=>by obtain⟨c,r,rfl,z,A⟩:=h;rw[a04,Rp.len z,RL.length A,a08,a1m,Nat.add_comm]
theorem RL.mono(z:F.le F'): ∀{l:List α} {cs:List Value},RL F cs l->RL F' cs l
 | [],_,h=>h
 |_::_,_,⟨c,r,e,h1,h2⟩=>⟨c,r,e,Rp.mono z h1,RL.mono z h2⟩
theorem RL.one: ∀{l:List α} {cs:List Value},RL F cs l->allL Value.oneCell' cs=true
 | [],cs,h=>by simp only[RL]at h;subst h;rfl
 |x::l,cs,h=>by obtain⟨c,r,rfl,z,A⟩:=h;rw[allL_app,Rp.one z,RL.one A];rfl
theorem RL.append: ∀{l m:List α} {cs z:List Value},RL F cs l->RL F z m->RL F (cs++z) (l++m)
 | [],_,cs,_,h,k=>by simp only[RL]at h;subst h;exact k
 |_::_,_,_,_,⟨c,r,e,h1,h2⟩,k=>⟨c,_,by rw[e,a0o],h1,RL.append h2 k⟩
theorem RL.take: ∀{l:List α} {cs:List Value} (n:Nat),RL F cs l->RL F (cs.take (n*Rp.sz α)) (l.take n)
 |l,cs,0,h=>by simp[RL]
 | [],cs,n+1,h=>by simp only[RL]at h;subst h;simp[RL]
 |x::l,cs,n+1,h=>by
  obtain⟨c,r,rfl,z,N⟩:=h;refine⟨c,r.take (n*Rp.sz α),?_,z,RL.take n N⟩;rw[a27,Rp.len z];have A:List.take ((n+1)*Rp.sz α) c=c:=a0i (by rw[Rp.len z,a1m];omega);have E:(n+1)*Rp.sz α-Rp.sz α=n*Rp.sz α:=by rw[a1m];omega
  rw[A,E]
theorem RL.drop: ∀{l:List α} {cs:List Value} (n:Nat),RL F cs l->RL F (cs.drop (n*Rp.sz α)) (l.drop n)
 |l,cs,0,h=>by simpa using h
 | [],cs,n+1,h=>by simp only[RL]at h;subst h;simp[RL]
 |x::l,cs,n+1,h=>by
  obtain⟨c,r,rfl,z,N⟩:=h;have:=RL.drop n N;rw[List.drop_append,Rp.len z];have A:List.drop ((n+1)*Rp.sz α) c=[]:=a20 (by rw[Rp.len z,a1m];omega);have E:(n+1)*Rp.sz α-Rp.sz α=n*Rp.sz α:=by rw[a1m];omega
  rw[A,E];exact this
theorem RL.head{l:List α}{x:α}{cs:List Value}(h:RL F cs (x::l)):Rp.rep F (cs.take (Rp.sz α)) x:=by obtain⟨c,r,rfl,z,_⟩:=h;rw[a27,Rp.len z,a1T,List.take_zero,a0F,a0i (by rw[Rp.len z];omega)];exact z
theorem RL.at{l:List α}{cs:List Value}{j:Nat}{x:α}(h:RL F cs l)(A:l[j]?=some x):Rp.rep F ((cs.drop (j*Rp.sz α)).take (Rp.sz α)) x:=by
 have z:=h.drop j;have N:=(a0v.1 A).1;have E:l.drop j=x::l.drop (j+1):=by rw[a0T N];congr 1;exact(a0v.1 A).2
 rw[E]at z;exact z.head
theorem splice_eq(cs z:List Value)(o:Nat)(h:o+z.length<=cs.length):bp cs o z=cs.take o++z++cs.drop (o+z.length):=by
 apply a1A;intro i;rw[bA cs o z i h];simp only[a0o,a1O,a0j,a0x,a0H];have e:min o cs.length=o:=by omega
 rw[e];by_cases A:i<o
 ·rw[if_pos A,if_neg (by omega)];simp[A]
 rw[if_neg A];by_cases E:i<o+z.length
 ·rw[if_pos (by omega),if_pos (by omega)]
 rw[if_neg (by omega),if_neg (by omega)];congr 1;omega
theorem RL.set{l:List α}{cs c:List Value}{j:Nat}{x:α}(h:RL F cs l)(z:j<l.length)(hc:Rp.rep F c x):RL F (bp cs (j*Rp.sz α) c) (l.set j x):=by
 have E:=h.length;have A:j*Rp.sz α+Rp.sz α<=cs.length:=by rw[E,←a1m];exact a0A _ z
 rw[splice_eq _ _ _ (by rw[Rp.len hc];exact A),List.set_eq_take_append_cons_drop,if_pos z,Rp.len hc,a0o];refine(h.take j).append ?_;refine⟨c,_,rfl,hc,?_⟩;have:=h.drop (j+1);rw[a1m]at this;exact this
theorem RL.replicate{z:List Value}{x:α}(h:Rp.rep F z x): ∀n,RL F (cw n z) (List.replicate n x)
 |0=>rfl
 |n+1=>⟨z,cw n z,rfl,h,RL.replicate h n⟩
def Sl(F:Fz)(o:AObj)(off k:Nat)(l:List α):Prop:= ∃cs z A,o= .cells cs z A/\(A=false->off+k*Rp.sz α<=cs.length)/\l.length<=k/\RL F ((cs.drop off).take (l.length*Rp.sz α)) l/\(z=none\/z=some (Rp.sz α))
def Sv(F:Fz)(get:Nat->Option AObj)(v:Value)(l:List α):Prop:=
 (v= .slice none 0 0/\l=[])\/∃b off k o,v= .slice (some ⟨b,off,none⟩) l.length k/\get b=some o/\Sl F o off k l
def SR(F:Fz)(v:Value)(l:List α):Prop:=Sv F F v l
def OS(F:Fz)(v:Value)(l:List α)(p:Fp):Prop:=
 (v= .slice none 0 0/\l=[]/\p=[])\/∃b off k cs z,v= .slice (some ⟨b,off,none⟩) l.length k/\p=[(b,.cells cs z false)]/\Sl F (.cells cs z false) off k l
theorem Sl.mono(V:F.le F'){o:AObj}{off k:Nat}{l:List α}(h:Sl F o off k l):Sl F' o off k l:=by obtain⟨cs,z,Z,A,E,N,T,U⟩:=h;exact⟨cs,z,Z,A,E,N,T.mono V,U⟩
theorem SR.mono(z:F.le F'){v:Value}{l:List α}(h:SR F v l):SR F' v l:=by
 rcases h with h|⟨b,off,k,o,h1,h2,h3⟩
 ·exact .inl h
 exact .inr ⟨b,off,k,o,h1,z _ _ h2,h3.mono z⟩
theorem OS.mono(z:F.le F'){v:Value}{l:List α}{p:Fp}(h:OS F v l p):OS F' v l p:=by
 rcases h with h|⟨b,off,k,cs,opn,h1,h2,h3⟩
 ·exact .inl h
 exact .inr ⟨b,off,k,cs,opn,h1,h2,h3.mono z⟩
theorem SR.nil:SR F (.slice none 0 0) ([]:List α):= .inl ⟨rfl,rfl⟩
theorem OS.nil:OS F (.slice none 0 0) ([]:List α) []:= .inl ⟨rfl,rfl,rfl⟩
variable {B:Base} {H:Heap} {L R:List Fp} {v:Value} {l:List α} {p:Fp}
theorem SR.sv(h:SR F v l)(hs:HS B F H L R):Sv F H.get v l:=by
 rcases h with h|⟨b,off,k,o,h1,h2,h3⟩
 ·exact .inl h
 exact .inr ⟨b,off,k,o,h1,(hs.fz b o h2).1,h3⟩
theorem OS.sv(h:OS F v l p)(hs:HS B F H L R){i:Nat}(hi:L[i]?=some p):Sv F H.get v l:=by
 rcases h with⟨z,A,_⟩|⟨b,off,k,cs,N,z,A,E⟩
 ·exact .inl ⟨z,A⟩
 exact .inr ⟨b,off,k,_,z,hs.get hi (by rw[A];simp),E⟩
def sB:Value->Nat
 | .slice (some a) _ _=>a.block
 |_=>0
def sO:Value->Nat
 | .slice (some a) _ _=>a.off
 |_=>0
def HC(get:Nat->Option AObj)(b o:Nat)(cs:List Value):Prop:= ∃all z A,get b=some (.cells all z A)/\(all.drop o).take cs.length=cs
theorem Sv.at{get:Nat->Option AObj}(h:Sv F get v l){j:Nat}{x:α}(z:l[j]?=some x): ∃cs,Rp.rep F cs x/\HC get (sB v) (sO v+j*Rp.sz α) cs:=by
 rcases h with⟨_,rfl⟩|⟨b,off,k,o,rfl,N,cs,E,V,rfl,Z,h4,T,h6⟩
 ·simp at z
 have U:=(a0v.1 z).1;have A:=T.at z;refine⟨_,A,cs,E,V,N,?_⟩;rw[Rp.len A];show(cs.drop (off+j*Rp.sz α)).take (Rp.sz α)=(((cs.drop off).take (l.length*Rp.sz α)).drop (j*Rp.sz α)).take (Rp.sz α);rw[a2h,a2i,List.drop_drop];congr 1;have:Rp.sz α<=l.length*Rp.sz α-j*Rp.sz α:=by have:=a0A (Rp.sz α) (show j+1<=l.length from U);rw[a1m]at this;omega
 omega
theorem HC.get{get:Nat->Option AObj}{b o:Nat}{cs:List Value}(h:HC get b o cs){i:Nat}{v:Value}(z:cs[i]?=some v): ∃all A E,get b=some (.cells all A E)/\all[o+i]?=some v:=by
 obtain⟨all,A,E,N,T⟩:=h;refine⟨all,A,E,N,?_⟩;rw[←T,a0x]at z;split at z
 ·rw[a0H]at z;exact z
 cases z
theorem HC.part{get:Nat->Option AObj}{b o:Nat}{cs:List Value}(h:HC get b o cs){i n:Nat}(U:i+n<=cs.length): ∃all z E,get b=some (.cells all z E)/\(all.drop (o+i)).take n=(cs.drop i).take n/\((cs.drop i).take n).length=n:=by
 obtain⟨all,z,E,N,T⟩:=h;refine⟨all,z,E,N,?_,by rw[a0j,a0n];omega⟩;have A:(((all.drop o).take cs.length).drop i).take n=(cs.drop i).take n:=by rw[T]
 rw[a2h,a2i,List.drop_drop]at A;rw[show min n (cs.length-i)=n by omega]at A;exact A
theorem HC.same{get:Nat->Option AObj}{b:Nat}{cs:List Value}{z:Option Nat}{A:Bool}(h:get b=some (.cells cs z A)):HC get b 0 cs:=⟨cs,z,A,h,by simp⟩
instance :Rp Int where
 sz:=1
 rep _ cs n:=cs=[.int .i64 n]/\in64 n
 len:=by rintro F cs x ⟨rfl,_⟩;rfl
 one:=by rintro F cs x ⟨rfl,_⟩;rfl
 mono:=by intro F F' cs x _ h;exact h
instance :Rp Bool where
 sz:=1
 rep _ cs n:=cs=[.bool n]
 len:=by rintro F cs x rfl;rfl
 one:=by rintro F cs x rfl;rfl
 mono:=by intro F F' cs x _ h;exact h
structure Str where
 b:List UInt8
 deriving DecidableEq,Inhabited
instance :Rp Str where
 sz:=1
 rep _ cs s:=cs=[.string ⟨⟨s.b⟩⟩]
 len:=by rintro F cs x rfl;rfl
 one:=by rintro F cs x rfl;rfl
 mono:=by intro F F' cs x _ h;exact h
structure U64 where
 n:Int
 deriving DecidableEq,Inhabited
instance :Rp U64 where
 sz:=1
 rep _ cs s:=cs=[.int .u64 s.n]/\0<=s.n/\s.n<18446744073709551616
 len:=by rintro F cs x ⟨rfl,_⟩;rfl
 one:=by rintro F cs x ⟨rfl,_⟩;rfl
 mono:=by intro F F' cs x _ h;exact h
instance :Rp UInt8 where
 sz:=1
 rep _ cs s:=cs=[.int .u8 s.toNat]
 len:=by rintro F cs x rfl;rfl
 one:=by rintro F cs x rfl;rfl
 mono:=by intro F F' cs x _ h;exact h
theorem Sv.shape{get:Nat->Option AObj}{v:Value}{l:List α}(h:Sv F get v l): ∃a k,v= .slice a l.length k:=by
 rcases h with⟨rfl,rfl⟩|⟨b,off,k,o,rfl,_⟩
 ·exact⟨none,0,rfl⟩
 exact⟨_,k,rfl⟩
theorem OS.shape{v:Value}{l:List α}{p:Fp}(h:OS F v l p): ∃a k,v= .slice a l.length k:=by
 rcases h with⟨rfl,rfl,_⟩|⟨b,off,k,cs,z,rfl,_⟩
 ·exact⟨none,0,rfl⟩
 exact⟨_,k,rfl⟩
instance :Rp (List α) where
 sz:=1
 rep F cs l:= ∃a k,cs=[.slice a l.length k]/\SR F (.slice a l.length k) l
 len:=by rintro F cs x ⟨a,k,rfl,_⟩;rfl
 one:=by rintro F cs x ⟨a,k,rfl,h⟩;rfl
 mono:=by rintro F F' cs x hF ⟨a,k,rfl,h⟩;exact⟨a,k,rfl,h.mono hF⟩
end
end Go.R
end
noncomputable section
namespace Go.R
section
variable {α:Type} [Rp α] {P:Program} {ρ:Operand->Value} {d:Option Tmp} {ty:TypeId} {pos:String} {af:Array Edge} {gd:Option (Nat×Bool)} {B:Base} {F:Fz} {H:Heap} {L R:List Fp} {v:Value} {l:List α} {p:Fp}
theorem iA{x:Operand}{t e:TypeId}(E:ρ x=v)(z:P.underlying t=some (.slice e))(h:Sv F H.get v l):
  AP P ρ ⟨d,.call ⟨.builtin .len, #[x], #[t]⟩,ty,pos,af,gd⟩ H (.val (.int .i64 l.length),H):=by
 refine⟨?_⟩
 obtain⟨a,k,A⟩:=h.shape
 show ovl (aLen P t (ρ x) H) H=_
 rw[E,A]
 unfold aLen
 rw[z];rfl
theorem ap_lenS{x:Operand}{t:TypeId}{s:List UInt8}(A:ρ x= .string ⟨⟨s⟩⟩)(z:P.underlying t=some .string):
  AP P ρ ⟨d,.call ⟨.builtin .len, #[x], #[t]⟩,ty,pos,af,gd⟩ H (.val (.int .i64 s.length),H):=by
 refine⟨?_⟩
 show ovl (aLen P t (ρ x) H) H=_
 rw[A]
 unfold aLen
 rw[z]
 show ovl (some (goInt (hO s))) H=_
 rw[bS];rfl
theorem fH{x i:Operand}{t e:TypeId}{V:IntKind}{j:Int}(T:ρ x=v)(hi:ρ i= .int V j)(N:P.underlying t=some (.slice e))(U:dp P e=some (Rp.sz α))(h:Sv F H.get v l)(A:0<=j:=by first|(dsimp only;omega)|omega)(z:j<l.length:=by first|(dsimp only;omega)|omega):
  AP P ρ ⟨d,.indexAddr t x i,ty,pos,af,gd⟩ H (.val (.pointer (some ⟨sB v,sO v+j.toNat*Rp.sz α,none⟩)),H):=by
 rcases h with⟨_,rfl⟩|⟨b,off,k,o,rfl,h2,cs,Z,ro,rfl,h3,E,h5,h6⟩
 ·simp at z;omega
 exact iQ T hi N U A z E
theorem dX{t:TypeId}{x:Operand}{b o o' i:Nat}{cs:List Value}{w:Value}(U:ρ x= .pointer (some ⟨b,o',none⟩))(E:gf P t=some false)(hc:HC H.get b o cs)(N:o'=o+i)(T:cs[i]?=some w):
  AP P ρ ⟨d,.load t x,ty,pos,af,gd⟩ H (.val w,H):=by
 subst N
 obtain⟨all,V,Z,z,A⟩:=hc.get T
 exact ap_load1 U E z A
theorem bL{t:TypeId}{x:Operand}{b o o' i n:Nat}{cs l:List Value}(Z:ρ x= .pointer (some ⟨b,o',none⟩))(T:gf P t=some true)(hs:dp P t=some n)(hc:HC H.get b o cs)(V:o'=o+i)(U:Nat.ble (i+n) cs.length=true)(z:gI (gX cs i) n=l):
  AP P ρ ⟨d,.load t x,ty,pos,af,gd⟩ H (.val (.agg ⟨l⟩),H):=by
 subst V
 obtain⟨all,ad,ro,A,E,N⟩:=hc.part (a06 U)
 rw[ca,cn]at z
 exact ap_loadN Z T hs A (E.trans z) (by rw[←z];exact N)
theorem fJ{s:TypeId}{x:Operand}{f b o o':Nat}(z:ρ x= .pointer (some ⟨b,o,none⟩))(h:hL P s (.pointer (some ⟨b,o,none⟩)) f=some (.pointer (some ⟨b,o',none⟩))):
  AP P ρ ⟨d,.fieldAddr s x f,ty,pos,af,gd⟩ H (.val (.pointer (some ⟨b,o',none⟩)),H):=by
 refine⟨?_⟩
 show ovl (hL P s (ρ x) f) H=_
 rw[z,h];rfl
theorem ap_fv{t:TypeId}{x:Operand}{f:Nat}{u w:Value}(z:ρ x=u)(h:gD P t u f=some w):AP P ρ ⟨d,.field t x f,ty,pos,af,gd⟩ H (.val w,H):=by refine⟨?_⟩;show ovl (gD P t (ρ x) f) H=_;rw[z,h];rfl
theorem ap_ex{x:Operand}{i:Nat}{u w:Value}(z:ρ x=u)(h:fZ u i=some w):AP P ρ ⟨d,.extract x i,ty,pos,af,gd⟩ H (.val w,H):=by refine⟨?_⟩;show ovl (fZ (ρ x) i) H=_;rw[z,h];rfl
theorem ap_bld{t:TypeId}{A:Array (Nat×Operand)}{ps:Array (Nat×Value)}{z:List Value}{w:Value}(E:A.map (fun p=>(p.1,ρ p.2))=ps)(N:dm P t=some z)(h:aq P (Instr.build t ps)=some w):
  AP P ρ ⟨d,.build t A,ty,pos,af,gd⟩ H (.val w,H):=by
 refine⟨?_⟩
 show gt P t (A.map fun p=>(p.1,ρ p.2)) H=_
 rw[E]
 unfold gt
 rw[N]
 show lift P (Instr.build t ps) H=_
 unfold lift
 rw[h]
theorem ap_alloc{e:TypeId}{z:List Value}(A:dm P e=some z):AP P ρ ⟨d,.alloc e,ty,pos,af,gd⟩ H (.val (.pointer (some ⟨H.next,0,none⟩)),H.push (.cells z none false)):=by refine⟨?_⟩;show ec P e H=_;unfold ec;rw[A];rfl
theorem ap_box{e:TypeId}{x:Operand}{cs:List Value}(z:(ρ x).cells.toList=cs):AP P ρ ⟨d,.box e x,ty,pos,af,gd⟩ H (.val (.pointer (some ⟨H.next,0,none⟩)),H.push (.cells cs none false)):=by subst z;exact⟨rfl⟩
theorem gJ{b o:Nat}{cs z:List Value}{A:Option Nat}(N:H.get b=some (.cells cs A false))(T:o+z.length<=cs.length)(E:allL Value.oneCell' z=true):H.storeL ⟨b,o,none⟩ z=some (H.put b (.cells (bp cs o z) A false)):=by unfold Heap.storeL;have:Nat.ble (Nat.add o (hO z)) (hO cs)=true:=a0w (by rw[bS,bS];exact T);simp only[N,this,E,a1l,cond_true]
theorem ap_st{t:TypeId}{a x:Operand}{b o n:Nat}{u:Value}{cl:List Value}{H1:Heap}(A:ρ a= .pointer (some ⟨b,o,none⟩))(T:ρ x=u)(N:dp P t=some n)(hc:u.cells.toList=cl)(E:Nat.beq cl.length n=true)(z:H.storeL ⟨b,o,none⟩ cl=some H1):
  AP P ρ ⟨d,.store t a x,ty,pos,af,gd⟩ H (.skip,H1):=by
 refine⟨?_⟩
 show gr P t (ρ a) (ρ x) H=_
 rw[A,T]
 unfold gr
 have:u.cells.size=cl.length:=by rw[←hc];simp
 rw[this,N]
 simp only[E,cond_true,hc,z]
 rfl
theorem HS.st(hs:HS B F H L R){i b o:Nat}{cs cl z:List Value}(hi:L[i]?=some [(b,.cells cs none false)])(N:Nat.ble (o+cl.length) cs.length=true)(A:allL Value.oneCell' cl=true)(E:bp cs o cl=z):
  ∃H1,H.storeL ⟨b,o,none⟩ cl=some H1/\HS B F H1 (L.set i [(b,.cells z none false)]) R:=by
 subst E
 exact⟨_,gJ (hs.get hi (a0d.2 rfl)) (a06 N) A,hs.put hi⟩
theorem HS.hc(hs:HS B F H L R){i b:Nat}{cs:List Value}(hi:L[i]?=some [(b,.cells cs none false)]):HC H.get b 0 cs:=HC.same (hs.get hi (a0d.2 rfl))
theorem os_set(h:OS F v l p)(hs:HS B F H L R){i j:Nat}(hi:L[i]?=some p){x x':α}{off:Nat}{cl:List Value}(hx:l[j]?=some x)(h1:allL Value.oneCell' cl=true)
  (hr: ∀cs,Rp.rep F cs x->off+cl.length<=cs.length/\Rp.rep F (bp cs off cl) x'):
  ∃H1 p',H.storeL ⟨sB v,sO v+j*Rp.sz α+off,none⟩ cl=some H1/\OS F v (l.set j x') p'/\HS B F H1 (L.set i p') R/\∀b cs z,p=[(b,.cells cs z false)]->∃T,p'=[(b,.cells T z false)]:=by
 have hj:=(a0v.1 hx).1
 rcases h with⟨_,rfl,_⟩|⟨b,o,k,cs,z,rfl,rfl,a6,a5,a8,N,V,h4,Z,h6⟩
 ·simp at hj
 injection N with e1 e2 e3
 subst e1 e2 e3
 replace V:=V rfl
 have U:=Z.at hx
 have ai:=Z.length
 have av:j*Rp.sz α+Rp.sz α<=l.length*Rp.sz α:=by rw[←a1m];exact a0A _ hj
 have a7:l.length*Rp.sz α<=k*Rp.sz α:=a0A _ h4
 obtain⟨A,g2⟩:=hr _ U
 have E:=Rp.len U
 have hb:o+j*Rp.sz α+off+cl.length<=cs.length:=by rw[E]at A;omega
 refine⟨_,_,gJ (b:=b) (o:=o+j*Rp.sz α+off) (hs.get hi (a0d.2 rfl)) hb h1,.inr ⟨b,o,k,_,z,by rw[a0g],rfl,_,_,_,rfl,?_,by rw[a0g];exact h4,?_,h6⟩,hs.put hi,?_⟩
 ·intro _;rw[bV _ _ _ hb];exact V
 rotate_left
 ·intro b' T a4 N;simp only[List.cons.injEq,a03,AObj.cells.injEq,and_true]at N;obtain⟨rfl,rfl,rfl⟩:=N;exact⟨_,rfl⟩
 rw[a0g]
 have key:((bp cs (o+j*Rp.sz α+off) cl).drop o).take (l.length*Rp.sz α)=bp ((cs.drop o).take (l.length*Rp.sz α)) (j*Rp.sz α) (bp ((((cs.drop o).take (l.length*Rp.sz α)).drop (j*Rp.sz α)).take (Rp.sz α)) off cl):=by
  have hA:(bp ((((cs.drop o).take (l.length*Rp.sz α)).drop (j*Rp.sz α)).take (Rp.sz α)) off cl).length=Rp.sz α:=by rw[bV _ _ _ A,E]
  have hB:((cs.drop o).take (l.length*Rp.sz α)).length=l.length*Rp.sz α:=ai;apply a1A;intro q;rw[bA _ _ _ _ (by rw[hA,hB];exact av),a0x,a0H,bA _ _ _ _ hb,hA];rw[E]at A;by_cases c1:q<l.length*Rp.sz α
  ·rw[if_pos c1];by_cases c2:o+j*Rp.sz α+off<=o+q/\o+q<o+j*Rp.sz α+off+cl.length
   ·rw[if_pos c2,if_pos (by omega),bA _ _ _ _ (by rw[E];exact A),if_pos (by omega)];congr 1;omega
   rw[if_neg c2];by_cases c3:j*Rp.sz α<=q/\q<j*Rp.sz α+Rp.sz α
   ·rw[if_pos c3,bA _ _ _ _ (by rw[E];exact A),if_neg (by omega),a0x,if_pos (by omega),a0H,a0x,if_pos (by omega),a0H];congr 1;omega
   rw[if_neg c3,a0x,if_pos c1,a0H]
  rw[if_neg c1,if_neg (by omega),a0x,if_neg c1]
 rw[key]
 exact Z.set hj g2
theorem Sv.first{x:Value}{z:List α}(h:Sv F H.get x z):lenA x=some z.length/\∃A,eL H (Rp.sz α) z.length x=some A/\RL F A z:=by
 rcases h with⟨rfl,rfl⟩|⟨b,off,k,o,rfl,N,cs,V,ro,rfl,Z,h4,E,h6⟩
 ·exact⟨rfl,[],rfl,rfl⟩
 refine⟨rfl,?_⟩;unfold eL;cases T:Nat.beq z.length 0 with
 |true=>
  have:=a09 T
  have e:z=[]:=a0t this
  subst e
  exact⟨[],rfl,rfl⟩
 |false=>
  refine⟨_,?_,E⟩
  simp only[cond_false]
  unfold Heap.loadN
  have U:=E.length
  simp only[N,ca,cn,bS,U,a0Z,cond_true]
theorem os_append(h:OS F v l p)(hs:HS B F H L R){i:Nat}(hi:L[i]?=some p){x:Value}{N:List α}{T z:List Value}{types:Array TypeId}{st xt e:TypeId}{xd:TypeDesc}{a1:Nat}
  (h0:types[0]?=some st) (h1:types[1]?=some xt) (b4:P.underlying st=some (.slice e)) (b7:P.underlying xt=some xd) (b5: ∀k,xd≠ .int k) (hz:dp P e=some (Rp.sz α)) (bz:fb P e=some a1) (b9:dm P e=some z)
  (a4:Nat.beq (hO z) (Rp.sz α)=true) (a2:Nat.ble a1 4096=true) (ag:Nat.beq (Rp.sz α) 0=false) (b6:lenA x=some N.length) (hf:eL H (Rp.sz α) N.length x=some T) (U:RL F T N) (av:l.length+N.length<=2147483648):
  ∃a k H1 p',fg P types v x H=some (.slice a (l++N).length k,H1)/\OS F (.slice a (l++N).length k) (l++N) p'/\HS B F H1 (L.set i p') R:=by
 have ad:L.set i p=L:=by obtain⟨A,C,e1,e2⟩:=ej L i p hi;rw[e2 p,←e1]
 have aw:=U.one
 have V:=U.length
 have ci:0<Rp.sz α:=by
  rcases a1G (Rp.sz α) with hq|hq
  ·rw[hq]at ag;cases ag
  exact hq
 have c6: ∀(Y:Option (Value×Heap)),(match xd with| .int _=>none|_=>Y)=Y:=by intro Y;cases xd<;>first|rfl|exact absurd rfl (b5 _)
 unfold fg
 simp only[h0,h1,b4,b7,hz,bz,b9,b6,hf]
 rcases h with⟨rfl,rfl,rfl⟩|⟨b,o,k,cs,ai,rfl,rfl,c9,c8,dd,he,h3,h4,h5,h6⟩
 ·cases hm:Nat.beq N.length 0 with
  |true=>
   have:N=[]:=a0t (a09 hm)
   subst this
   exact⟨none,0,H,[],rfl,.nil,by rw[ad];exact hs⟩
  |false=>
   have ar:Nat.ble N.length 2147483648=true:=a0w (by simp at av;omega)
   simp only[cond_false,a4,ar,a2,ag,a1D,a1l,cond_true]
   refine⟨_,_,_,[(H.next,.cells T (some (Rp.sz α)) false)],rfl,.inr ⟨_,0,_,_,_,rfl,rfl,_,_,_,rfl,?_,by simp,?_,.inr rfl⟩,?_⟩
   ·intro _;show 0+N.length*Rp.sz α<=T.length;rw[V];omega
   ·rw[a15,a11,←V,a1e];exact U
   refine hs.turn hi (H':=aP H T (some (Rp.sz α))) (by simp[aP]) (fun b E _=>Heap.get_push_ne _ _ (by omega)) (fun b o E=>?_) (by simp) (fun b E=> .inl (by simpa[aP] using E))
   simp at E;obtain⟨rfl,rfl⟩:=E
   exact⟨Heap.get_push_same _ _,by simp[aP],.inl (a0a _)⟩
 injection he with e1 e2 e3
 subst e1 e2 e3
 replace h3:=h3 rfl
 have hg:=hs.get hi (b:=b) (o:= .cells cs ai false) (by simp)
 simp only[hg]
 cases hk:Nat.ble (l.length+N.length) k with
 |true=>
  have a3:=a06 hk
  simp only[cond_true]
  cases hm:Nat.beq N.length 0 with
  |true=>
   have:N=[]:=a0t (a09 hm)
   subst this
   simp only[cond_true,a0F]
   exact⟨_,_,_,_,rfl,.inr ⟨b,o,k,cs,ai,rfl,rfl,_,_,_,rfl,fun _=>h3,h4,h5,h6⟩,by rw[ad];exact hs⟩
  |false=>
   simp only[cond_false]
   have b0:(l.length+N.length)*Rp.sz α<=k*Rp.sz α:=a0A _ a3
   have E:o+l.length*Rp.sz α+T.length<=cs.length:=by rw[V];rw[a10]at b0;omega
   rw[gJ hg E aw]
   simp only
   refine⟨some ⟨b,o,none⟩,k,_,[(b,.cells (bp cs (o+l.length*Rp.sz α) T) ai false)],by rw[a04],.inr ⟨b,o,k,_,ai,rfl,rfl,_,_,_,rfl,?_,by rw[a04];exact a3,?_,h6⟩,hs.put hi⟩
   ·intro _;rw[bV _ _ _ E];exact h3
   have key:((bp cs (o+l.length*Rp.sz α) T).drop o).take ((l++N).length*Rp.sz α)=(cs.drop o).take (l.length*Rp.sz α)++T:=by
    have b1:=h5.length;apply a1A;intro q;rw[a0x,a0H,bA _ _ _ _ E,a04,a10,a1O,b1];by_cases c1:q<l.length*Rp.sz α
    ·rw[if_pos (by omega),if_neg (by omega),if_pos c1,a0x,if_pos c1,a0H]
    rw[if_neg c1];by_cases c2:q<l.length*Rp.sz α+N.length*Rp.sz α
    ·rw[if_pos c2,if_pos (by rw[V];omega)];congr 1;omega
    rw[if_neg c2,a0Q (by rw[V];omega)]
   rw[key]
   exact h5.append U
 |false=>
  simp only[cond_false]
  have ar:Nat.ble (l.length+N.length) 2147483648=true:=a0w av
  have b3:Nat.ble l.length k=true:=a0w h4
  simp only[a4,ar,a2,ag,b3,a1D,a1l,cond_true]
  have be:eL H (Rp.sz α) l.length (.slice (some ⟨b,o,none⟩) l.length k)=some ((cs.drop o).take (l.length*Rp.sz α)):=by
   unfold eL;cases E:Nat.beq l.length 0 with
   |true=>
    have:=a09 E
    simp[this]
   |false=>
    simp only[cond_false]
    unfold Heap.loadN
    have hl:=h5.length
    simp only[hg,ca,cn,bS,hl,a0Z,cond_true]
  rw[be]
  simp only[dA]
  have an:=h5.append U
  have Z:=an.length
  have ao: ∀(k':Nat) (bb:Nat),k'=(l++N).length->OS F (.slice (some ⟨bb,0,none⟩) (l++N).length k') (l++N) [(bb,.cells ((cs.drop o).take (l.length*Rp.sz α)++T) (some (Rp.sz α)) false)]:=by rintro k' bb rfl;refine .inr ⟨bb,0,_,_,_,rfl,rfl,_,_,_,rfl,fun _=>(by rw[Z];omega),a0a _,?_,.inr rfl⟩;rw[a15,←Z,a1e];exact an
  rcases h6 with rfl|rfl
  ·simp only;refine⟨some ⟨H.next,0,none⟩,l.length+N.length,_,_,by rw[a04],ao _ _ (by rw[a04]),?_⟩;refine hs.turn hi (by simp[aP]) (fun b E _=>Heap.get_push_ne _ _ (by omega)) (fun b o E=>?_) (by simp) (fun b E=> .inl (by simpa[aP] using E));simp at E;obtain⟨rfl,rfl⟩:=E;exact⟨Heap.get_push_same _ _,by simp[aP],.inl (a0a _)⟩
  simp only[a0Z,a1l,aw,cond_true]
  refine⟨some ⟨H.next,0,none⟩,l.length+N.length,_,_,by rw[a04],ao _ _ (by rw[a04]),?_⟩
  refine hs.turn hi (by simp[aP]) (fun c E b2=>?_) (fun c o E=>?_) (by simp) (fun c E=>?_)
  ·show((H.put b .dead).push _).get c=_;rw[Heap.get_push_ne _ _ (by simp;omega),Heap.get_put_ne _ _ fun e=>b2 (.cells cs (some (Rp.sz α)) false) (by simp[e])]
  ·simp at E;obtain⟨rfl,rfl⟩:=E;exact⟨Heap.get_push_same (H.put b .dead) _,by simp[aP],.inl (a0a _)⟩
  simp only[aP,Heap.log_push,Heap.log_put]at E
  rcases a0m.1 E with rfl|E
  ·exact .inr (.inr ⟨.cells cs (some (Rp.sz α)) false,by simp⟩)
  exact .inl E
end
end Go.R
end
noncomputable section
set_option linter.unusedVariables false
namespace Go.R
section
variable {P:Program} {G:Nat} {cf:cj} {ops:Array Oper}
theorem i9{s A:St}{d:Option Tmp}{v:Value}(h:s.put d v=some A):A.size=s.size:=by
 unfold St.put at h;cases d with
 |none=>simp only[a00]at h;rw[←h]
 |some d=>
  cases z:Nat.ble (d+1) s.size with
  |true=>simp only[z,cond_true,a00]at h;rw[←h]
  |false=>simp only[z,cond_false]at h;cases h
theorem step_size{o:Oper}{s E:St}(h:step P G cf ops o s=some E):E.size=s.size:=by
 unfold step at h;cases A:bd ops o s.tmps with
 |false=>simp only[A,cond_false]at h;exact i9 h
 |true=>
  simp only[A,cond_true]at h
  cases z:o.op.operands.toList.all (bC G) with
  |false=>rw[z]at h;cases h
  |true=>
   rw[z]at h
   simp only[cond_true]at h
   split at h
   ·have:=i9 h;exact this
   ·have:=i9 h;exact this
   ·split at h
    ·have:=i9 h;exact this
    cases h
   cases h
theorem jC: ∀(l:List Oper) (s z:St),fj P G cf ops l s=some z->z.size=s.size
 | [],_,_,h=>by rw[ie]at h;simp only[a00]at h;rw[←h]
 |o::l,s,z,h=>by
  rw[bW]at h;split at h
  ·rename_i t A;rw[jC l _ _ h,step_size A]
  cases h
theorem iF: ∀(l:List Oper) (i:Nat) (fs:List (Nat×Inf)) (s s':St),bn P G cf ops i fs l s=some s'->s'.size=s.size
 | [],_,_,_,_,h=>by unfold bn at h;simp only[a00]at h;rw[←h]
 |o::l,i,fs,s,s',h=>by
  unfold bn at h;split at h
  ·rename_i t f z;cases A:bZ (cg ops) i f fs with
   |false=>rw[A]at h;cases h
   |true=>
    rw[A]at h
    rw[iF l _ _ _ _ h]
    unfold ga at z
    split at z
    ·rename_i N E;simp only[a00,a03]at z;rw[←z.1];have:=step_size E;exact this
    cases z
  cases h
theorem region_size{z:Bool}{s E:St}(h:bR P G cf ops z s=some E):E.size=s.size:=by
 unfold bR at h;cases z with
 |false=>exact jC _ _ _ h
 |true=>
  simp only[cond_true]at h
  cases A:aO ops&&P.follows .mixedOrders with
  |false=>rw[A]at h;cases h
  |true=>rw[A]at h;exact iF _ _ _ _ _ h
def SizeOK(ex:Code->St->Option (Ex×St)):Prop:= ∀c s e z,ex c s=some (e,z)->z.size=s.size
theorem execC_size{ex:Code->St->Option (Ex×St)}(ad:SizeOK ex):SizeOK (ek P G ex cf):=by
 intro c;have U: ∀{r:Option (Ex×St)} {k:St->Option (Ex×St)} {n:Nat} {e:Ex} {z:St},(∀e s,r=some (e,s)->s.size=n)->(∀s e z,s.size=n->k s=some (e,z)->z.size=n)->fD r k=some (e,z)->z.size=n:=by
  intro r k n e z hr hk h;cases E:r with
  |none=>rw[E]at h;cases h
  |some y=>
   obtain⟨T,N⟩:=y
   have A:=hr T N E
   rw[E]at h
   cases T with
   |normal=>exact hk N e z A h
   |exit i=>simp only[fD,a00,a03]at h;rw[←h.2];exact A
   |ret=>simp only[fD,a00,a03]at h;rw[←h.2];exact A
 induction c with
 |skip=>intro s e z h;rw[kJ]at h;simp only[a00,a03]at h;rw[←h.2]
 |region id ops draw=>
  intro s e z h
  rw[fC]at h
  cases E:bR P G cf ops draw s with
  |none=>rw[E]at h;cases h
  |some t=>
   rw[E]at h
   simp only[dD,a00,a03]at h
   rw[←h.2];exact region_size E
 |seq a b iha ihb=>
  intro s e z h
  rw[jS]at h
  exact U (fun e N A=>iha s e N A) (fun N e z A V=>(ihb N e z V).trans A) h
 |cond c t e iht ihe=>
  intro s e z h
  rw[ip]at h
  cases E:bC G c with
  |false=>rw[E]at h;cases h
  |true=>
   rw[E]at h
   simp only[cond_true]at h
   unfold kM at h
   split at h
   ·rename_i b Z;cases b with
    |true=>exact iht s _ z h
    |false=>exact ihe s _ z h
   cases h
 |block id b ih=>
  intro s e z h
  rw[gy]at h
  cases E:ek P G ex cf b s with
  |none=>rw[E]at h;cases h
  |some y=>
   obtain⟨T,N⟩:=y
   have A:=ih s T N E
   rw[E]at h
   cases T with
   |normal=>simp only[cN,a00,a03]at h;rw[←h.2];exact A
   |exit i=>
    unfold cN at h
    cases Z:Nat.beq i id with
    |true=>simp only[Z,cond_true,a00,a03]at h;rw[←h.2];exact A
    |false=>simp only[Z,cond_false,a00,a03]at h;rw[←h.2];exact A
   |ret=>simp only[cN,a00,a03]at h;rw[←h.2];exact A
 |loop b ih=>
  intro s e z h
  rw[io]at h
  exact U (fun e N A=>ih s e N A) (fun N e z A V=>(ad _ N e z V).trans A) h
 |exit id=>intro s e z h;rw[kK]at h;simp only[a00,a03]at h;rw[←h.2]
 |ret=>intro s e z h;rw[execC_ret]at h;simp only[a00,a03]at h;rw[←h.2]
 |_=>intro s e z h;cases h
theorem exec_size{K:bM}: ∀n,SizeOK (kL P G K n)
 |0=>fun c s e z h=>by cases h
 |n+1=>fun c=>execC_size (exec_size n) c
end
section
variable {P:Program} {G:Nat} {K:bM} {sz:Nat} {Q Q1:Ex->Fn->Heap->Prop} {c:Code} {k:List Fr} {f:Fn} {H:Heap}
theorem wk_cut(h1:WK P G K sz c [] f H Q1)(h2: ∀z H',Q1 .normal z H'->WK P G K sz .skip k z H' Q)(h3: ∀i z H',Q1 (.exit i) z H'->WK P G K sz (.exit i) k z H' Q)(h4: ∀z H',Q1 .ret z H'->Q .ret z H'):
  WK P G K sz c k f H Q:=⟨fun t ht=>by
 obtain⟨A,e,s1,hx,hq⟩:=h1.out t ht
 have T:kL P G K (A+1) c ⟨t,sz,H⟩=some (e,s1):=hx
 have an:=exec_size _ _ _ _ _ T
 obtain⟨U,E,H1⟩:=s1
 have ai:E=sz:=an
 subst ai
 cases e with
 |ret=>exact⟨A,.ret,_,by rw[T];exact i8 k,h4 _ _ hq⟩
 |normal=>
  obtain⟨N,e,s',Z,h6⟩:=(h2 _ _ hq).out U rfl
  refine⟨Nat.max A N,e,s',?_,h6⟩
  refine db (a1q (a1a A N)) k _ _ (fun x V=>?_) _ Z
  have:x=(.normal,⟨U,E,H1⟩):=by have:some (Ex.normal,(⟨U,E,H1⟩:St))=some x:=V;exact(Option.some.inj this).symm
  subst this
  exact gW (a1q (a1I A N)) _ _ _ T
 |exit i=>
  obtain⟨N,e,s',Z,h6⟩:=(h3 i _ _ hq).out U rfl
  refine⟨Nat.max A N,e,s',?_,h6⟩
  refine db (a1q (a1a A N)) k _ _ (fun x V=>?_) _ Z
  have:x=(.exit i,⟨U,E,H1⟩):=by have:some (Ex.exit i,(⟨U,E,H1⟩:St))=some x:=V;exact(Option.some.inj this).symm
  subst this
  exact gW (a1q (a1I A N)) _ _ _ T⟩
def inR(lo hi:Nat)(ex:List Nat)(j:Nat):Bool:=(Nat.ble lo j&&Nat.ble j hi)||memB j ex
def hav(lo hi:Nat)(ex:List Nat)(g f:Fn):Fn:=fun j=>bif inR lo hi ex j then g j else f j
structure Leaves(lo hi:Nat)(ex:List Nat)(f f':Fn):Prop where
 out: ∀j,inR lo hi ex j=false->f' j=f j
theorem Leaves.refl{lo hi:Nat}{ex:List Nat}{f:Fn}:Leaves lo hi ex f f:=⟨fun _ _=>rfl⟩
theorem Leaves.upd{lo hi:Nat}{ex:List Nat}{f A:Fn}{i:Nat}{v:Value}(E:inR lo hi ex i=true)(h:Leaves lo hi ex f A):Leaves lo hi ex f (upd A i v):=⟨fun j z=>by
 unfold Go.R.upd;cases N:Nat.beq i j with
 |true=>have:=a09 N;subst this;rw[E]at z;cases z
 |false=>exact h.out j z⟩
theorem Leaves.eq{lo hi:Nat}{ex:List Nat}{f z:Fn}(h:Leaves lo hi ex f z):z=hav lo hi ex z f:=by
 funext j;unfold hav;cases A:inR lo hi ex j with
 |true=>rfl
 |false=>exact h.out j A
theorem wk_rcut{id:Nat}{ops:Array Oper}{A:Bool}(lo hi:Nat)(ex:List Nat)(l:List (Nat×Value))(E:Heap->Prop)
  (N:WK P G K sz (.region id ops A) [] f H fun e z H'=>e= .normal/\E H'/\Leaves lo hi ex f z/\am z l)
  (T: ∀g H',E H'->WK P G K sz .skip k (lh (hav lo hi ex g f) l) H' Q):WK P G K sz (.region id ops A) k f H Q:=by
 refine wk_cut N ?_ ?_ ?_
 ·rintro z H' ⟨_,hH,hl,ha⟩;have:=T z H' hH;rw[←hl.eq,gH ha]at this;exact this
 ·rintro i z H' ⟨h,_⟩;cases h
 rintro z H' ⟨h,_⟩;cases h
end
inductive ID where
 |v
 |a
 |r
 |l (b:Nat)
 |x (W:List Nat)
 |q (S:Nat->Prop)
def ID.fits:ID->Inf->Prop
 | .v,g=>g= .v
 | .a,g=> ∃b,g= .a b
 | .r,g=>fG g=true
 | .l b,g=>g= .l b
 | .x W,g=> ∃w,g= .x w/\∀b,b∈w->b∈W
 | .q S,g=>g= .v\/∃b,g= .l b/\S b
def ID.nilW:List Nat->Prop
 | []=>True
 |_=>False
def cD:ID->ID->Prop
 | .v,_=>True
 |_,.v=>True
 | .q S,.x W=> ∀b,b∈W->¬S b
 | .x W,.q S=> ∀b,b∈W->¬S b
 | .l b,.x W=>b∉W
 | .x W,.l b=>b∉W
 | .x W,.x U=>ID.nilW W/\ID.nilW U
 | .a,.x W=>ID.nilW W
 | .r,.x W=>ID.nilW W
 | .x _,.a=>True
 | .x W,.r=>ID.nilW W
 |_,_=>True
theorem eK{b:Nat}: ∀{l:List Nat},b∉l->memB b l=false
 | [],_=>rfl
 |c::l,h=>by
  simp only[a0m,not_or]at h;unfold memB;have:Nat.beq b c=false:=by
   cases z:Nat.beq b c with
   |false=>rfl
   |true=>exact absurd (a09 z) h.1
  rw[this,eK h.2];rfl
theorem bX: ∀{d:ID} {g:Inf},d.fits g->(∀W,d≠ .x W)->fG g=true
 | .v,_,h,_=>by subst h;rfl
 | .a,_,⟨_,h⟩,_=>by subst h;rfl
 | .r,_,h,_=>h
 | .l _,_,h,_=>by subst h;rfl
 | .x W,_,_,h=>absurd rfl (h W)
 | .q _,_,h,_=>by rcases h with rfl|⟨_,rfl,_⟩<;>rfl
theorem eg{W:List Nat}{g:Inf}(h:ID.nilW W)(z:ID.fits (.x W) g):fG g=true:=by
 obtain⟨w,rfl,A⟩:=z;cases W with
 |nil=>
  cases w with
  |nil=>rfl
  |cons a t=>have:=A a (by simp);simp at this
 |cons _ _=>exact absurd h id
theorem compat_of{d e:ID}{f g:Inf}(A:d.fits f)(z:e.fits g)(h:cD d e):dW f g=true:=by
 have key:fG f=true->fG g=true->dW f g=true:=lQ;cases d with
 |v=>rw[show f= .v from A];rfl
 |a=>
  cases e with
  |x W=>exact key (bX A (by intro W h;cases h)) (eg h z)
  |v=>rw[show g= .v from z];cases f<;>rfl
  |_=>exact key (bX A (by intro W h;cases h)) (bX z (by intro W h;cases h))
 |r=>
  cases e with
  |x W=>exact key (bX A (by intro W h;cases h)) (eg h z)
  |v=>rw[show g= .v from z];cases f<;>rfl
  |_=>exact key (bX A (by intro W h;cases h)) (bX z (by intro W h;cases h))
 |l b=>
  cases e with
  |x W=>
   obtain⟨w,rfl,N⟩:=z
   rw[show f= .l b from A]
   show(!memB b w)=true
   rw[eK fun E=>h (N b E)];rfl
  |v=>rw[show g= .v from z];cases f<;>rfl
  |_=>exact key (bX A (by intro W h;cases h)) (bX z (by intro W h;cases h))
 |x W=>
  cases e with
  |v=>rw[show g= .v from z];cases f<;>rfl
  |a=>obtain⟨b,rfl⟩:=z;obtain⟨w,rfl,_⟩:=A;rfl
  |r=>exact key (eg h A) z
  |q S=>
   obtain⟨w,rfl,N⟩:=A
   rcases z with rfl|⟨b,rfl,E⟩
   ·rfl
   show(!memB b w)=true
   rw[eK fun T=>h b (N b T) E];rfl
  |l b=>
   obtain⟨w,rfl,N⟩:=A
   rw[show g= .l b from z]
   show(!memB b w)=true
   rw[eK fun E=>h (N b E)];rfl
  |x U=>exact key (eg h.1 A) (eg h.2 z)
 |q S=>
  cases e with
  |x W=>
   obtain⟨w,rfl,N⟩:=z
   rcases A with rfl|⟨b,rfl,E⟩
   ·rfl
   show(!memB b w)=true
   rw[eK fun T=>h b (N b T) E];rfl
  |v=>rw[show g= .v from z];cases f<;>rfl
  |_=>exact key (bX A (by intro W h;cases h)) (bX z (by intro W h;cases h))
def FsD:List (Nat×Inf)->List (Nat×ID)->Prop
 | [],[]=>True
 |(j,g)::fs,(i,d)::D=>j=i/\d.fits g/\FsD fs D
 |_,_=>False
def okD(ops:Array Oper)(i:Nat)(d:ID):List (Nat×ID)->Prop
 | []=>True
 |(j,e)::D=>(bo (cg ops) j i=true\/cD e d)/\okD ops i d D
theorem cO{ops:Array Oper}{i:Nat}{d:ID}{f:Inf}(z:d.fits f): ∀{fs:List (Nat×Inf)} {D:List (Nat×ID)},FsD fs D->okD ops i d D->bZ (cg ops) i f fs=true
 | [],[],_,_=>rfl
 |(j,g)::fs,(_,e)::D,⟨rfl,h2,h3⟩,⟨h4,h5⟩=>by
  unfold bZ;rw[cO z h3 h5,a1M];rcases h4 with h4|h4
  ·rw[h4];rfl
  rw[compat_of h2 z h4,Bool.or_true]
 | [],_::_,h,_=>absurd h id
 |_::_,[],h,_=>absurd h id
section
variable {P:Program} {G:Nat} {K:bM} {sz:Nat} {Q:Ex->Fn->Heap->Prop} {ops:Array Oper} {D:List (Nat×ID)} {i:Nat} {os:List Oper} {k:List Fr} {f:Fn} {H H1:Heap} {v:Value}
 {d:Tmp} {op:Op} {ty:TypeId} {pos:String} {af:Array Edge}
structure WF2(P:Program)(G:Nat)(K:bM)(sz:Nat)(ops:Array Oper)(D:List (Nat×ID))(i:Nat)(os:List Oper)(k:List Fr)(f:Fn)(H:Heap)(Q:Ex->Fn->Heap->Prop):Prop where
 out: ∀t fs,cC t=f->FsD fs D->∃n e s',runK P G K (n+1) k (dD (bn P G (call P G K n) ops i fs os ⟨t,sz,H⟩))=some (e,s')/\Q e (cC s'.tmps) s'.heap
theorem aI{id:Nat}(E:(aO ops&&P.follows .mixedOrders)=true)(h:WF2 P G K sz ops [] 0 ops.toList k f H Q):WK P G K sz (.region id ops true) k f H Q:=⟨fun t N=>by
 obtain⟨n,e,T,z,A⟩:=h.out t [] N trivial;refine⟨n,e,T,?_,A⟩;have:kL P G K (n+1) (.region id ops true) ⟨t,sz,H⟩=dD (bn P G (call P G K n) ops 0 [] ops.toList ⟨t,sz,H⟩):=by show dD (bR P G (call P G K n) ops true ⟨t,sz,H⟩)=_;unfold bR;simp only[cond_true,E]
 rw[this];exact z⟩
theorem bm(h:WK P G K sz .skip k f H Q):WF2 P G K sz ops D i [] k f H Q:=⟨fun t fs E _=>by
 obtain⟨n,e,N,z,A⟩:=h.out t E;exact⟨n,e,N,by unfold bn;exact z,A⟩⟩
def Did(ops:Array Oper)(f:Fn)(o:Oper)(n:Nat)(log:List Nat)(d:ID):Prop:= ∀t sz H,cC t=f->d.fits (dw ops o ⟨t,sz,H⟩ n log)
theorem fE{o:Oper}{n:Nat}{log:List Nat}(h:aX o.op=true):Did ops f o n log .v:=fun _ _ _ _=>infOf_value h
theorem fp{o:Oper}{n:Nat}{log:List Nat}(A:o.guard=none)(z:aX o.op=false)(h:dQ o.op=true):Did ops f o n log .a:=fun t sz H _=>by unfold dw bd;simp only[A,a1y,z,Bool.or_self,cond_false,h,cond_true];exact⟨_,rfl⟩
theorem ce{z:Option Tmp}{lt:TypeId}{a:Operand}{n b o:Nat}{log:List Nat}(A:dj f a= .pointer (some ⟨b,o,none⟩)):Did ops f ⟨z,.load lt a,ty,pos,af,none⟩ n log (.l b):=fun t sz H E=>by
 have:cP t a= .pointer (some ⟨b,o,none⟩):=by rw[dF,E];exact A
 unfold dw bd;simp only[a1y,Bool.false_or,cond_false,dQ,aX,this];rfl
theorem eJ{n b:Nat}{l:List Nat}(h:b∈cV n l):b∈l/\b<n:=by
 induction l with
 |nil=>simp[cV]at h
 |cons c l ih=>
  unfold cV at h
  cases z:Nat.ble n c with
  |true=>
   rw[z]at h
   have:=ih h
   exact⟨a0h _ this.1,this.2⟩
  |false=>
   rw[z]at h
   rcases a0m.1 h with rfl|h
   ·refine⟨a0r ..,?_⟩;rcases a0k b n with h1|h1
    ·exact h1
    rw[a0w h1]at z;cases z
   have:=ih h
   exact⟨a0h _ this.1,this.2⟩
theorem did_r{o:Oper}{n:Nat}{log:List Nat}(h: ∀b,b∈log->n<=b):Did ops f o n log .r:=fun t sz H _=>infOf_benign (below_nil h)
theorem did_q{z:Option Tmp}{lt:TypeId}{x:Operand}{lo hi T:Option Operand}{n k m:Nat}{a:Option Addr}{log:List Nat}{S:Nat->Prop}(N:dj f x= .slice a k m)(A: ∀p,a=some p->S p.block):Did ops f ⟨z,.slice lt x lo hi T,ty,pos,af,none⟩ n log (.q S):=fun t sz H E=>by
 have:cP t x= .slice a k m:=by rw[dF,E];exact N
 unfold dw bd;simp only[a1y,Bool.false_or,cond_false,dQ,aX,this];cases a with
 |none=>exact .inl rfl
 |some p=>exact .inr ⟨_,rfl,A p rfl⟩
theorem jU{z:Option Tmp}{x:Operand}{N:Array TypeId}{n k m:Nat}{a:Option Addr}{log:List Nat}(E:dj f x= .slice a k m):Did ops f ⟨z,.call ⟨.builtin .len, #[x],N⟩,ty,pos,af,none⟩ n log .v:=fun t sz H A=>by
 have:cP t x= .slice a k m:=by rw[dF,A];exact E
 unfold dw bd;simp only[a1y,Bool.false_or,cond_false,dQ,aX];show ID.fits .v (match eO (cP t) [x] with| [.slice _ _ _]=>Inf.v| [.string _]=> .v|_=> .x (cV n log));show ID.fits .v (match [cP t x] with| [.slice _ _ _]=>Inf.v| [.string _]=> .v|_=> .x (cV n log));rw[this];rfl
def eH:Op->Bool
 | .load _ _| .slice _ _ _ _ _| .call ⟨.builtin .len,_,_⟩=>false
 |o=> !aX o&& !dQ o
theorem bE{o:Oper}{n:Nat}{log:List Nat}{W:List Nat}(U:o.guard=none)(z:eH o.op=true)(h: ∀b,b∈log->n<=b\/b∈W):Did ops f o n log (.x W):=fun t sz H _=>by
 have E:aX o.op=false/\dQ o.op=false:=by
  unfold eH at z;split at z
  ·cases z
  ·cases z
  ·cases z
  simpa using z
 refine⟨cV n log,?_,fun b T=>?_⟩
 ·unfold dw bd;simp only[U,a1y,E.1,E.2,Bool.or_self,cond_false];split
  ·rename_i A;rw[A]at z;cases z
  ·rename_i A;rw[A]at z;cases z
  ·rename_i A;rw[A]at z;cases z
  rfl
 obtain⟨N,V⟩:=eJ T;rcases h b N with h3|h3
 ·omega
 exact h3
theorem wf_val{id:ID}(ha:AP P (dj f) ⟨some d,op,ty,pos,af,none⟩ {H with log:=[]} (.val v,H1))(ho:op.operands.toList.all (bC G)=true)(hd:Nat.ble (d+1) sz=true)
  (N:Did ops f ⟨some d,op,ty,pos,af,none⟩ H.next H1.log id) (T:okD ops i id D)
  (h: ∀l,(∀b,b∈l->b∈H1.log\/b∈H.log)->WF2 P G K sz ops ((i,id)::D) (i+1) os k (upd f d v) {H1 with log:=l} Q):WF2 P G K sz ops D i (⟨some d,op,ty,pos,af,none⟩::os) k f H Q:=⟨fun t fs E A=>by
 obtain⟨t',U,V⟩:=lp (P:=P) (G:=G) (ops:=ops) (t:=t) (sz:=sz) (o:=⟨some d,op,ty,pos,af,none⟩) rfl ho (by rw[E];exact ha.eq) hd
 have hi:=N t sz H E
 obtain⟨n,e,s',Z,h4⟩:=(h (cV H.next H1.log++H.log) (fun b z=>by
  rcases a07.1 z with z|z
  ·exact .inl (eJ z).1
  exact .inr z)).out t' ((i,dw ops ⟨some d,op,ty,pos,af,none⟩ ⟨t,sz,H⟩ H.next H1.log)::fs) (by rw[V,E];rfl) ⟨rfl,hi,A⟩
 refine⟨n,e,s',?_,h4⟩
 unfold bn ga
 rw[U]
 simp only[cO hi A T,cond_true]
 exact Z⟩
theorem aF{id:ID}(ha:AP P (dj f) ⟨some d,op,ty,pos,af,none⟩ {H with log:=[]} (.val v,{H with log:=[]}))(ho:op.operands.toList.all (bC G)=true)(hd:Nat.ble (d+1) sz=true)
  (E:Did ops f ⟨some d,op,ty,pos,af,none⟩ H.next [] id) (N:okD ops i id D)
  (h:WF2 P G K sz ops ((i,id)::D) (i+1) os k (upd f d v) H Q):WF2 P G K sz ops D i (⟨some d,op,ty,pos,af,none⟩::os) k f H Q:=⟨fun t fs A z=>by
 obtain⟨t',T,U⟩:=lp (P:=P) (G:=G) (ops:=ops) (t:=t) (sz:=sz) (o:=⟨some d,op,ty,pos,af,none⟩) rfl ho (by rw[A];exact ha.eq) hd
 have hi:=E t sz H A
 obtain⟨n,e,s',V,Z⟩:=h.out t' ((i,dw ops ⟨some d,op,ty,pos,af,none⟩ ⟨t,sz,H⟩ H.next [])::fs) (by rw[U,A];rfl) ⟨rfl,hi,z⟩
 refine⟨n,e,s',?_,Z⟩
 unfold bn ga
 rw[T]
 simp only[cO hi z N,cond_true,cV,a11]
 exact V⟩
theorem wf_skip{id:ID}(ha:AP P (dj f) ⟨none,op,ty,pos,af,none⟩ {H with log:=[]} (.skip,H1))(ho:op.operands.toList.all (bC G)=true)
  (N:Did ops f ⟨none,op,ty,pos,af,none⟩ H.next H1.log id) (T:okD ops i id D)
  (h: ∀l,(∀b,b∈l->b∈H1.log\/b∈H.log)->WF2 P G K sz ops ((i,id)::D) (i+1) os k f {H1 with log:=l} Q):WF2 P G K sz ops D i (⟨none,op,ty,pos,af,none⟩::os) k f H Q:=⟨fun t fs E A=>by
 obtain⟨t',U,V⟩:=step_skip (P:=P) (G:=G) (ops:=ops) (t:=t) (sz:=sz) (o:=⟨none,op,ty,pos,af,none⟩) rfl ho (by rw[E];exact ha.eq) rfl
 have hi:=N t sz H E
 obtain⟨n,e,s',Z,h4⟩:=(h (cV H.next H1.log++H.log) (fun b z=>by
  rcases a07.1 z with z|z
  ·exact .inl (eJ z).1
  exact .inr z)).out t' ((i,dw ops ⟨none,op,ty,pos,af,none⟩ ⟨t,sz,H⟩ H.next H1.log)::fs) (by rw[V,E];rfl) ⟨rfl,hi,A⟩
 refine⟨n,e,s',?_,h4⟩
 unfold bn ga
 rw[U]
 simp only[cO hi A T,cond_true]
 exact Z⟩
theorem aZ{W:List Nat}{g:FuncId}{args:List Value}{R:Value->Heap->Prop}(ha:AP P (dj f) ⟨some d,op,ty,pos,af,none⟩ {H with log:=[]} (.enter g args,{H with log:=[]}))(ho:op.operands.toList.all (bC G)=true)(hd:Nat.ble (d+1) sz=true)(hk:eH op=true)
  (hc:C P G K g args {H with log:=[]} R) (al:okD ops i (.x W) D)
  (h: ∀v z,R v z->(∀b,b∈z.log->H.next<=b\/b∈W)/\∀l,(∀b,b∈l->b∈z.log\/b∈H.log)->WF2 P G K sz ops ((i,.x W)::D) (i+1) os k (upd f d v) {z with log:=l} Q):WF2 P G K sz ops D i (⟨some d,op,ty,pos,af,none⟩::os) k f H Q:=⟨fun t fs ht U=>by
 obtain⟨N,v,z,ai,hr⟩:=hc.out
 obtain⟨V,h0⟩:=h v z hr
 obtain⟨t',h1,h2⟩:=gL (s:=⟨t,sz,z⟩) (d:=some d) (v:=v) hd
 have hi:=bE (ops:=ops) (f:=f) (o:=⟨some d,op,ty,pos,af,none⟩) rfl hk V t sz H ht
 obtain⟨A,e,s',h3,h4⟩:=(h0 (cV H.next z.log++H.log) (fun b E=>by
  rcases a07.1 E with E|E
  ·exact .inl (eJ E).1
  exact .inr E)).out t' ((i,dw ops ⟨some d,op,ty,pos,af,none⟩ ⟨t,sz,H⟩ H.next z.log)::fs) (by rw[h2,ht];rfl) ⟨rfl,hi,U⟩
 refine⟨Nat.max N A,e,s',?_,h4⟩
 have an:step P G (call P G K (Nat.max N A)) ops ⟨some d,op,ty,pos,af,none⟩ ⟨t,sz,{H with log:=[]}⟩=some ⟨t',sz,z⟩:=by unfold step bd;simp only[cond_true,ho,dF,ht,ha.eq,dK (a1I N A) _ _ _ _ ai];exact h1
 unfold bn ga
 rw[an]
 simp only[cO hi U al,cond_true]
 refine db (a1q (a1a N A)) k _ _ (fun x T=>?_) _ h3
 cases Z:bn P G (call P G K A) ops (i+1) ((i,dw ops ⟨some d,op,ty,pos,af,none⟩ ⟨t,sz,H⟩ H.next z.log)::fs) os ⟨t',sz,{z with log:=cV H.next z.log++H.log}⟩ with
 |none=>rw[Z]at T;cases T
 |some y=>
  have:=dG (dK (P:=P) (G:=G) (K:=K) (a1a N A)) _ _ _ _ _ Z
  rw[Z]at T
  rw[this];exact T⟩
theorem inf_guard{t:Tr Value}{v want:Bool}{j:Nat}{z:Option Tmp}(N:cC t=f)(U:cm ops f j=some v)(T:v=want)(sz:Nat)(H:Heap)(n:Nat)(log:List Nat):
  dw ops ⟨z,op,ty,pos,af,some (j,want)⟩ ⟨t,sz,H⟩ n log=dw ops ⟨z,op,ty,pos,af,none⟩ ⟨t,sz,H⟩ n log:=by
 have A:bd ops ⟨z,op,ty,pos,af,some (j,want)⟩ t=true:=by rw[gG N U _ rfl,T];cases want<;>rfl
 have E:bd ops ⟨z,op,ty,pos,af,none⟩ t=true:=rfl
 unfold dw
 simp only[A,E]
theorem eE{v want:Bool}{j:Nat}{A:Option Tmp}(V:cm ops f j=some v)(U:v=want)(h:WF2 P G K sz ops D i (⟨A,op,ty,pos,af,none⟩::os) k f H Q):WF2 P G K sz ops D i (⟨A,op,ty,pos,af,some (j,want)⟩::os) k f H Q:=⟨fun t fs E N=>by
 obtain⟨n,e,s',z,Z⟩:=h.out t fs E N;refine⟨n,e,s',?_,Z⟩;unfold bn ga at z⊢;rw[kp E V U];cases T:step P G (call P G K n) ops ⟨A,op,ty,pos,af,none⟩ ⟨t,sz,{H with log:=[]}⟩ with
 |none=>rw[T]at z;exact z
 |some s1=>
  rw[T]at z
  simp only[inf_guard E V U]
  exact z⟩
theorem jp{want:Bool}{j:Nat}(hw: ∀t,cC t=f->bd ops ⟨some d,op,ty,pos,af,some (j,want)⟩ t=false)(hd:Nat.ble (d+1) sz=true)
  (h:WF2 P G K sz ops ((i,.v)::D) (i+1) os k (upd f d undef) H Q):WF2 P G K sz ops D i (⟨some d,op,ty,pos,af,some (j,want)⟩::os) k f H Q:=⟨fun t fs N A=>by
 obtain⟨T,Z,h4⟩:=gL (s:=⟨t,sz,{H with log:=[]}⟩) (d:=some d) (v:=undef) hd
 have z:=hw t N
 have hi:dw ops ⟨some d,op,ty,pos,af,some (j,want)⟩ ⟨t,sz,H⟩ H.next []= .v:=by unfold dw;simp only[z,a1D,Bool.true_or,cond_true]
 obtain⟨n,e,s',U,V⟩:=h.out T ((i,.v)::fs) (by rw[h4,N];rfl) ⟨rfl,rfl,A⟩
 refine⟨n,e,s',?_,V⟩
 have E:step P G (call P G K n) ops ⟨some d,op,ty,pos,af,some (j,want)⟩ ⟨t,sz,{H with log:=[]}⟩=some ⟨T,sz,{H with log:=[]}⟩:=by unfold step;simp only[z,cond_false];exact Z
 have hc:bZ (cg ops) i .v fs=true:=iR fun j g _=>by cases g<;>simp[dW]
 unfold bn ga
 rw[E]
 simp only[hi,hc,cond_true,cV,a11]
 exact U⟩
theorem eQ{v want:Bool}{j:Nat}(N:cm ops f j=some v)(E:v= !want)(z:Nat.ble (d+1) sz=true)(h:WF2 P G K sz ops ((i,.v)::D) (i+1) os k (upd f d undef) H Q):
  WF2 P G K sz ops D i (⟨some d,op,ty,pos,af,some (j,want)⟩::os) k f H Q:=
 jp (fun t A=>by rw[gG A N _ rfl,E];cases want<;>rfl) z h
theorem jr{want:Bool}{j:Nat}(E:cm ops f j=none)(z:Nat.ble (d+1) sz=true)(h:WF2 P G K sz ops ((i,.v)::D) (i+1) os k (upd f d undef) H Q):
  WF2 P G K sz ops D i (⟨some d,op,ty,pos,af,some (j,want)⟩::os) k f H Q:=
 jp (fun t A=>by
  unfold bd;have:ke ops t j=none:=by rw[←E,←A];rfl
  simp only[this];cases want<;>rfl) z h
theorem wf_gsT{v:Bool}{j:Nat}(z:cm ops f j=some v)(N:Nat.ble (d+1) sz=true)(A:v=true->WF2 P G K sz ops D i (⟨some d,op,ty,pos,af,none⟩::os) k f H Q)(E:v=false->WF2 P G K sz ops ((i,.v)::D) (i+1) os k (upd f d undef) H Q):
  WF2 P G K sz ops D i (⟨some d,op,ty,pos,af,some (j,true)⟩::os) k f H Q:=by
 cases v with
 |true=>exact eE z rfl (A rfl)
 |false=>exact eQ z rfl N (E rfl)
theorem wf_gsF{v:Bool}{j:Nat}(z:cm ops f j=some v)(N:Nat.ble (d+1) sz=true)(A:v=false->WF2 P G K sz ops D i (⟨some d,op,ty,pos,af,none⟩::os) k f H Q)(E:v=true->WF2 P G K sz ops ((i,.v)::D) (i+1) os k (upd f d undef) H Q):
  WF2 P G K sz ops D i (⟨some d,op,ty,pos,af,some (j,false)⟩::os) k f H Q:=by
 cases v with
 |true=>exact eQ z rfl N (E rfl)
 |false=>exact eE z rfl (A rfl)
end
end Go.R
end
noncomputable section
namespace Go.R
theorem lb{n:Int}(h:in64 n):IntKind.i64.wrap n=n:=by
 have e:IntKind.i64.wrap n=if(true&&decide (n%(2^64:Int)>=(2^63:Int))) then n%(2^64:Int)-(2^64:Int) else n%(2^64:Int):=rfl
 rw[e];obtain⟨A,E⟩:=h;by_cases z:0<=n
 ·rw[Int.emod_eq_of_lt z (by omega)];have:decide (n>=(2^63:Int))=false:=decide_eq_false (by omega);rw[this];rfl
 have:n%(2^64:Int)=n+2^64:=by omega
 rw[this];have:decide (n+2^64>=(2^63:Int))=true:=decide_eq_true (by omega);rw[this];simp only[a1l,if_true];omega
theorem w_u64{n:Int}(h:0<=n/\n<18446744073709551616):IntKind.u64.wrap n=n:=by show n%(2^64:Int)=n;exact Int.emod_eq_of_lt h.1 (by omega)
theorem w_u8{n:Int}(h:0<=n/\n<256):IntKind.u8.wrap n=n:=by show n%(2^8:Int)=n;exact Int.emod_eq_of_lt h.1 (by omega)
section
variable {α:Type} [Rp α] {P:Program} {ρ:Operand->Value} {d:Option Tmp} {ty:TypeId} {pos:String} {af:Array Edge} {gd:Option (Nat×Bool)} {B:Base} {F:Fz} {H:Heap} {L R:List Fp} {v:Value} {l:List α} {p:Fp}
variable {t yt:TypeId} {x y:Operand} {k:IntKind} {a b c:Int}
theorem ei(k:IntKind):gP k k=true:=by cases k<;>rfl
theorem kW(A:ρ x= .int k a)(E:ρ y= .int k b)(z:k.wrap (a+b)=c):AP P ρ ⟨d,.binOp .add t x y yt,ty,pos,af,gd⟩ H (.val (.int k c),H):=
 iP A E (by subst z;show(bif gP k k then _ else none:Option Value)=_;rw[ei];rfl)
theorem ap_mul(A:ρ x= .int k a)(E:ρ y= .int k b)(z:k.wrap (a*b)=c):AP P ρ ⟨d,.binOp .mul t x y yt,ty,pos,af,gd⟩ H (.val (.int k c),H):=
 iP A E (by subst z;show(bif gP k k then _ else none:Option Value)=_;rw[ei];rfl)
theorem ap_div(E:ρ x= .int k a)(N:ρ y= .int k b)(z:b≠0)(A:k.wrap (a.tdiv b)=c):AP P ρ ⟨d,.binOp .quo t x y yt,ty,pos,af,gd⟩ H (.val (.int k c),H):=by subst A;exact ap_quo E N (ei k) (by simpa using z)
theorem ap_cmp{op:BinOp}{r:Bool}(A:ρ x= .int k a)(E:ρ y= .int k b)(z:kF op k a b=some (.bool r))(hs:jO op=false):AP P ρ ⟨d,.binOp op t x y yt,ty,pos,af,gd⟩ H (.val (.bool r),H):=
 iP A E (by rw[hs,ei];exact z)
variable {s u:List UInt8}
theorem ap_idxS{i:Operand}{A:IntKind}{j:Int}{z:UInt8}(T:ρ x= .string ⟨⟨s⟩⟩)(hi:ρ i= .int A j)(N:P.underlying t=some .string)(E:0<=j)(hc:s[j.toNat]?=some z):
  AP P ρ ⟨d,.index t x i,ty,pos,af,gd⟩ H (.val (.int .u8 z.toNat),H):=by
 refine⟨?_⟩
 obtain⟨m,rfl⟩:=a16 E
 show j5 P t (ρ x) (ρ i) H=_
 rw[T,hi]
 show ovl (strAt P t ⟨⟨s⟩⟩ (.int A (Int.ofNat m))) H=_
 unfold strAt
 rw[N]
 show ovl (match nth s m with|some b=>some (.int .u8 b.toNat)|none=>none) H=_
 rw[gN]
 have:s[m]?=some z:=hc
 rw[this];rfl
theorem ap_eqS(z:ρ x= .string ⟨⟨s⟩⟩)(A:ρ y= .string ⟨⟨u⟩⟩):AP P ρ ⟨d,.binOp .eql t x y yt,ty,pos,af,gd⟩ H (.val (.bool (s==u)),H):=ap_str z A rfl
theorem ap_neS(z:ρ x= .string ⟨⟨s⟩⟩)(A:ρ y= .string ⟨⟨u⟩⟩):AP P ρ ⟨d,.binOp .neq t x y yt,ty,pos,af,gd⟩ H (.val (.bool (s !=u)),H):=ap_str z A rfl
theorem ap_leS(z:ρ x= .string ⟨⟨s⟩⟩)(A:ρ y= .string ⟨⟨u⟩⟩):AP P ρ ⟨d,.binOp .leq t x y yt,ty,pos,af,gd⟩ H (.val (.bool (Op.bytesLess s u||s==u)),H):=ap_str z A rfl
theorem ap_ltS(z:ρ x= .string ⟨⟨s⟩⟩)(A:ρ y= .string ⟨⟨u⟩⟩):AP P ρ ⟨d,.binOp .lss t x y yt,ty,pos,af,gd⟩ H (.val (.bool (Op.bytesLess s u)),H):=ap_str z A rfl
theorem ap_addS(A:ρ x= .string ⟨⟨s⟩⟩)(E:ρ y= .string ⟨⟨u⟩⟩)(z:s.length+u.length<=1099511627776):AP P ρ ⟨d,.binOp .add t x y yt,ty,pos,af,gd⟩ H (.val (.string ⟨⟨s++u⟩⟩),H):=
 ap_str A E (by
  show(bif Nat.ble (hO (appL s u)) 1099511627776 then some (Value.string ⟨⟨appL s u⟩⟩) else none)=_;rw[dA,bS,a04,a0w z];rfl)
def cutAt(n:Nat)(lo hi:Option Value)(i j:Nat):Prop:=bnds n n lo hi=some (i,j)
theorem jZ{n k i j:Nat}{lo hi:Option Value}(A:bY n hi=some j)(E:bY 0 lo=some i)(z:i<=j)(N:j<=k):bnds n k lo hi=some (i,j):=by unfold bnds;simp only[A,E,a0w z,a0w N,a1l,cond_true]
theorem optN{d:Nat}{A:IntKind}{j:Int}(z:0<=j):bY d (some (.int A j))=some j.toNat:=by obtain⟨m,rfl⟩:=a16 z;rfl
theorem optN0{d:Nat}:bY d none=some d:=rfl
theorem ap_slS{lo hi:Option Operand}{i j:Nat}(U:ρ x= .string ⟨⟨s⟩⟩)(T:P.underlying t=some .string)(A:bY s.length (hi.map ρ)=some j)(E:bY 0 (lo.map ρ)=some i)(z:i<=j)(N:j<=s.length):
  AP P ρ ⟨d,.slice t x lo hi none,ty,pos,af,gd⟩ H (.val (.string ⟨⟨(s.drop i).take (j-i)⟩⟩),H):=by
 refine⟨?_⟩
 show ovl (bx P t (ρ x) (lo.map ρ) (hi.map ρ) (Option.map ρ none) H) H=_
 rw[U]
 unfold bx
 simp only[a1X,T]
 show ovl (match bnds (hO s) (hO s) (lo.map ρ) (hi.map ρ) with|some (l,r)=>some (.string ⟨⟨gI (gX s l) (r-l)⟩⟩)|none=>none) H=_
 rw[bS,jZ A E z N]
 simp only[ca,cn];rfl
theorem Sl_cut{F:Fz}{o:AObj}{off k i j:Nat}{l:List α}(h:Sl F o off k l)(ag:i<=j)(Z:j<=l.length):Sl F o (off+i*Rp.sz α) (k-i) ((l.take j).drop i):=by
 obtain⟨cs,T,ro,rfl,A,h2,E,U⟩:=h;have hl:=E.length;have z:((l.take j).drop i).length=j-i:=by simp;omega
 refine⟨cs,T,ro,rfl,fun N=>?_,by rw[z];omega,?_,U⟩
 ·replace A:=A N;have:i*Rp.sz α+(k-i)*Rp.sz α=k*Rp.sz α:=by rw[←a10];congr 1;omega
  omega
 have V:=(E.take j).drop i;have e:((cs.drop (off+i*Rp.sz α)).take (((l.take j).drop i).length*Rp.sz α))=(((cs.drop off).take (l.length*Rp.sz α)).take (j*Rp.sz α)).drop (i*Rp.sz α):=by rw[z,a2i,a2h,List.drop_drop];congr 1;have:j*Rp.sz α<=l.length*Rp.sz α:=a0A _ Z;rw[a1J this,Nat.sub_mul]
 rw[e];exact V
theorem Sl_at0{F:Fz}{o:AObj}{off k:Nat}{l:List α}(h:Sl F o off k l):Sl F o off 0 ([]:List α):=by obtain⟨cs,A,T,rfl,E,U,V,N⟩:=h;exact⟨cs,A,T,rfl,fun z=>(by have:=E z;omega),a0a _,by simp[RL],N⟩
theorem cut_val{lo hi:Option Operand}{t e:TypeId}{i j off k U:Nat}{o:AObj}(hx:ρ x= .slice (some ⟨U,off,none⟩) l.length k)(ht:P.underlying t=some (.slice e))(hz:dp P e=some (Rp.sz α))(hb:H.get U=some o)(h:Sl F o off k l)
  (h1:bY l.length (hi.map ρ)=some j) (h2:bY 0 (lo.map ρ)=some i) (V:i<=j) (hj:j<=l.length):
  ∃N k',AP P ρ ⟨d,.slice t x lo hi none,ty,pos,af,gd⟩ H (.val (.slice (some ⟨U,N,none⟩) ((l.take j).drop i).length k'),H)/\Sl F o N k' ((l.take j).drop i):=by
 obtain⟨cs,Z,ro,rfl,g1,g2,g3,g4⟩:=h
 have z:((l.take j).drop i).length=j-i:=by simp;omega
 have E:=Sl_cut (F:=F) (o:= .cells cs Z ro) ⟨cs,Z,ro,rfl,g1,g2,g3,g4⟩ V hj
 have T: ∀w,bx P t (.slice (some ⟨U,off,none⟩) l.length k) (lo.map ρ) (hi.map ρ) none H=some w->AP P ρ ⟨d,.slice t x lo hi none,ty,pos,af,gd⟩ H (.val w,H):=by intro w hw;refine⟨?_⟩;show ovl (bx P t (ρ x) (lo.map ρ) (hi.map ρ) (Option.map ρ none) H) H=_;rw[hx,a1X,hw];rfl
 have A:=jZ (n:=l.length) (k:=k) h1 h2 V (a0c hj g2)
 rcases g4 with rfl|rfl
 ·cases hk:Nat.beq k i with
  |true=>
   have ay:=a09 hk
   have e0:(l.take j).drop i=[]:=a0t (by rw[z];omega)
   refine⟨off,k-i,T _ ?_,?_⟩
   ·unfold bx;simp only[ht,A,hz,hb,hk,cond_true,z]
   rw[e0,ay,a1T]
   exact Sl_at0 (k:=k) (l:=l) ⟨cs,none,ro,rfl,g1,g2,g3,.inl rfl⟩
  |false=>
   refine⟨off+i*Rp.sz α,k-i,T _ ?_,E⟩
   unfold bx
   simp only[ht,A,hz,hb,hk,cond_false,z]
 refine⟨off+i*Rp.sz α,k-i,T _ ?_,E⟩
 unfold bx
 simp only[ht,A,hz,hb,a0Z,cond_true,z]
theorem nil_cut{lo hi:Option Operand}{t e:TypeId}{i j:Nat}{sz:Nat}(V:ρ x= .slice none 0 0)(U:P.underlying t=some (.slice e))(Z:dp P e=some sz)(E:bY 0 (hi.map ρ)=some j)(N:bY 0 (lo.map ρ)=some i)(A:i<=j)(T:j<=0):
  AP P ρ ⟨d,.slice t x lo hi none,ty,pos,af,gd⟩ H (.val (.slice none 0 0),H):=by
 refine⟨?_⟩
 show ovl (bx P t (ρ x) (lo.map ρ) (hi.map ρ) (Option.map ρ none) H) H=_
 rw[V]
 unfold bx
 have z:=jZ (n:=0) (k:=0) E N A T
 simp only[a1X,U,z,Z,Option.isSome_some,cond_true]
 rfl
theorem sr_cut{lo hi:Option Operand}{t e:TypeId}{i j:Nat}(h:SR F v l)(hs:HS B F H L R)(Z:ρ x=v)(V:P.underlying t=some (.slice e))(hz:dp P e=some (Rp.sz α))
  (N:bY l.length (hi.map ρ)=some j) (T:bY 0 (lo.map ρ)=some i) (z:i<=j) (U:j<=l.length):
  ∃a k,AP P ρ ⟨d,.slice t x lo hi none,ty,pos,af,gd⟩ H (.val (.slice a ((l.take j).drop i).length k),H)/\SR F (.slice a ((l.take j).drop i).length k) ((l.take j).drop i):=by
 rcases h with⟨rfl,rfl⟩|⟨b,off,k,o,rfl,E,g2⟩
 ·have e0:(([]:List α).take j).drop i=[]:=by simp
  rw[e0];exact⟨none,0,nil_cut Z V hz N T z (by simpa using U),SR.nil⟩
 obtain⟨A,k',h3,h4⟩:=cut_val Z V hz (hs.fz b o E).1 g2 N T z U
 exact⟨_,k',h3,.inr ⟨b,A,k',o,rfl,E,h4⟩⟩
theorem os_make{t e:TypeId}{li V:Operand}{kl Z:IntKind}{n:Int}{z:List Value}{E:α}{N:Nat}(hs:HS B F H L R)(hl:ρ li= .int kl n)(hc:ρ V= .int Z n)(ht:P.underlying t=some (.slice e))(hz:dp P e=some (Rp.sz α))(al:fb P e=some N)(ar:dm P e=some z)
  (ao:Nat.beq (hO z) (Rp.sz α)=true) (ai:Nat.ble N 4096=true) (an:Nat.beq (Rp.sz α) 0=false) (hr:Rp.rep F z E) (h0:0<=n) (hn:n<=2147483648):
  ∃a k H1 p',AP P ρ ⟨d,.makeSlice t li V,ty,pos,af,gd⟩ H (.val (.slice a (List.replicate n.toNat E).length k),H1)/\OS F (.slice a (List.replicate n.toNat E).length k) (List.replicate n.toNat E) p'/\HS B F H1 (L++[p']) R/\∀b,b∈H1.log->b∈H.log:=by
 obtain⟨m,rfl⟩:=a16 h0
 have hm:m<=2147483648:=by omega
 refine⟨some ⟨H.next,0,none⟩,m,H.push (.cells (cw m z) none false),[(H.next,.cells (cw m z) none false)],⟨?_⟩,?_,hs.push _,fun b hb=>by simpa using hb⟩
 ·show ovh (aMake P t (ρ li) (ρ V) H)=_;rw[hl,hc];unfold aMake;have e1:iZ (.int kl (Int.ofNat m))=some m:=rfl;have e2:iZ (.int Z (Int.ofNat m))=some m:=rfl;rw[ht];simp only[hz,al,ar];show ovh (match iZ (.int kl (Int.ofNat m)),iZ (.int Z (Int.ofNat m)) with|some n,some k=>_|_,_=>none)=_;rw[e1,e2];simp only[a0w hm,a0w (a0a m),ai,ao,an,a1D,a1l,cond_true,a0z];rfl
 show OS F _ (List.replicate m E) _
 have A:(List.replicate m E).length=m:=by simp
 have U:=RL.replicate hr m
 have T:=U.length
 rw[A]at T
 refine .inr ⟨H.next,0,m,cw m z,none,by simp,rfl,_,_,_,rfl,fun _=>(by omega),by rw[A];exact a0a _,?_,.inl rfl⟩
 rw[A,a15,←T,a1e];exact U
theorem os_lit{t:TypeId}{n:Nat}{z:List Value}{A:Array (Nat×Operand)}{cells:List Value}(hs:HS B F H L R)(hi:eG P t=some (Rp.sz α,z))(Z:Nat.ble (n*Rp.sz α) 16777216=true)
  (U:Instr.fill (fun i=>some (i*Rp.sz α,Rp.sz α)) ⟨cw n z⟩ (eO (fun p=>(p.1,ρ p.2)) A.toList)=some ⟨cells⟩) (E:RL F cells l) (V:l.length=n):
  ∃a H1 N,AP P ρ ⟨d,.buildSlice t n A,ty,pos,af,gd⟩ H (.val (.slice a n n),H1)/\OS F (.slice a n n) l N/\HS B F H1 (L++[N]) R/\∀b,b∈H1.log->b∈H.log:=by
 subst V
 refine⟨_,_,[(H.next,.cells cells none false)],lS hi Z U,?_,hs.push _,fun b T=>by simpa using T⟩
 have:=E.length
 exact .inr ⟨H.next,0,l.length,cells,none,rfl,rfl,_,_,_,rfl,fun _=>(by omega),a0a _,by rw[a15,←this,a1e];exact E,.inl rfl⟩
theorem ap_app{z A:Operand}{st E:TypeId}{u w:Value}{H1:Heap}(T:ρ z=v)(U:ρ A=u)(N:fg P #[st,E] v u H=some (w,H1)):AP P ρ ⟨d,.call ⟨.builtin .append, #[z,A], #[st,E]⟩,ty,pos,af,gd⟩ H (.val w,H1):=by refine⟨?_⟩;show ovh (fg P #[st,E] (ρ z) (ρ A) H)=_;rw[T,U,N];rfl
theorem os_app{s0 x0:Operand}{st e:TypeId}{u:Value}{A:List α}{q N:Nat}{z:List Value}(h:OS F v l p)(hs:HS B F H L R)(hq:L[q]?=some p)(hx:ρ s0=v)(hy:ρ x0=u)(hu:Sv F H.get u A)(Z:P.underlying st=some (.slice e))
  (hz:dp P e=some (Rp.sz α)) (V:fb P e=some N) (ai:dm P e=some z) (ag:Nat.beq (hO z) (Rp.sz α)=true) (U:Nat.ble N 4096=true) (ad:Nat.beq (Rp.sz α) 0=false) (T:l.length+A.length<=2147483648):
  ∃a k H1 E,AP P ρ ⟨d,.call ⟨.builtin .append, #[s0,x0], #[st,st]⟩,ty,pos,af,gd⟩ H (.val (.slice a (l++A).length k),H1)/\OS F (.slice a (l++A).length k) (l++A) E/\HS B F H1 (L.set q E) R:=by
 obtain⟨h1,a6,h2,h3⟩:=hu.first
 obtain⟨a,k,H1,E,h4,h5,h6⟩:=os_append (types:= #[st,st]) h hs hq (x:=u) rfl rfl Z Z (by intro k hk;cases hk) hz V ai ag U ad h1 h2 h3 T
 exact⟨a,k,H1,E,ap_app hx hy h4,h5,h6⟩
theorem os_st{t:TypeId}{E T:Operand}{j q off n b o:Nat}{w:Value}{y U:α}{cl:List Value}(h:OS F v l p)(hs:HS B F H L R)(hq:L[q]?=some p)(ha:ρ E= .pointer (some ⟨b,o,none⟩))(hb:b=sB v)(ho:o=sO v+j*Rp.sz α+off)(hx:ρ T=w)(hn:dp P t=some n)(hc:w.cells.toList=cl)(hl:Nat.beq cl.length n=true)
  (hy:l[j]?=some y) (V:allL Value.oneCell' cl=true) (hr: ∀cs,Rp.rep F cs y->off+cl.length<=cs.length/\Rp.rep F (bp cs off cl) U):
  ∃H1 z,AP P ρ ⟨d,.store t E T,ty,pos,af,gd⟩ H (.skip,H1)/\OS F v (l.set j U) z/\HS B F H1 (L.set q z) R/\∀b cs A,p=[(b,.cells cs A false)]->∃N,z=[(b,.cells N A false)]:=by
 subst hb ho
 obtain⟨H1,z,Z,h3,h4,h5⟩:=os_set h hs hq hy V hr
 exact⟨H1,z,ap_st ha hx hn hc hl Z,h3,h4,h5⟩
end
end Go.R
end
noncomputable section
namespace Go.R
theorem agN{f:Fn}:am f []:=trivial
theorem agC{f:Fn}{i:Nat}{v:Value}{l:List (Nat×Value)}(h:f i=v)(t:am f l):am f ((i,v)::l):=⟨h,t⟩
theorem ee{ops:Array Oper}{i:Nat}: ∀D,okD ops i .v D
 | []=>trivial
 |(_,e)::D=>⟨.inr (by cases e<;>trivial),ee D⟩
structure Rs where
 v:Value
 H:Heap
 p:Fp
section
variable {P:Program} {G:Nat} {K:bM} {sz:Nat} {Q:Ex->Fn->Heap->Prop} {ops:Array Oper} {D:List (Nat×ID)} {i:Nat} {os:List Oper} {k:List Fr} {f:Fn} {H H1:Heap} {v:Value}
 {d:Tmp} {op:Op} {ty:TypeId} {pos:String} {af:Array Edge} {Φ:Rs->Prop}
theorem az(E: ∃r:Rs,AP P (dj f) ⟨some d,op,ty,pos,af,none⟩ H (.val r.v,r.H)/\Φ r)(T:op.operands.toList.all (bC G)=true)(N:Nat.ble (d+1) sz=true)
  (h: ∀v H1 p,Φ ⟨v,H1,p⟩->WO P G K sz ops os k (upd f d v) H1 Q):WO P G K sz ops (⟨some d,op,ty,pos,af,none⟩::os) k f H Q:=by
 obtain⟨⟨v,H1,p⟩,z,A⟩:=E
 exact bB z T N (h v H1 p A)
theorem aN(E: ∃r:Rs,AP P (dj f) ⟨none,op,ty,pos,af,none⟩ H (.skip,r.H)/\Φ r)(N:op.operands.toList.all (bC G)=true)
  (h: ∀v H1 p,Φ ⟨v,H1,p⟩->WO P G K sz ops os k f H1 Q):WO P G K sz ops (⟨none,op,ty,pos,af,none⟩::os) k f H Q:=by
 obtain⟨⟨v,H1,p⟩,z,A⟩:=E
 exact wo_skip z N (h v H1 p A)
theorem bG{id:ID}(T: ∃r:Rs,AP P (dj f) ⟨some d,op,ty,pos,af,none⟩ {H with log:=[]} (.val r.v,r.H)/\Φ r)(V:op.operands.toList.all (bC G)=true)(U:Nat.ble (d+1) sz=true)
  (A: ∀v H1 p,Φ ⟨v,H1,p⟩->Did ops f ⟨some d,op,ty,pos,af,none⟩ H.next H1.log id) (E:okD ops i id D)
  (h: ∀v H1 p,Φ ⟨v,H1,p⟩->∀l,(∀b,b∈l->b∈H1.log\/b∈H.log)->WF2 P G K sz ops ((i,id)::D) (i+1) os k (upd f d v) {H1 with log:=l} Q):
  WF2 P G K sz ops D i (⟨some d,op,ty,pos,af,none⟩::os) k f H Q:=by
 obtain⟨⟨v,H1,p⟩,N,z⟩:=T
 exact wf_val N V U (A v H1 p z) E (h v H1 p z)
theorem dN{id:ID}(T: ∃r:Rs,AP P (dj f) ⟨none,op,ty,pos,af,none⟩ {H with log:=[]} (.skip,r.H)/\Φ r)(U:op.operands.toList.all (bC G)=true)
  (A: ∀v H1 p,Φ ⟨v,H1,p⟩->Did ops f ⟨none,op,ty,pos,af,none⟩ H.next H1.log id) (E:okD ops i id D)
  (h: ∀v H1 p,Φ ⟨v,H1,p⟩->∀l,(∀b,b∈l->b∈H1.log\/b∈H.log)->WF2 P G K sz ops ((i,id)::D) (i+1) os k f {H1 with log:=l} Q):
  WF2 P G K sz ops D i (⟨none,op,ty,pos,af,none⟩::os) k f H Q:=by
 obtain⟨⟨v,H1,p⟩,N,z⟩:=T
 exact wf_skip N U (A v H1 p z) E (h v H1 p z)
end
section
variable {α:Type} [Rp α] {P:Program} {ρ:Operand->Value} {d:Option Tmp} {ty:TypeId} {pos:String} {af:Array Edge} {gd:Option (Nat×Bool)} {B:Base} {F:Fz} {H:Heap} {L R:List Fp} {v:Value} {l:List α} {p:Fp}
def Wr(H H1:Heap)(W:List Nat):Prop:= ∀b,b∈H1.log->b∈H.log\/H.next<=b\/b∈W
theorem Wr.did{H1:Heap}{W:List Nat}(h:Wr {H with log:=[]} H1 W): ∀b,b∈H1.log->H.next<=b\/b∈W:=fun b z=>by
 rcases h b z with h|h|h
 ·simp at h
 ·exact .inl h
 exact .inr h
theorem Wr.nil{H1:Heap}(h: ∀b,b∈H1.log->b∈H.log):Wr H H1 []:=fun b z=> .inl (h b z)
theorem HS.lg{B:Base}{F A:Fz}{z H1:Heap}{L E R N:List Fp}(h:HS B F H1 L R)(T:HS B A z E N){l:List Nat}(V: ∀b,b∈l->b∈H1.log\/b∈z.log):HS B F {H1 with log:=l} L R:=
 h.relog fun b U=>by
  rcases V b U with h1|h1
  ·exact h.log b h1
  exact T.log b h1
theorem HS.wr{H1:Heap}{i:Nat}{p q:Fp}(h:HS B F H L R)(hi:L[i]?=some p)(step:HS (.of H (p.map Prod.fst)) F H [p] (L.set i []++R)->∃F',F.le F'/\HS (.of H (p.map Prod.fst)) F' H1 [q] (L.set i []++R)):
  ∃F',F.le F'/\HS B F' H1 (L.set i q) R/\Wr H H1 (p.map Prod.fst):=by
 obtain⟨F',E,A⟩:=step (h.callOwn hi)
 refine⟨F',E,?_,fun b z=>A.log b z⟩
 have:=h.backOwn (M:=[]) hi rfl (fun b z=>z) A
 simpa using this
theorem bg{e:TypeId}{z:List Value}(hs:HS B F H L R)(E:dm P e=some z):
  ∃r:Rs,AP P ρ ⟨d,.alloc e,ty,pos,af,gd⟩ H (.val r.v,r.H)/\(∃b,r.v= .pointer (some ⟨b,0,none⟩)/\HS B F r.H (L++[[(b,.cells z none false)]]) R/\Wr H r.H []):=
 ⟨⟨_,_,[]⟩,ap_alloc E,_,rfl,hs.push _,.nil fun b A=>by simpa using A⟩
theorem aU{e:TypeId}{x:Operand}{u:Value}{cs:List Value}(hs:HS B F H L R)(A:ρ x=u)(hc:u.cells.toList=cs):
  ∃r:Rs,AP P ρ ⟨d,.box e x,ty,pos,af,gd⟩ H (.val r.v,r.H)/\(∃b,r.v= .pointer (some ⟨b,0,none⟩)/\HS B F r.H (L++[[(b,.cells cs none false)]]) R/\Wr H r.H []):=
 ⟨⟨_,_,[]⟩,ap_box (by rw[A];exact hc),_,rfl,hs.push _,.nil fun b z=>by simpa using z⟩
theorem cu{t e:TypeId}{li N:Operand}{kl kc:IntKind}{n:Int}{z:List Value}(A:α){E:Nat}(hs:HS B F H L R)(hl:ρ li= .int kl n)(hc:ρ N= .int kc n)(ht:P.underlying t=some (.slice e))(hz:dp P e=some (Rp.sz α))(U:fb P e=some E)(ad:dm P e=some z)
  (Z:Nat.beq (hO z) (Rp.sz α)=true) (T:Nat.ble E 4096=true) (V:Nat.beq (Rp.sz α) 0=false) (hr:Rp.rep F z A) (h0:0<=n) (hn:n<=2147483648):
  ∃r:Rs,AP P ρ ⟨d,.makeSlice t li N,ty,pos,af,gd⟩ H (.val r.v,r.H)/\(∃a k,r.v= .slice a (List.replicate n.toNat A).length k/\OS F (.slice a (List.replicate n.toNat A).length k) (List.replicate n.toNat A) r.p/\HS B F r.H (L++[r.p]) R/\Wr H r.H []):=by
 obtain⟨a,k,H1,p',h1,h2,h3,h4⟩:=os_make (d:=d) (ty:=ty) (pos:=pos) (af:=af) (gd:=gd) hs hl hc ht hz U ad Z T V hr h0 hn
 exact⟨⟨_,H1,p'⟩,h1,a,k,rfl,h2,h3,.nil h4⟩
theorem bj{t:TypeId}{n:Nat}{z:List Value}{A:Array (Nat×Operand)}{ps:List (Nat×Value)}{cells:List Value}(l:List α)(hs:HS B F H L R)(N:eO (fun p=>(p.1,ρ p.2)) A.toList=ps)(hi:eG P t=some (Rp.sz α,z))(hn:Nat.ble (n*Rp.sz α) 16777216=true)
  (hf:Instr.fill (fun i=>some (i*Rp.sz α,Rp.sz α)) ⟨cw n z⟩ ps=some ⟨cells⟩) (hr:RL F cells l) (E:l.length=n):
  ∃r:Rs,AP P ρ ⟨d,.buildSlice t n A,ty,pos,af,gd⟩ H (.val r.v,r.H)/\(∃a k,r.v= .slice a l.length k/\OS F (.slice a l.length k) l r.p/\HS B F r.H (L++[r.p]) R/\Wr H r.H []):=by
 subst N
 obtain⟨a,H1,p',T,U,V,Z⟩:=os_lit (d:=d) (ty:=ty) (pos:=pos) (af:=af) (gd:=gd) hs hi hn hf hr E
 exact⟨⟨_,H1,p'⟩,T,a,n,by rw[E],by rw[E];exact U,V,.nil Z⟩
theorem rs_cut{x:Operand}{lo hi:Option Operand}{t e:TypeId}{i j:Nat}(h:SR F v l)(hs:HS B F H L R)(Z:ρ x=v)(V:P.underlying t=some (.slice e))(hz:dp P e=some (Rp.sz α))
  (N:bY l.length (hi.map ρ)=some j) (T:bY 0 (lo.map ρ)=some i) (z:i<=j) (U:j<=l.length):
  ∃r:Rs,AP P ρ ⟨d,.slice t x lo hi none,ty,pos,af,gd⟩ H (.val r.v,r.H)/\(∃a k,r.v= .slice a ((l.take j).drop i).length k/\r.H=H/\SR F (.slice a ((l.take j).drop i).length k) ((l.take j).drop i)):=by
 obtain⟨a,k,A,E⟩:=sr_cut (d:=d) (ty:=ty) (pos:=pos) (af:=af) (gd:=gd) h hs Z V hz N T z U
 exact⟨⟨_,H,[]⟩,A,a,k,rfl,rfl,E⟩
theorem br{s0 x0:Operand}{st e:TypeId}{u:Value}{A:List α}{q E:Nat}{z:List Value}(h:OS F v l p)(hs:HS B F H L R)(hq:L[q]?=some p)(hx:ρ s0=v)(hy:ρ x0=u)(hu:Sv F H.get u A)(ht:P.underlying st=some (.slice e))
  (hz:dp P e=some (Rp.sz α)) (Z:fb P e=some E) (al:dm P e=some z) (ai:Nat.beq (hO z) (Rp.sz α)=true) (V:Nat.ble E 4096=true) (ag:Nat.beq (Rp.sz α) 0=false) (T:l.length+A.length<=2147483648):
  ∃r:Rs,AP P ρ ⟨d,.call ⟨.builtin .append, #[s0,x0], #[st,st]⟩,ty,pos,af,gd⟩ H (.val r.v,r.H)/\(∃a k,r.v= .slice a (l++A).length k/\OS F (.slice a (l++A).length k) (l++A) r.p/\HS B F r.H (L.set q r.p) R/\Wr H r.H (p.map Prod.fst)):=by
 have hc:=hs.callOwn hq
 obtain⟨a,k,H1,p',h1,h2,U⟩:=os_app (d:=d) (ty:=ty) (pos:=pos) (af:=af) (gd:=gd) (q:=0) h hc rfl hx hy hu ht hz Z al ai V ag T
 have h4:=hs.backOwn (M:=[]) hq rfl (fun b N=>N) U
 exact⟨⟨_,H1,p'⟩,h1,a,k,rfl,h2,by simpa using h4,fun b N=>U.log b N⟩
theorem cM{t:TypeId}{A U:Operand}{j q off n b o:Nat}{w:Value}{y:α}(V:α){cl:List Value}(h:OS F v l p)(hs:HS B F H L R)(T:L[q]?=some p)(ha:ρ A= .pointer (some ⟨b,o,none⟩))(z:b=sB v)(ho:o=sO v+j*Rp.sz α+off)(hx:ρ U=w)(hn:dp P t=some n)(hc:w.cells.toList=cl)(hl:Nat.beq cl.length n=true)
  (hy:l[j]?=some y) (h1:allL Value.oneCell' cl=true) (hr: ∀cs,Rp.rep F cs y->off+cl.length<=cs.length/\Rp.rep F (bp cs off cl) V):
  ∃r:Rs,AP P ρ ⟨d,.store t A U,ty,pos,af,gd⟩ H (.skip,r.H)/\(OS F v (l.set j V) r.p/\HS B F r.H (L.set q r.p) R/\Wr H r.H (p.map Prod.fst)):=by
 have N:=hs.callOwn T
 obtain⟨H1,p',Z,g2,E,_⟩:=os_st (d:=d) (ty:=ty) (pos:=pos) (af:=af) (gd:=gd) (q:=0) h N rfl ha z ho hx hn hc hl hy h1 hr
 have h4:=hs.backOwn (M:=[]) T rfl (fun b z=>z) E
 exact⟨⟨.bool true,H1,p'⟩,Z,g2,by simpa using h4,fun b z=>E.log b z⟩
theorem aE{t:TypeId}{E V:Operand}{q n b o:Nat}{w:Value}{cl cs A:List Value}(hs:HS B F H L R)(U:L[q]?=some [(b,.cells cs none false)])(ha:ρ E= .pointer (some ⟨b,o,none⟩))(hx:ρ V=w)(hn:dp P t=some n)(hc:w.cells.toList=cl)(hl:Nat.beq cl.length n=true)
  (z:Nat.ble (o+cl.length) cs.length=true) (h1:allL Value.oneCell' cl=true) (he:bp cs o cl=A):
  ∃r:Rs,AP P ρ ⟨d,.store t E V,ty,pos,af,gd⟩ H (.skip,r.H)/\(HS B F r.H (L.set q [(b,.cells A none false)]) R/\Wr H r.H [b]):=by
 have T:=hs.callOwn U
 obtain⟨H1,Z,N⟩:=T.st (i:=0) rfl z h1 he
 have h4:=hs.backOwn (M:=[]) U rfl (fun b z=>z) N
 exact⟨⟨.bool true,H1,[]⟩,ap_st ha hx hn hc hl Z,by simpa using h4,fun b z=>N.log b z⟩
end
theorem flat_sub{β:Type}{z L:List (List β)}(h:List.Sublist z L):List.Sublist z.flatten L.flatten:=by
 induction h with
 |slnil=>exact List.Sublist.refl _
 |cons a _ ih=>rw[a0L];exact ih.trans (List.sublist_append_right _ _)
 |cons_cons a _ ih=>rw[a0L,a0L];exact(List.Sublist.refl a).append ih
theorem HS.sub{B:Base}{F:Fz}{H:Heap}{L E R:List Fp}(h:HS B F H L R)(z:List.Sublist E L):HS B F H E R:=
 ⟨h.fz,fun p A b o N=>h.own p (A.imp (fun x=>z.subset x) id) b o N,((flat_sub (z.append (List.Sublist.refl R))).map _).nodup h.nd,h.n0,h.log,fun p A=>h.mine p (z.subset A)⟩
theorem HS.forget{B:Base}{F:Fz}{H:Heap}{L R:List Fp}(h:HS B F H L R):HS B F H [] R:=h.sub (List.nil_sublist _)
theorem HS.only{B:Base}{F:Fz}{H:Heap}{L R:List Fp}{p:Fp}(h:HS B F H L R){i:Nat}(hi:L[i]?=some p):HS B F H [p] R:=h.sub (List.singleton_sublist.2 (a0l hi))
theorem HS.thaw{B:Base}{F V F2:Fz}{H H':Heap}{L R:List Fp}{i:Nat}{p:Fp}(h:HS B F H L R)(hi:L[i]?=some p)(hF:F.le V)(hp: ∀b o,(b,o)∈p->V b=some o)(T:V.le F2)(k:HS B F2 H' (L.set i []) R):HS B F H' L R:=by
 obtain⟨A,C,e1,e2⟩:=ej L i p hi;refine⟨fun b o E=>k.fz b o (T _ _ (hF _ _ E)),fun x z b o E=>?_,h.nd,k.n0,k.log,h.mine⟩;have N:=(h.own x z b o E).2.2;by_cases U:x=p
 ·subst U;obtain⟨Z,g2⟩:=k.fz b o (T _ _ (hp b o E));exact⟨Z,g2,N⟩
 have hk:x∈L.set i []\/x∈R:=by
  rcases z with z|z
  ·left;rw[e2];rw[e1]at z;rcases a07.1 z with z|z
   ·exact a07.2 (.inl z)
   rcases a0m.1 z with z|z
   ·exact absurd z U
   exact a07.2 (.inr (a0h _ z))
  exact .inr z
 obtain⟨Z,g2,_⟩:=k.own x hk b o E;exact⟨Z,g2,N⟩
section
variable {α:Type} [Rp α] {F:Fz} {B:Base} {H:Heap} {L R:List Fp} {v:Value} {l:List α} {p:Fp}
theorem OS.frz(h:OS F v l p)(hs:HS B F H L R){i:Nat}(hi:L[i]?=some p): ∃F',F.le F'/\HS B F' H (L.set i []) R/\SR F' v l/\∀b o,(b,o)∈p->F' b=some o:=by
 obtain⟨F',E,T,N⟩:=hs.freeze hi;refine⟨F',E,T,?_,N⟩;rcases h with⟨z,A,_⟩|⟨b,off,k,cs,V,z,A,U⟩
 ·exact .inl ⟨z,A⟩
 exact .inr ⟨b,off,k,_,z,N b _ (by rw[A];simp),U.mono E⟩
end
theorem aH{β:Type}{l:List β}{j:Nat}{x:β}(h:j<l.length):l[j]?=some (l.getD j x):=by rw[a01,a05 h];rfl
theorem w_tdiv{a b:Int}(A:in64 a)(hb:b≠ -1):IntKind.i64.wrap (a.tdiv b)=a.tdiv b:=by
 apply lb;by_cases E:b=0
 ·subst E;rw[Int.tdiv_zero];decide
 have z:(a.tdiv b).natAbs=a.natAbs/b.natAbs:=Int.natAbs_tdiv a b;by_cases N:b=1
 ·subst N;rw[Int.tdiv_one];exact A
 have T:2<=b.natAbs:=by omega
 have U:(a.tdiv b).natAbs*2<=a.natAbs:=by rw[z];exact a0c (Nat.mul_le_mul_left _ T) (Nat.div_mul_le_self _ _)
 obtain⟨V,Z⟩:=A;clear z;constructor<;>omega
theorem BS:(∀a b:Bool,((a&&b)=true)=(a=true/\b=true))/\(∀a b:Bool,((a||b)=true)=(a=true\/b=true))/\(∀a b:Bool,((a&&b)=false)=(a=true->b=false))/\(∀a b:Bool,((a||b)=false)=(a=false/\b=false))/\
  (∀a:Bool,((!a)=true)=(a=false))/\(∀a:Bool,((!a)=false)=(a=true))/\(∀(q:Prop) [Decidable q],(decide q=true)=q)/\(∀(q:Prop) [Decidable q],(decide q=false)= ¬q)/\
  (∀a b:Int,((a==b)=true)=(a=b))/\(∀a b:Int,((a==b)=false)=(a≠b))/\(∀a b:Int,((a !=b)=true)=(a≠b))/\(∀a b:Int,((a !=b)=false)=(a=b))/\
  (∀a b:List UInt8,((a==b)=true)=(a=b))/\(∀a b:List UInt8,((a==b)=false)=(a≠b))/\(∀a b:List UInt8,((a !=b)=true)=(a≠b))/\(∀a b:List UInt8,((a !=b)=false)=(a=b))/\
  (∀a b:Bool,((a==b)=true)=(a=b))/\(∀a b:Bool,((a==b)=false)=(a≠b))/\(∀a b:Bool,((a !=b)=true)=(a≠b))/\(∀a b:Bool,((a !=b)=false)=(a=b)):=by
 refine⟨?_,?_,?_,?_,?_,?_,?_,?_,?_,?_,?_,?_,?_,?_,?_,?_,?_,?_,?_,?_⟩<;>intros<;>simp
theorem BT:(∀a:Bool,(true&&a)=a)/\(∀a:Bool,(false&&a)=false)/\(∀a:Bool,(a&&true)=a)/\(∀a:Bool,(a&&false)=false)/\(∀a:Bool,(true||a)=true)/\(∀a:Bool,(false||a)=a)/\(∀a:Bool,(a||true)=true)/\(∀a:Bool,(a||false)=a)/\(!true)=false/\(!false)=true:=by simp
theorem Lr{lo hi:Nat}{ex:List Nat}{f:Fn}:Leaves lo hi ex f f:= .refl
theorem Lu{lo hi:Nat}{ex:List Nat}{f z:Fn}{i:Nat}{v:Value}(A:inR lo hi ex i=true)(h:Leaves lo hi ex f z):Leaves lo hi ex f (upd z i v):= .upd A h
section
variable {P:Program} {G:Nat} {K:bM} {sz:Nat} {Q:Ex->Fn->Heap->Prop} {ops:Array Oper} {D:List (Nat×ID)} {i:Nat} {os:List Oper} {k:List Fr} {f:Fn} {H H1:Heap} {d:Tmp} {ty:TypeId} {pos:String} {af:Array Edge} {x:Operand}
theorem wm(v:Value)(E:dj f x=v)(A:(Op.move x).operands.toList.all (bC G)=true)(z:Nat.ble (d+1) sz=true)(h:WO P G K sz ops os k (upd f d v) H Q):WO P G K sz ops (⟨some d,.move x,ty,pos,af,none⟩::os) k f H Q:=bB (ap_move E) A z h
theorem wa(v:Value)(E:dj f x=v)(A:(Op.assign x).operands.toList.all (bC G)=true)(z:Nat.ble (d+1) sz=true)(h:WO P G K sz ops os k (upd f d v) H Q):WO P G K sz ops (⟨some d,.assign x,ty,pos,af,none⟩::os) k f H Q:=bB (j3 E) A z h
theorem fm(v:Value)(E:dj f x=v)(A:(Op.move x).operands.toList.all (bC G)=true)(z:Nat.ble (d+1) sz=true)(h:WF2 P G K sz ops ((i,.v)::D) (i+1) os k (upd f d v) H Q):WF2 P G K sz ops D i (⟨some d,.move x,ty,pos,af,none⟩::os) k f H Q:=aF (ap_move E) A z (fE rfl) (ee _) h
theorem fa(v:Value)(E:dj f x=v)(A:(Op.assign x).operands.toList.all (bC G)=true)(z:Nat.ble (d+1) sz=true)(h:WF2 P G K sz ops ((i,.v)::D) (i+1) os k (upd f d v) H Q):WF2 P G K sz ops D i (⟨some d,.assign x,ty,pos,af,none⟩::os) k f H Q:=aF (j3 E) A z (fE rfl) (ee _) h
end
end Go.R
end
noncomputable section
set_option linter.unusedVariables false
namespace Go.R
section
variable {P:Program} {G:Nat} {K:bM} {sz:Nat} {Q:Ex->Fn->Heap->Prop} {ops:Array Oper} {D:List (Nat×ID)} {i:Nat} {os:List Oper} {k:List Fr} {f:Fn} {H:Heap} {v:Value}
 {d:Tmp} {op:Op} {ty:TypeId} {pos:String} {af:Array Edge}
def cB:ID->ID->Bool
 | .v,_=>true
 |_,.v=>true
 |_,.x _=>false
 | .x _,.a=>true
 | .x _,_=>false
 |_,_=>true
theorem cB_ok{e d:ID}(h:cB e d=true):cD e d:=by cases e<;>cases d<;>first|exact trivial|cases h
def okB(ops:Array Oper)(i:Nat)(d:ID):List (Nat×ID)->Bool
 | []=>true
 |(j,e)::D=>(cB e d||bo (cg ops) j i)&&okB ops i d D
theorem kb: ∀{D:List (Nat×ID)} {e:ID},okB ops i e D=true->okD ops i e D
 | [],_,_=>trivial
 |(j,g)::D,e,h=>by unfold okB at h;rw[a0e,a0G]at h;exact⟨h.1.elim (fun h=> .inr (cB_ok h)) .inl,kb h.2⟩
theorem wfv(z:AP P (dj f) ⟨some d,op,ty,pos,af,none⟩ {H with log:=[]} (.val v,{H with log:=[]}))
  (h:WF2 P G K sz ops ((i,.v)::D) (i+1) os k (upd f d v) H Q) (N:aX op=true:=by rfl) (E:op.operands.toList.all (bC G)=true:=by rfl) (A:Nat.ble (d+1) sz=true:=by rfl):WF2 P G K sz ops D i (⟨some d,op,ty,pos,af,none⟩::os) k f H Q:=aF z E A (fE N) (ee _) h
end
end Go.R
end
noncomputable section
set_option linter.unusedVariables false
namespace Go.R
open Go
section
variable {I J:Int->Value->Prop} {es:List (Value×Value)}
def TabI(I:Int->Value->Prop)(es:List (Value×Value)):Prop:= ∀e,e∈es->∃k,e.1= .int .i64 k/\I k e.2
theorem TabI.nil:TabI I []:=fun _ h=>absurd h a0b
theorem TabI.imp(h:TabI I es)(g: ∀k v,I k v->J k v):TabI J es:=fun e E=>by obtain⟨k,z,A⟩:=h e E;exact⟨k,z,g _ _ A⟩
theorem TabI.keys(h:TabI I es):(es.all fun e=>bO (.int .i64) e.1)=true:=a0y.2 fun e A=>by obtain⟨k,z,_⟩:=h e A;rw[z];rfl
theorem TabI.find{d:TypeDesc}: ∀{es:List (Value×Value)},TabI I es->∀k,ew d (.int .i64 k) es=none\/∃v,ew d (.int .i64 k) es=some v/\I k v
 | [],_,k=> .inl rfl
 |(a,w)::es,h,k=>by
  obtain⟨j,z,A⟩:=h (a,w) (a0r ..);have z:a= .int .i64 j:=z;subst z;unfold ew;cases E:cL (.int .i64 k) (.int .i64 j) with
  |true=>
   have:k=j:=by simpa[cL] using E
   subst this
   exact .inr ⟨w,rfl,A⟩
  |false=>exact TabI.find (fun e N=>h e (a0h _ N)) k
theorem TabI.set: ∀{es:List (Value×Value)},TabI I es->∀{k:Int} {v:Value},I k v->TabI I (fh (.int .i64 k) v es)
 | [],_,k,v,hv=>fun e z=>by
  have:e=(.int .i64 k,v):=by simpa[fh] using z
  subst this;exact⟨k,rfl,hv⟩
 |(a,w)::es,h,k,v,hv=>fun e z=>by
  unfold fh at z;cases A:cL (.int .i64 k) a with
  |true=>
   rw[A]at z
   rcases a0m.1 z with rfl|z
   ·exact⟨k,rfl,hv⟩
   exact h e (a0h _ z)
  |false=>
   rw[A]at z
   rcases a0m.1 z with rfl|z
   ·exact h _ (a0r ..)
   exact TabI.set (fun e z=>h e (a0h _ z)) hv e z
end
section
variable {P:Program} {ρ:Operand->Value} {d:Option Tmp} {ty:TypeId} {pos:String} {af:Array Edge} {gd:Option (Nat×Bool)} {B:Base} {F:Fz} {H:Heap} {L R:List Fp} {I:Int->Value->Prop} {es:List (Value×Value)}
theorem rs_map{t:TypeId}(hs:HS B F H L R): ∃r:Rs,AP P ρ ⟨d,.makeMap t none,ty,pos,af,gd⟩ H (.val r.v,r.H)/\(∃b,r.v= .map (some b)/\HS B F r.H (L++[[(b,.tab [])]]) R/\Wr H r.H []):=
 ⟨⟨_,_,[]⟩,⟨rfl⟩,_,rfl,hs.push _,.nil fun b z=>by simpa using z⟩
theorem rs_look{t U E:TypeId}{m A:Operand}{z:Value}{q b:Nat}{k:Int}{i:TypeInfo}(hs:HS B F H L R)(hq:L[q]?=some [(b,.tab es)])(N:TabI I es)(hm:ρ m= .map (some b))(hk:ρ A= .int .i64 k)(ht:P.underlying t=some (.map U E))(hd:P.underlying U=some (.int .i64))(hi:P.info? E=some i)(hz:i.zero=some z)(hn:gE z=true):
  ∃r:Rs,AP P ρ ⟨d,.lookup t m A true,ty,pos,af,gd⟩ H (.val r.v,r.H)/\(∃w o,r.v= .tuple #[w,.bool o]/\r.H=H/\(o=true->I k w)/\(o=false->w=z)):=by
 have hg:=hs.get hq (a0d.2 rfl)
 have hl: ∃w o,gC P t (.map (some b)) (.int .i64 k) true H=some (.tuple #[w,.bool o])/\(o=true->I k w)/\(o=false->w=z):=by
  unfold gC;have T:bO (.int .i64) (.int .i64 k)=true:=rfl;simp only[ht,hd,hi,hz,hn,T,hg,N.keys,a1M,cond_true];rcases N.find (d:= .int .i64) k with h|⟨v,h,hv⟩
  ·rw[h];exact⟨z,false,rfl,(fun h=>by cases h),fun _=>rfl⟩
  rw[h];exact⟨v,true,rfl,(fun _=>hv),fun h=>by cases h⟩
 obtain⟨w,o,V,Z,h3⟩:=hl
 refine⟨⟨.tuple #[w,.bool o],H,[]⟩,⟨?_⟩,w,o,rfl,rfl,Z,h3⟩
 show ovl (gC P t (ρ m) (ρ A) true H) H=_
 rw[hm,hk,V];rfl
theorem rs_upd{t kt et:TypeId}{m N T:Operand}{q b:Nat}{k:Int}{w:Value}(hs:HS B F H L R)(E:L[q]?=some [(b,.tab es)])(V:TabI I es)(hI:I k w)(hm:ρ m= .map (some b))(hk:ρ N= .int .i64 k)(hv:ρ T=w)(ht:P.underlying t=some (.map kt et))(hd:P.underlying kt=some (.int .i64)):
  ∃r:Rs,AP P ρ ⟨d,.mapUpdate t m N T,ty,pos,af,gd⟩ H (.skip,r.H)/\(∃z,HS B F r.H (L.set q [(b,.tab z)]) R/\TabI I z/\Wr H r.H [b]):=by
 have hg:=hs.get E (a0d.2 rfl)
 have Z:=hs.callOwn E
 have U:=Z.put (i:=0) (o':= .tab (fh (.int .i64 k) w es)) rfl
 have h4:=hs.backOwn (M:=[]) E rfl (fun b A=>A) U
 refine⟨⟨.bool true,H.put b (.tab (fh (.int .i64 k) w es)),[]⟩,⟨?_⟩,_,by simpa using h4,V.set hI,fun b A=>U.log b A⟩
 show osk (eD P t (ρ m) (ρ N) (ρ T) H)=_
 have ad:bO (.int .i64) (.int .i64 k)=true:=rfl
 unfold eD
 simp only[ht,hm,hk,hv,hd,hg,ad,V.keys,a1M,cond_true]
 rfl
end
end Go.R
end
