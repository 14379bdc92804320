/-
Symbolic runs: heaps with owners, what cells stand for.
-/
import Derived.Test.YtkpgbdkkgcdhmaaGreatZPRB
noncomputable section
set_option linter.unusedVariables false
set_option linter.unusedSimpArgs false
namespace Go.R
abbrev Fn:=Nat->Value
def upd(f:Fn)(i:Nat)(v:Value):Fn:=fun j=>bif Nat.beq i j then v else f j
def updO(f:Fn)(d:Option Tmp)(v:Value):Fn:=match d with
 |some d=>upd f d v
 |none=>f
def gY(f:Fn):List (Nat×Value)->Fn
 | []=>f
 |(i,v)::l=>upd (gY f l) i v
def aC(f:Fn):List (Nat×Value)->Prop
 | []=>True
 |(i,v)::l=>f i=v/\aC f l
def cS(f:Fn):Operand->Value
 | .tmp t=>f t
 | .const v=>v
 | .global g=> .pointer (some ⟨g,0,none⟩)
 | .func i=> .func (.func i) #[] #[]
def argF(l:List Value):Fn:=fun j=>l.getD j undef
theorem upd_self(f:Fn){i:Nat}{v:Value}(h:f i=v):upd f i v=f:=by
 funext j;unfold upd;cases A:Nat.beq i j with
 |true=>have:=a07 A;subst this;exact h.symm
 |false=>rfl
theorem fo{f:Fn}: ∀{l:List (Nat×Value)},aC f l->gY f l=f
 | [],_=>rfl
 |(i,v)::l,h=>by unfold gY;rw[fo h.2];exact upd_self f h.1
theorem lget_lset_fn(t:Tr Value)(d:Nat)(v:Value):cN (lset t d v)=upd (cN t) d v:=by
 funext j;rw[gp];unfold upd;by_cases h:d=j
 ·subst h;rw[if_pos V,a0Y];rfl
 rw[if_neg h];cases A:Nat.beq d j with
 |true=>exact absurd (a07 A) h
 |false=>rfl
theorem e9(t:Tr Value):cO t=cS (cN t):=by funext x;cases x<;>rfl
theorem argTmps_fn(args:List Value):cN (fg 0 args .nil)=argF args:=by
 funext j;rw[iD];unfold argF;by_cases h:j<args.length
 ·rw[if_pos M];rfl
 rw[if_neg M,a0b,a0J M];rfl
inductive Fr where
 |seq (b:Code)
 |block (id:Nat)
section
variable {P:Program} {G:Nat} {K:bp} {sz:Nat} {Q:Ex->Fn->Heap->Prop}
def runK(P:Program)(G:Nat)(K:bp)(n:Nat):List Fr->Option (Ex×St)->Option (Ex×St)
 | [],r=>r
 | .seq b::k,r=>runK P G K n k (gy r (mw P G K n b))
 | .block id::k,r=>runK P G K n k (dj id r)
theorem eh{n m:Nat}(h:n<=m): ∀(k:List Fr) (r r':Option (Ex×St)),(∀x,r=some x->r'=some x)->∀x,runK P G K n k r=some x->runK P G K m k r'=some x
 | [],r,r',hr,x,hx=>hr x hx
 | .seq b::k,r,r',hr,x,hx=>eh h k _ _ (fun _ A=>gR hr (fun s y A=>iY h b s y A) A) x hx
 | .block id::k,r,r',hr,x,hx=>eh h k _ _ (fun _ A=>jL hr A) x hx
structure WK(P:Program)(G:Nat)(K:bp)(sz:Nat)(c:Code)(k:List Fr)(f:Fn)(H:Heap)(Q:Ex->Fn->Heap->Prop):Prop where
 out: ∀t,cN t=f->∃n e s',runK P G K (n+1) k (mw P G K (n+1) c ⟨t,sz,H⟩)=some (e,s')/\Q e (cN s'.tmps) s'.heap
structure WO(P:Program)(G:Nat)(K:bp)(sz:Nat)(ops:Array Oper)(os:List Oper)(k:List Fr)(f:Fn)(H:Heap)(Q:Ex->Fn->Heap->Prop):Prop where
 out: ∀t,cN t=f->∃n e s',runK P G K (n+1) k (ef (fS P G (call P G K n) ops os ⟨t,sz,H⟩))=some (e,s')/\Q e (cN s'.tmps) s'.heap
structure C(P:Program)(G:Nat)(K:bp)(f:FuncId)(args:List Value)(H:Heap)(R:Value->Heap->Prop):Prop where
 out: ∃n v H',call P G K n f args H=some (v,H')/\R v H'
theorem C.mono{f:FuncId}{args:List Value}{H:Heap}{R A:Value->Heap->Prop}(h:C P G K f args H R)(U: ∀v H',R v H'->A v H'):C P G K f args H A:=by obtain⟨n,v,H',E,O⟩:=h.out;exact⟨n,v,H',E,U _ _ O⟩
variable {c:Code} {k:List Fr} {f:Fn} {H:Heap}
theorem aD(h:Q .normal f H):WK P G K sz .skip [] f H Q:=⟨fun t A=>⟨0,.normal,⟨t,sz,H⟩,V,by rw[A];exact h⟩⟩
theorem aJ{b:Code}(h:WK P G K sz b k f H Q):WK P G K sz .skip (.seq b::k) f H Q:=⟨h.out⟩
theorem iK{id:Nat}(h:WK P G K sz .skip k f H Q):WK P G K sz .skip (.block id::k) f H Q:=⟨h.out⟩
theorem cx{a b:Code}(h:WK P G K sz a (.seq b::k) f H Q):WK P G K sz (.seq a b) k f H Q:=⟨h.out⟩
theorem mN{id:Nat}{b:Code}(h:WK P G K sz b (.block id::k) f H Q):WK P G K sz (.block id b) k f H Q:=⟨h.out⟩
theorem bY{b:Code}(h:WK P G K sz b (.seq (.loop b)::k) f H Q):WK P G K sz (.loop b) k f H Q:=⟨fun t U=>by
 obtain⟨n,e,s',E,O⟩:=h.out t U;refine⟨n+1,e,s',?_,O⟩;refine eh (Nat.le_succ (n+1)) k _ _ (fun x Z=>?_) _ E;show gy (mw P G K (n+2) b ⟨t,sz,H⟩) (mw P G K (n+1) (.loop b))=some x;exact gR (fun y A=>iX _ _ _ _ A) (fun _ _ A=>A) Z⟩
theorem wk_exit_seq{id:Nat}{b:Code}(h:WK P G K sz (.exit id) k f H Q):WK P G K sz (.exit id) (.seq b::k) f H Q:=⟨h.out⟩
theorem mM{id:Nat}(h:WK P G K sz .skip k f H Q):WK P G K sz (.exit id) (.block id::k) f H Q:=⟨fun t O=>by
 obtain⟨n,e,U,A,E⟩:=h.out t O;refine⟨n,e,U,?_,E⟩;show runK P G K (n+1) k (dj id (some (.exit id,⟨t,sz,H⟩)))=_;unfold dj;simp only[a0Y,cond_true];exact A⟩
theorem jV{id A:Nat}(E:Nat.beq id A=false)(h:WK P G K sz (.exit id) k f H Q):WK P G K sz (.exit id) (.block A::k) f H Q:=⟨fun t Z=>by
 obtain⟨n,e,s',O,U⟩:=h.out t Z;refine⟨n,e,s',?_,U⟩;show runK P G K (n+1) k (dj A (some (.exit id,⟨t,sz,H⟩)))=_;unfold dj;simp only[E,cond_false];exact O⟩
theorem j8{n:Nat}{s:St}: ∀k:List Fr,runK P G K n k (some (.ret,s))=some (.ret,s)
 | []=>rfl
 | .seq _::k=>j8 k
 | .block _::k=>j8 k
theorem ae(h:Q .ret f H):WK P G K sz .ret k f H Q:=⟨fun t A=>⟨0,.ret,⟨t,sz,H⟩,j8 k,by rw[A];exact h⟩⟩
theorem hR{x:Operand}{a b:Code}{v:Bool}(hx:cS f x= .bool v)(ho:bd G x=true)(ht:v=true->WK P G K sz a k f H Q)(he:v=false->WK P G K sz b k f H Q):WK P G K sz (.cond x a b) k f H Q:=⟨fun t U=>by
 have A: ∀n,mw P G K (n+1) (.cond x a b) ⟨t,sz,H⟩=bif v then mw P G K (n+1) a ⟨t,sz,H⟩ else mw P G K (n+1) b ⟨t,sz,H⟩:=by intro n;show(bif bd G x then my (cO t x) _ _ else none)=_;rw[ho,e9,U,hx];rfl
 cases v with
 |true=>
  obtain⟨n,e,Z,E,O⟩:=(ht V).out t U
  exact⟨n,e,Z,by rw[A];exact E,O⟩
 |false=>
  obtain⟨n,e,Z,E,O⟩:=(he V).out t U
  exact⟨n,e,Z,by rw[A];exact E,O⟩⟩
theorem wk_true{x:Operand}{a b:Code}{v:Bool}(O:cS f x= .bool v)(E:v=true)(A:bd G x=true)(h:WK P G K sz a k f H Q):WK P G K sz (.cond x a b) k f H Q:=
 hR O A (fun _=>h) (fun e=>by rw[E]at e;cases e)
theorem wk_false{x:Operand}{a b:Code}{v:Bool}(O:cS f x= .bool v)(E:v=false)(A:bd G x=true)(h:WK P G K sz b k f H Q):WK P G K sz (.cond x a b) k f H Q:=
 hR O A (fun e=>by rw[E]at e;cases e) (fun _=>h)
theorem ab{id:Nat}{ops:Array Oper}(h:WO P G K sz ops ops.toList k f H Q):WK P G K sz (.region id ops false) k f H Q:=⟨h.out⟩
theorem aQ{ops:Array Oper}(h:WK P G K sz .skip k f H Q):WO P G K sz ops [] k f H Q:=⟨h.out⟩
theorem ap(l:List (Nat×Value))(A:aC f l)(h: ∀g,WK P G K sz c k (gY g l) H Q):WK P G K sz c k f H Q:=by have:=h f;rwa [fo A]at this
structure AP(P:Program)(ρ:Operand->Value)(o:Oper)(H:Heap)(r:AN×Heap):Prop where
 eq:aop P ρ o H=some r
def dstOK(d:Option Tmp)(sz:Nat):Bool:=match d with
 |some d=>Nat.ble (d+1) sz
 |none=>true
theorem jJ{s:St}{d:Option Tmp}{v:Value}(hd:dstOK d s.size=true): ∃E,s.put d v=some {s with tmps:=E}/\cN E=updO (cN s.tmps) d v:=by
 unfold St.put;cases d with
 |none=>exact⟨s.tmps,V,V⟩
 |some d=>
  have A:Nat.ble (d+1) s.size=true:=hd
  simp only[A,cond_true]
  exact⟨lset s.tmps d v,V,lget_lset_fn _ _ _⟩
section
variable {ops:Array Oper} {o:Oper} {os:List Oper} {v:Value} {H1:Heap}
theorem mT{t:Tr Value}(Z:o.guard=none)(ho:o.op.operands.toList.all (bd G)=true)(U:aop P (cS (cN t)) o H=some (.val v,H1))(hd:dstOK o.dst sz=true):
  ∃A,(∀cf,step P G cf ops o ⟨t,sz,H⟩=some ⟨A,sz,H1⟩)/\cN A=updO (cN t) o.dst v:=by
 obtain⟨A,E,O⟩:=jJ (s:=⟨t,sz,H1⟩) (v:=v) hd
 refine⟨A,fun cf=>?_,O⟩
 unfold step aW
 simp only[Z,cond_true,ho,e9,U]
 exact E
theorem step_skip{t:Tr Value}(Z:o.guard=none)(ho:o.op.operands.toList.all (bd G)=true)(U:aop P (cS (cN t)) o H=some (.skip,H1))(hd:dstOK o.dst sz=true):
  ∃A,(∀cf,step P G cf ops o ⟨t,sz,H⟩=some ⟨A,sz,H1⟩)/\cN A=updO (cN t) o.dst undef:=by
 obtain⟨A,E,O⟩:=jJ (s:=⟨t,sz,H1⟩) (v:=undef) hd
 refine⟨A,fun cf=>?_,O⟩
 unfold step aW
 simp only[Z,cond_true,ho,e9,U]
 exact E
theorem ao{d:Tmp}{op:Op}{ty:TypeId}{pos:String}{af:Array Edge}(ha:AP P (cS f) ⟨some d,op,ty,pos,af,none⟩ H (.val v,H1))(ho:op.operands.toList.all (bd G)=true)(hd:Nat.ble (d+1) sz=true)
  (h:WO P G K sz ops os k (upd f d v) H1 Q):WO P G K sz ops (⟨some d,op,ty,pos,af,none⟩::os) k f H Q:=⟨fun t A=>by
 obtain⟨t',E,O⟩:=mT (P:=P) (G:=G) (ops:=ops) (t:=t) (o:=⟨some d,op,ty,pos,af,none⟩) V ho (by rw[A];exact ha.eq) hd
 obtain⟨n,e,s',U,Z⟩:=h.out t' (by rw[O,A];rfl)
 refine⟨n,e,s',?_,Z⟩
 rw[bS,E]
 exact U⟩
theorem wo_skip{op:Op}{ty:TypeId}{pos:String}{af:Array Edge}(ha:AP P (cS f) ⟨none,op,ty,pos,af,none⟩ H (.skip,H1))(ho:op.operands.toList.all (bd G)=true)
  (h:WO P G K sz ops os k f H1 Q):WO P G K sz ops (⟨none,op,ty,pos,af,none⟩::os) k f H Q:=⟨fun t A=>by
 obtain⟨t',E,O⟩:=step_skip (P:=P) (G:=G) (ops:=ops) (t:=t) (sz:=sz) (o:=⟨none,op,ty,pos,af,none⟩) V ho (by rw[A];exact ha.eq) V
 obtain⟨n,e,s',U,Z⟩:=h.out t' (by rw[O,A];rfl)
 refine⟨n,e,s',?_,Z⟩
 rw[bS,E]
 exact U⟩
theorem wo_callG{d:Option Tmp}{op:Op}{ty:TypeId}{pos:String}{af:Array Edge}{g:FuncId}{args:List Value}{R:Value->Heap->Prop}(ha:AP P (cS f) ⟨d,op,ty,pos,af,none⟩ H (.enter g args,H1))(ho:op.operands.toList.all (bd G)=true)(hd:dstOK d sz=true)
  (hc:C P G K g args H1 R) (h: ∀v A,R v A->WO P G K sz ops os k (updO f d v) A Q):WO P G K sz ops (⟨d,op,ty,pos,af,none⟩::os) k f H Q:=⟨fun t ht=>by
 obtain⟨O,v,A,an,hr⟩:=hc.out
 have h0:=h v A hr
 obtain⟨t',h1,h2⟩:=jJ (s:=⟨t,sz,A⟩) (v:=v) hd
 obtain⟨E,e,s',h3,h4⟩:=h0.out t' (by rw[h2,ht])
 refine⟨Nat.max O E,e,s',?_,h4⟩
 have ar:step P G (call P G K (Nat.max O E)) ops ⟨d,op,ty,pos,af,none⟩ ⟨t,sz,H⟩=some ⟨t',sz,A⟩:=by unfold step aW;simp only[cond_true,ho,e9,ht,ha.eq,fy (a1I O E) _ _ _ _ an];exact h1
 rw[bS,ar]
 refine eh (a1p (a1j O E)) k _ _ (fun x U=>?_) _ h3
 simp only
 cases Z:fS P G (call P G K E) ops os ⟨t',sz,A⟩ with
 |none=>rw[Z]at U;cases U
 |some y=>rw[ie (fy (a1j O E)) _ _ _ Z];rw[Z]at U;exact U⟩
theorem hN{d:Tmp}{op:Op}{ty:TypeId}{pos:String}{af:Array Edge}{g:FuncId}{args:List Value}{R:Value->Heap->Prop}(E:AP P (cS f) ⟨some d,op,ty,pos,af,none⟩ H (.enter g args,H1))(O:op.operands.toList.all (bd G)=true)(hd:Nat.ble (d+1) sz=true)
  (hc:C P G K g args H1 R) (h: ∀v A,R v A->WO P G K sz ops os k (upd f d v) A Q):WO P G K sz ops (⟨some d,op,ty,pos,af,none⟩::os) k f H Q:=wo_callG E O hd hc h
end
theorem aj{b:Code}(I:Nat->Fn->Heap->Prop)(m:Nat)(h0:I m f H)
  (step: ∀m f H,I m f H->(∀E A H',E<m->I E A H'->WK P G K sz (.loop b) k A H' Q)->WK P G K sz b (.seq (.loop b)::k) f H Q):WK P G K sz (.loop b) k f H Q:=by
 have key: ∀n m,m<=n->∀f H,I m f H->WK P G K sz (.loop b) k f H Q:=by
  intro n;induction n with
  |zero=>
   intro m hm f H O
   refine bY (step m f H O fun E A H' Z _=>?_)
   omega
  |succ n ih=>
   intro m hm f H O
   exact bY (step m f H O fun E A H' Z U=>ih E M A H' U)
 exact key m m (a08 _) f H h0
def cg(P:Program)(f:Fn)(H:Heap):List ResultVar->Option (List Value)
 | []=>some []
 | .tmp t::rs=>
  match cg P f H rs with
  |some l=>some (f t::l)
  |none=>none
 | .cell a t::rs=>
  match f a with
  | .pointer (some p)=>
   match H.loadV P t p,cg P f H rs with
   |some v,some l=>some (v::l)
   |_,_=>none
  |_=>none
theorem ii(s:St): ∀rs,cM P s rs=cg P (cN s.tmps) s.heap rs
 | []=>rfl
 | .tmp t::rs=>by unfold cM cg;rw[ii s rs];cases cg P (cN s.tmps) s.heap rs<;>rfl
 | .cell a t::rs=>by
  unfold cM cg;cases cN s.tmps a with
  |pointer p=>cases p with
   |none=>rfl
   |some p=>simp only[ii s rs];cases s.heap.loadV P t p<;>cases cg P (cN s.tmps) s.heap rs<;>rfl
  |_=>rfl
theorem av{A:FuncId}{fn:Func}{args:List Value}{R:Value->Heap->Prop}(U:P.funcs[A]?=some fn)(hc:fn.body=some c)(hK:K A args H=none)
  (h:WK P G K (Nat.max args.length fn.ntmps) c [] (argF args) H fun e f' H'=>(e= .normal\/e= .ret)/\∃l,cg P f' H' fn.results.toList=some l/\R (eC l) H'):C P G K A args H R:=by
 obtain⟨n,e,Z,h1,he,l,E,hr⟩:=h.out (fg 0 args .nil) (argTmps_fn args)
 refine⟨n+1,eC l,Z.heap,?_,hr⟩
 show lw K (nF P (mw P G K (n+1))) A args H=_
 have O:mw P G K (n+1) c ⟨fg 0 args .nil,Nat.max args.length fn.ntmps,H⟩=some (e,Z):=h1
 unfold lw nF
 rw[hK]
 simp only[U,hc,O]
 rw[←ii]at E
 rcases he with rfl|rfl
 ·simp only[E]
 simp only[E]
theorem c_known{A:FuncId}{args:List Value}{v:Value}{R:Value->Heap->Prop}(E:K A args H=some v)(h:R v H):C P G K A args H R:=
 ⟨0,v,H,by show lw K _ A args H=_;unfold lw;rw[E],h⟩
end
end Go.R
end
noncomputable section
namespace Go.R
section
variable {P:Program} {ρ:Operand->Value} {d:Option Tmp} {ty:TypeId} {pos:String} {af:Array Edge} {gd:Option (Nat×Bool)} {H:Heap}
theorem ap_move{x:Operand}{v:Value}(h:ρ x=v):AP P ρ ⟨d,.move x,ty,pos,af,gd⟩ H (.val v,H):=by subst h;exact⟨V⟩
theorem lC{x:Operand}{v:Value}(h:ρ x=v):AP P ρ ⟨d,.assign x,ty,pos,af,gd⟩ H (.val v,H):=by subst h;exact⟨V⟩
theorem jP{op:BinOp}{t yt:TypeId}{x y:Operand}{k A:IntKind}{a b:Int}{v:Value}(O:ρ x= .int k a)(U:ρ y= .int A b)
  (E:(bif li op then shBin op k a b else bif gr k A then ml op k a b else none)=some v):AP P ρ ⟨d,.binOp op t x y yt,ty,pos,af,gd⟩ H (.val v,H):=by
 refine⟨?_⟩
 show aBin P ρ _ op t (ρ x) y H=_
 rw[O]
 show binInt op k a (ρ y) H=_
 rw[U]
 show ovl _ H=_
 rw[E];rfl
theorem ap_str{op:BinOp}{t yt:TypeId}{x y:Operand}{a b:ByteArray}{v:Value}(E:ρ x= .string a)(O:ρ y= .string b)(A:strOp op a b=some v):
  AP P ρ ⟨d,.binOp op t x y yt,ty,pos,af,gd⟩ H (.val v,H):=by
 refine⟨?_⟩
 show aBin P ρ _ op t (ρ x) y H=_
 rw[E]
 show binStr op a (ρ y) H=_
 rw[O]
 show ovl _ H=_
 rw[A];rfl
theorem gE{t:TypeId}{x:Operand}{b:Bool}(A:ρ x= .bool b):AP P ρ ⟨d,.unOp .not t x,ty,pos,af,gd⟩ H (.val (.bool (!b)),H):=by refine⟨?_⟩;show aUn P ρ _ .not (ρ x) H=_;rw[A];rfl
theorem ap_conv{s t:TypeId}{x:Operand}{k A:IntKind}{n:Int}(O:ρ x= .int k n){u:TypeDesc}(hs:P.underlying s=some u)(E:P.underlying t=some (.int A)):
  AP P ρ ⟨d,.convert s t x,ty,pos,af,gd⟩ H (.val (.int A (A.wrap n)),H):=by
 refine⟨?_⟩
 show fc P ρ _ s t (ρ x) H=_
 rw[O]
 show ovl (nC P s t n) H=_
 unfold nC
 rw[hs,E];rfl
theorem ap_neg{t:TypeId}{x:Operand}{k:IntKind}{n:Int}(A:ρ x= .int k n):AP P ρ ⟨d,.unOp .neg t x,ty,pos,af,gd⟩ H (.val (.int k (k.wrap (0-n))),H):=by
 refine⟨?_⟩;show aUn P ρ _ .neg (ρ x) H=_;rw[A];show bA P ρ _ H=_;unfold bA;have E:((Op.unOp .neg t x).operands.toList.all fun x=>jr (ρ x))=true:=by simp[Op.operands,A,jr,dx]
 simp only[E,cond_true];show(match aB P (execOp ρ ⟨d,.unOp .neg t x,ty,pos,af,gd⟩) with|some (.value v)=>bif noA2 v then some (AN.val v,H) else none|_=>none)=_;have O:aB P (execOp ρ ⟨d,.unOp .neg t x,ty,pos,af,gd⟩)=some (.value (.int k (k.wrap (0-n)))):=by unfold execOp;simp only[A];rfl
 rw[O];rfl
theorem ap_cpl{t:TypeId}{x:Operand}{k:IntKind}{n:Int}(A:ρ x= .int k n):AP P ρ ⟨d,.unOp .xor t x,ty,pos,af,gd⟩ H (.val (.int k (bits .xor k (if k.signed then-1 else k.max) n)),H):=by
 refine⟨?_⟩;show aUn P ρ _ .xor (ρ x) H=_;rw[A];show bA P ρ _ H=_;unfold bA;have E:((Op.unOp .xor t x).operands.toList.all fun x=>jr (ρ x))=true:=by simp[Op.operands,A,jr,dx]
 simp only[E,cond_true];have O:aB P (execOp ρ ⟨d,.unOp .xor t x,ty,pos,af,gd⟩)=some (.value (.int k (bits .xor k (if k.signed then-1 else k.max) n))):=by unfold execOp;simp only[A];rfl
 rw[O];rfl
theorem ap_quo{t yt:TypeId}{x y:Operand}{k A:IntKind}{a b:Int}(U:ρ x= .int k a)(Z:ρ y= .int A b)(O:gr k A=true)(E:(b==0)=false):
  AP P ρ ⟨d,.binOp .quo t x y yt,ty,pos,af,gd⟩ H (.val (.int k (k.wrap (a.tdiv b))),H):=
 jP U Z (by show(bif gr k A then(bif b==0 then none else some (.int k (k.wrap (a.tdiv b)))) else none:Option Value)=_;rw[O,E];rfl)
theorem ap_rem{t yt:TypeId}{x y:Operand}{k A:IntKind}{a b:Int}(U:ρ x= .int k a)(Z:ρ y= .int A b)(O:gr k A=true)(E:(b==0)=false):
  AP P ρ ⟨d,.binOp .rem t x y yt,ty,pos,af,gd⟩ H (.val (.int k (a.tmod b)),H):=
 jP U Z (by show(bif gr k A then(bif b==0 then none else some (.int k (a.tmod b))) else none:Option Value)=_;rw[O,E];rfl)
theorem ap_shl{t yt:TypeId}{x y:Operand}{k U:IntKind}{a b:Int}(E:ρ x= .int k a)(O:ρ y= .int U b)(A:0<=b):
  AP P ρ ⟨d,.binOp .shl t x y yt,ty,pos,af,gd⟩ H (.val (.int k (k.wrap (a *2^(Nat.min b.toNat k.bits)))),H):=by
 refine⟨?_⟩
 obtain⟨n,rfl⟩:=a0K A
 exact(jP E O V).eq
theorem ap_shr{t yt:TypeId}{x y:Operand}{k U:IntKind}{a b:Int}(E:ρ x= .int k a)(O:ρ y= .int U b)(A:0<=b):
  AP P ρ ⟨d,.binOp .shr t x y yt,ty,pos,af,gd⟩ H (.val (.int k (a.fdiv (2^(Nat.min b.toNat k.bits)))),H):=by
 refine⟨?_⟩
 obtain⟨n,rfl⟩:=a0K A
 exact(jP E O V).eq
theorem i9{t:TypeId}{n sz:Nat}{z:List Value}{A:Array (Nat×Operand)}{cells:Array Value}(hs:dB P t=some (sz,z))(O:Nat.ble (n *sz) 16777216=true)
  (E:Instr.fill (fun i=>some (i *sz,sz)) ⟨cC n z⟩ (dM (fun p=>(p.1,ρ p.2)) A.toList)=some cells):
  AP P ρ ⟨d,.buildSlice t n A,ty,pos,af,gd⟩ H (.val (.slice (some ⟨H.next,0,none⟩) n n),H.push (.cells cells.toList none false)):=by
 refine⟨?_⟩
 show bx P t n (dM (fun p=>(p.1,ρ p.2)) A.toList) H=_
 unfold bx
 rw[hs]
 simp only[O,cond_true,E]
 rfl
theorem jQ{t e:TypeId}{x i:Operand}{b o n k sz:Nat}{ki:IntKind}{j:Int}(hx:ρ x= .slice (some ⟨b,o,none⟩) n k)(hi:ρ i= .int ki j)(Z:P.underlying t=some (.slice e))(hs:cT P e=some sz)
  (A:0<=j) (hj:j<n) (U:n<=k):AP P ρ ⟨d,.indexAddr t x i,ty,pos,af,gd⟩ H (.val (.pointer (some ⟨b,o+j.toNat *sz,none⟩)),H):=by
 refine⟨?_⟩
 obtain⟨m,rfl⟩:=a0K A
 show ovl (cu P t (ρ x) (ρ i)) H=_
 rw[hx,hi]
 unfold cu
 rw[Z]
 show ovl (match cT P e with|some sz=>bif Nat.ble (m+1) n&&Nat.ble n k then some (.pointer (some ⟨b,o+m *sz,none⟩)) else none|none=>none) H=_
 rw[hs]
 have E:Nat.ble (m+1) n=true:=a0t M
 have O:Nat.ble n k=true:=a0t U
 simp only[E,O,a1q,cond_true]
 rfl
theorem ap_load1{t:TypeId}{x:Operand}{b o:Nat}{cs:List Value}{A:Option Nat}{ro:Bool}{v:Value}(Z:ρ x= .pointer (some ⟨b,o,none⟩))(E:aggOf P t=some false)(O:H.get b=some (.cells cs A ro))(U:cs[o]?=some v):
  AP P ρ ⟨d,.load t x,ty,pos,af,gd⟩ H (.val v,H):=by
 refine⟨?_⟩
 show eu P t (ρ x) H=_
 rw[Z]
 show ovl (H.loadV P t ⟨b,o,none⟩) H=_
 unfold Heap.loadV
 rw[E]
 simp only
 unfold Heap.cellAt
 simp only[O,fV,U]
 rfl
theorem ap_loadN{t:TypeId}{x:Operand}{b o n:Nat}{cs l:List Value}{A:Option Nat}{ro:Bool}(hx:ρ x= .pointer (some ⟨b,o,none⟩))(E:aggOf P t=some true)(hs:cT P t=some n)(O:H.get b=some (.cells cs A ro))(U:(cs.drop o).take n=l)(Z:l.length=n):
  AP P ρ ⟨d,.load t x,ty,pos,af,gd⟩ H (.val (.agg ⟨l⟩),H):=by
 refine⟨?_⟩
 show eu P t (ρ x) H=_
 rw[hx]
 show ovl (H.loadV P t ⟨b,o,none⟩) H=_
 unfold Heap.loadV
 rw[E]
 simp only[hs]
 unfold Heap.loadN
 simp only[O,bu,bE,be,U,Z,a0Y,cond_true]
 rfl
structure Keeps(H H':Heap):Prop where
 next:H.next<=H'.next
 get: ∀b,b<H.next->H'.get b=H.get b
 log: ∃d,H'.log=d++H.log/\∀b,b∈d->H.next<=b
theorem appL_nil(l:List Value):kv l []=l:=by rw[d9];simp
theorem aH{args:Array Operand}{A:Array TypeId}{i:FuncId}{fn:Func}{f:Fn}{l:List Value}(O:P.funcs[i]?=some fn)(E:(fn.body.isSome&& !(fn.name== "runtime.NumGoroutine"))=true)(U:dM (cS f) args.toList=l):
  AP P (cS f) ⟨d,.call ⟨.value (.func i),args,A⟩,ty,pos,af,gd⟩ H (.enter i l,H):=by
 refine⟨?_⟩
 show fH (fO P (.func (.func i) #[] #[]) (dM (cS f) args.toList)) H=_
 unfold fO
 simp only[O,E,cond_true,U]
 show fH (some (.enter i (kv [] (kv l [])))) H=_
 rw[appL_nil]
 rfl
end
end Go.R
end
noncomputable section
namespace Go.R
def gD:Inf->Bool
 | .x w=>isNilL w
 |_=>true
def vkAt(ops:Array Oper)(j:Nat):Bool:=match ops[j]? with
 |some o=>aP o.op
 |none=>false
def FsOK(ops:Array Oper)(wr:List Nat)(i:Nat)(fs:List (Nat×Inf)):Prop:= ∀j g,(j,g)∈fs->j<i/\(gD g=true\/j∈wr)/\(vkAt ops j=true->g= .v)
theorem nK: ∀{f g:Inf},gD f=true->gD g=true->dr f g=true
 | .v,_,_,_=>rfl
 | .a b,.v,_,_=>rfl
 | .a b,.a c,_,_=>rfl
 | .a b,.l c,_,_=>rfl
 | .a b,.x w,_,h=>by cases w with
  |nil=>rfl
  |cons _ _=>cases h
 | .l b,.v,_,_=>rfl
 | .l b,.a c,_,_=>rfl
 | .l b,.l c,_,_=>rfl
 | .l b,.x w,_,h=>by cases w with
  |nil=>rfl
  |cons _ _=>cases h
 | .x w,.v,_,_=>rfl
 | .x w,.a c,_,_=>rfl
 | .x w,.l c,h,_=>by cases w with
  |nil=>rfl
  |cons _ _=>cases h
 | .x w,.x u,h,h'=>by simp only[gD]at h h';simp only[dr,h,h',a1q]
theorem below_nil{n:Nat}: ∀{l:List Nat},(∀b,b∈l->n<=b)->dN n l=[]
 | [],_=>rfl
 |c::l,h=>by have A:Nat.ble n c=true:=a0t (h c (a0E ..));unfold dN;rw[A];exact below_nil fun b E=>h b (a0g _ E)
theorem infOf_benign{ops:Array Oper}{o:Oper}{s:St}{n:Nat}{log:List Nat}(h:dN n log=[]):gD (ep ops o s n log)=true:=by
 unfold ep;rw[h];cases (!aW ops o s.tmps||aP o.op) with
 |true=>rfl
 |false=>
  simp only[cond_false]
  cases dR o.op with
  |true=>rfl
  |false=>
   simp only[cond_false]
   split
   ·split<;>rfl
   ·split<;>rfl
   ·split<;>rfl
   rfl
theorem infOf_value{ops:Array Oper}{o:Oper}{s:St}{n:Nat}{log:List Nat}(h:aP o.op=true):ep ops o s n log= .v:=by unfold ep;rw[h,a1O];rfl
theorem jS{ops:Array Oper}{l:List Nat}{i:Nat}{f:Inf}: ∀{fs:List (Nat×Inf)},(∀j g,(j,g)∈fs->(aY l j i||dr g f)=true)->b7 ops l i f fs=true
 | [],_=>rfl
 |(j,g)::fs,h=>by unfold b7;rw[←Bool.or_assoc,h j g (a0E ..),jS fun j g A=>h j g (a0g _ A)];rfl
section
variable {P:Program} {G:Nat} {K:bp} {sz:Nat} {Q:Ex->Fn->Heap->Prop} {ops:Array Oper} {wr:List Nat} {i:Nat} {os:List Oper} {k:List Fr} {f:Fn} {H H1:Heap} {v:Value}
 {d:Tmp} {op:Op} {ty:TypeId} {pos:String} {af:Array Edge}
structure WD(P:Program)(G:Nat)(K:bp)(sz:Nat)(ops:Array Oper)(wr:List Nat)(i:Nat)(os:List Oper)(k:List Fr)(f:Fn)(H:Heap)(Q:Ex->Fn->Heap->Prop):Prop where
 out: ∀t fs,cN t=f->FsOK ops wr i fs->∃n e s',runK P G K (n+1) k (ef (bg P G (call P G K n) ops i fs os ⟨t,sz,H⟩))=some (e,s')/\Q e (cN s'.tmps) s'.heap
end
end Go.R
end
noncomputable section
namespace Go.R
def cy(ops:Array Oper)(f:Fn)(j:Nat):Option Bool:=
 match (ops[j]?).bind (·.dst) with
 |some d=>
  match f d with
  | .bool b=>some b
  |_=>none
 |none=>none
theorem aop_guard{P:Program}{ρ:Operand->Value}{d:Option Tmp}{op:Op}{ty:TypeId}{pos:String}{af:Array Edge}(g A:Option (Nat×Bool))(H:Heap):
  aop P ρ ⟨d,op,ty,pos,af,g⟩ H=aop P ρ ⟨d,op,ty,pos,af,A⟩ H:=by
 cases op<;>rfl
section
variable {P:Program} {G:Nat} {K:bp} {sz:Nat} {Q:Ex->Fn->Heap->Prop} {ops:Array Oper} {wr:List Nat} {i j:Nat} {os:List Oper} {k:List Fr} {f:Fn} {H H1:Heap} {v want:Bool}
 {d:Option Tmp} {op:Op} {ty:TypeId} {pos:String} {af:Array Edge}
theorem iN{t:Tr Value}(E:cN t=f)(O:cy ops f j=some v)(o:Oper)(A:o.guard=some (j,want)):aW ops o t=(v==want):=by
 unfold aW;rw[A];have:lR ops t j=some v:=by rw[←O,←E];rfl
 simp only[this];cases v<;>cases want<;>rfl
theorem lX{cf:cr}{t:Tr Value}(O:cN t=f)(Z:cy ops f j=some v)(U:v=want):
  step P G cf ops ⟨d,op,ty,pos,af,some (j,want)⟩ ⟨t,sz,H⟩=step P G cf ops ⟨d,op,ty,pos,af,none⟩ ⟨t,sz,H⟩:=by
 unfold step
 rw[iN O Z _ V,U]
 have A:(want==want)=true:=by cases want<;>rfl
 have E:aW ops ⟨d,op,ty,pos,af,none⟩ t=true:=rfl
 simp only[A,E,cond_true,aop_guard (some (j,want)) none]
theorem mU{cf:cr}{t:Tr Value}(E:cN t=f)(U:cy ops f j=some v)(O:v= !want):
  step P G cf ops ⟨d,op,ty,pos,af,some (j,want)⟩ ⟨t,sz,H⟩=St.put ⟨t,sz,H⟩ d undef:=by
 unfold step
 rw[iN E U _ V,O]
 have A:((!want)==want)=false:=by cases want<;>rfl
 simp only[A,cond_false]
theorem aV(Z:cy ops f j=some v)(U:v=want)(h:WO P G K sz ops (⟨d,op,ty,pos,af,none⟩::os) k f H Q):WO P G K sz ops (⟨d,op,ty,pos,af,some (j,want)⟩::os) k f H Q:=⟨fun t E=>by
 obtain⟨n,e,s',A,O⟩:=h.out t E;refine⟨n,e,s',?_,O⟩;rw[bS]at A⊢;rw[lX E Z U];exact A⟩
theorem wo_gf{d:Tmp}(hy:cy ops f j=some v)(hv:v= !want)(hd:Nat.ble (d+1) sz=true)(h:WO P G K sz ops os k (upd f d undef) H Q):WO P G K sz ops (⟨some d,op,ty,pos,af,some (j,want)⟩::os) k f H Q:=⟨fun t A=>by
 obtain⟨t',U,Z⟩:=jJ (s:=⟨t,sz,H⟩) (d:=some d) (v:=undef) hd;obtain⟨n,e,s',E,O⟩:=h.out t' (by rw[Z,A];rfl);refine⟨n,e,s',?_,O⟩;rw[bS,mU A hy hv,U];exact E⟩
theorem eg{d:Tmp}(E:cy ops f j=some v)(A:v=false)(hd:Nat.ble (d+1) sz=true)(h:WO P G K sz ops os k (upd f d undef) H Q):WO P G K sz ops (⟨some d,op,ty,pos,af,some (j,true)⟩::os) k f H Q:=wo_gf E A hd h
theorem aw{d:Tmp}(E:cy ops f j=some v)(A:v=true)(hd:Nat.ble (d+1) sz=true)(h:WO P G K sz ops os k (upd f d undef) H Q):WO P G K sz ops (⟨some d,op,ty,pos,af,some (j,false)⟩::os) k f H Q:=wo_gf E A hd h
theorem wo_gn{d:Tmp}(hy:cy ops f j=none)(hd:Nat.ble (d+1) sz=true)(h:WO P G K sz ops os k (upd f d undef) H Q):WO P G K sz ops (⟨some d,op,ty,pos,af,some (j,want)⟩::os) k f H Q:=⟨fun t E=>by
 obtain⟨t',Z,h4⟩:=jJ (s:=⟨t,sz,H⟩) (d:=some d) (v:=undef) hd;obtain⟨n,e,s',O,U⟩:=h.out t' (by rw[h4,E];rfl);refine⟨n,e,s',?_,U⟩;have hw:aW ops ⟨some d,op,ty,pos,af,some (j,want)⟩ t=false:=by
  unfold aW;have:lR ops t j=none:=by rw[←hy,←E];rfl
  simp only[this];cases want<;>rfl
 have A:step P G (call P G K n) ops ⟨some d,op,ty,pos,af,some (j,want)⟩ ⟨t,sz,H⟩=St.put ⟨t,sz,H⟩ (some d) undef:=by unfold step;simp only[hw,cond_false]
 rw[bS,A,Z];exact O⟩
theorem wo_gsT{d:Tmp}(A:cy ops f j=some v)(hd:Nat.ble (d+1) sz=true)(E:v=true->WO P G K sz ops (⟨some d,op,ty,pos,af,none⟩::os) k f H Q)(O:v=false->WO P G K sz ops os k (upd f d undef) H Q):
  WO P G K sz ops (⟨some d,op,ty,pos,af,some (j,true)⟩::os) k f H Q:=by
 cases v with
 |true=>exact aV A V (E V)
 |false=>exact wo_gf A V hd (O V)
theorem eI{d:Tmp}(A:cy ops f j=some v)(hd:Nat.ble (d+1) sz=true)(E:v=false->WO P G K sz ops (⟨some d,op,ty,pos,af,none⟩::os) k f H Q)(O:v=true->WO P G K sz ops os k (upd f d undef) H Q):
  WO P G K sz ops (⟨some d,op,ty,pos,af,some (j,false)⟩::os) k f H Q:=by
 cases v with
 |true=>exact wo_gf A V hd (O V)
 |false=>exact aV A V (E V)
end
section
variable {P:Program} {ρ:Operand->Value} {d:Option Tmp} {ty:TypeId} {pos:String} {af:Array Edge} {gd:Option (Nat×Bool)} {H:Heap}
theorem aI{c a b:Operand}{t:Bool}{v:Value}(hc:ρ c= .bool t)(A:t=true)(E:ρ a=v):AP P ρ ⟨d,.pick c a b,ty,pos,af,gd⟩ H (.val v,H):=by refine⟨?_⟩;show gn ρ c a b H=_;unfold gn;rw[hc,A,←E];rfl
theorem bz{c a b:Operand}{t:Bool}{v:Value}(hc:ρ c= .bool t)(A:t=false)(E:ρ b=v):AP P ρ ⟨d,.pick c a b,ty,pos,af,gd⟩ H (.val v,H):=by refine⟨?_⟩;show gn ρ c a b H=_;unfold gn;rw[hc,A,←E];rfl
def el(op:BinOp)(t:TypeId)(x y:Operand)(a b:Bool):Sem Next:=
 ((eqGuard op t x y (.bool a) (.bool b))>>=fun _=>binOp op t (.bool a) (.bool b))>>=fun r=>Pure.pure (Next.value r)
theorem ap_boolEq{t yt:TypeId}{x y:Operand}{a b:Bool}(E:ρ x= .bool a)(O:ρ y= .bool b)(A: ∀a b:Bool,aB P (el .eql t x y a b)=some (.value (.bool (a==b)))):AP P ρ ⟨d,.binOp .eql t x y yt,ty,pos,af,gd⟩ H (.val (.bool (a==b)),H):=by
 refine⟨?_⟩;show aBin P ρ _ .eql t (ρ x) y H=_;rw[E];show bA P ρ _ H=_;unfold bA;have U:((Op.binOp .eql t x y yt).operands.toList.all fun x=>jr (ρ x))=true:=by simp[Op.operands,E,O,jr,dx]
 simp only[U,cond_true];have Z:aB P (execOp ρ ⟨d,.binOp .eql t x y yt,ty,pos,af,gd⟩)=some (.value (.bool (a==b))):=by rw[←A a b];unfold execOp el;simp only[E,O]
 rw[Z];rfl
end
end Go.R
end
noncomputable section
namespace Go.R
open Go.RowKit
def KX(ex:FuncId):bp:=fun f args _=>match args with
 | []=>bif Nat.beq f ex then some (.bool true) else none
 |_=>none
theorem kx_ok{P:Program}{ex:FuncId}(h: ∀w,Calls P ex #[] w fun e w'=>e= .returned (.bool true)/\Below w.heap.size w w'):gI P 0 (KX ex):=by
 intro f args H v A;unfold KX at A;split at A
 ·cases O:Nat.beq f ex with
  |false=>rw[O]at A;cases A
  |true=>
   rw[O]at A
   simp only[cond_true,a02]at A
   subst A
   have:=a07 O
   subst this
   refine⟨V,V,fun μ E w hc _ _=>?_⟩
   have:E= #[]:=by cases E;simp_all
   subst this
   exact h w
 cases A
end Go.R
end
noncomputable section
namespace Go.R
abbrev Fz:=Nat->Option AObj
abbrev Fp:=List (Nat×AObj)
def Fz.le(F F':Fz):Prop:= ∀b o,F b=some o->F' b=some o
theorem Fz.le_refl(F:Fz):F.le F:=fun _ _ h=>h
theorem Fz.le_trans{A B C:Fz}(h:A.le B)(k:B.le C):A.le C:=fun b o x=>k b o (h b o x)
def Fz.add(F:Fz)(b:Nat)(o:AObj):Fz:=fun j=>bif Nat.beq b j then some o else F j
def Fz.addL(F:Fz):Fp->Fz
 | []=>F
 |(b,o)::p=>(F.addL p).add b o
abbrev in64(n:Int):Prop:= -9223372036854775808<=n/\n<9223372036854775808
structure Base where
 n0:Nat
 W:List Nat
 lg:List Nat
def Base.of(H:Heap)(W:List Nat):Base:=⟨H.next,W,H.log⟩
structure HS(B:Base)(F:Fz)(H:Heap)(L R:List Fp):Prop where
 fz: ∀b o,F b=some o->H.get b=some o/\b<H.next
 own: ∀p,p∈L\/p∈R->∀b o,(b,o)∈p->H.get b=some o/\b<H.next/\F b=none
 nd:((L++R).flatten.map Prod.fst).Nodup
 n0:B.n0<=H.next
 log: ∀b,b∈H.log->b∈B.lg\/B.n0<=b\/b∈B.W
 mine: ∀p,p∈L->∀b o,(b,o)∈p->B.n0<=b\/b∈B.W
theorem gu{α:Type}: ∀(L:List (List α)) (i:Nat) (p:List α),L[i]?=some p->∃A C,L=A++p::C/\∀q,L.set i q=A++q::C
 | [],_,_,h=>by simp at h
 |x::L,0,p,h=>by simp at h;subst h;exact⟨[],L,V,fun _=>rfl⟩
 |x::L,i+1,p,h=>by obtain⟨A,C,E,O⟩:=gu L i p (by simpa using h);exact⟨x::A,C,by rw[E];rfl,fun q=>by rw[a1J,O];rfl⟩
theorem nu{α:Type}(L:List (List α))(i:Nat)(p q:List α)(h:L[i]?=some p): ∃A C,L=A++p::C/\L.set i q=A++q::C:=by obtain⟨A,C,E,O⟩:=gu L i p h;exact⟨A,C,E,O q⟩
section
variable {B:Base} {F F':Fz} {H H':Heap} {L R:List Fp}
theorem HS.relog(h:HS B F H L R){l:List Nat}(A: ∀b,b∈l->b∈B.lg\/B.n0<=b\/b∈B.W):HS B F {H with log:=l} L R:=⟨h.fz,h.own,h.nd,h.n0,A,h.mine⟩
theorem HS.log0(h:HS B F H L R):HS B F {H with log:=[]} L R:=h.relog fun b A=>by simp at A
theorem HS.turn(h:HS B F H L R){i:Nat}{p q:Fp}(hi:L[i]?=some p)(hn:H.next<=H'.next)
  (a6: ∀b,b<H.next->(∀o,(b,o)∉p)->H'.get b=H.get b)
  (hq: ∀b o,(b,o)∈q->H'.get b=some o/\b<H'.next/\(H.next<=b\/∃o',(b,o')∈p)) (b0:(q.map Prod.fst).Nodup)
  (bw: ∀b,b∈H'.log->b∈H.log\/H.next<=b\/∃o,(b,o)∈p):HS B F H' (L.set i q) R:=by
 obtain⟨A,C,e1,e2⟩:=nu L i p q hi
 have a2:p∈L:=a0p hi
 have U:=h.nd
 rw[e1]at U
 have a7: ∀x,x∈L.set i q\/x∈R->x=q\/((x∈L\/x∈R)/\∀b o o',(b,o)∈x->(b,o')∉p):=by
  intro x E;have key: ∀x,x∈A\/x∈C\/x∈R->∀b o o',(b,o)∈x->(b,o')∉p:=by
   intro x E b o o' O ar;simp only[a0d,a0w,a0R,a0X,a0G,a1w,a0e]at U;have ax:b∈p.map Prod.fst:=a0v.2 ⟨_,ar,V⟩;have bn:b∈x.map Prod.fst:=a0v.2 ⟨_,O,V⟩;rcases E with E|E|E
   ·have:b∈A.flatten.map Prod.fst:=a0v.2 ⟨(b,o),a0M.2 ⟨x,E,O⟩,V⟩;exact U.2.2 b this b (.inl ax) V
   ·have:b∈C.flatten.map Prod.fst:=a0v.2 ⟨(b,o),a0M.2 ⟨x,E,O⟩,V⟩;exact U.2.1.2.2 b ax b (.inl this) V
   have:b∈R.flatten.map Prod.fst:=a0v.2 ⟨(b,o),a0M.2 ⟨x,E,O⟩,V⟩;exact U.2.1.2.2 b ax b (.inr this) V
  rw[e2]at E;rcases E with E|E
  ·rcases a0e.1 E with E|E
   ·exact .inr ⟨.inl (by rw[e1];exact a0e.2 (.inl E)),key x (.inl E)⟩
   rcases a0o.1 E with rfl|E
   ·exact .inl V
   exact .inr ⟨.inl (by rw[e1];exact a0e.2 (.inr (a0g _ E))),key x (.inr (.inl E))⟩
  exact .inr ⟨.inr E,key x (.inr (.inr E))⟩
 have bb: ∀b o,(b,o)∈p->F b=none/\b<H.next:=fun b o O=>⟨(h.own p (.inl a2) b o O).2.2,(h.own p (.inl a2) b o O).2.1⟩
 refine⟨fun b o O=>?_,fun x E b o O=>?_,?_,a0k h.n0 hn,fun b O=>?_,fun x E b o O=>?_⟩
 ·obtain⟨Z,h2⟩:=h.fz b o O;refine⟨?_,a10 h2 hn⟩;rw[a6 b h2 fun o' a1=>by rw[(bb b o' a1).1]at O;cases O];exact Z
 ·rcases a7 x E with rfl|⟨bn,hne⟩
  ·obtain⟨Z,h2,h3⟩:=hq b o O;refine⟨Z,h2,?_⟩;rcases h3 with h3|⟨o',a1⟩
   ·cases hf:F b with
    |none=>rfl
    |some z=>have:=(h.fz b z hf).2;omega
   exact(bb b o' a1).1
  obtain⟨Z,h2,h3⟩:=h.own x bn b o O;exact⟨by rw[a6 b h2 fun o'=>hne b o o' O];exact Z,a10 h2 hn,h3⟩
 ·rw[e2];have bf: ∀x,x∈A\/x∈C\/x∈R->∀b,b∈x.map Prod.fst->b<H.next/\∀o',(b,o')∉p:=by
   intro x E b O;obtain⟨⟨b',o⟩,ar,rfl⟩:=a0v.1 O;have bt:x∈L.set i q\/x∈R:=by
    rw[e2];rcases E with E|E|E
    ·exact .inl (a0e.2 (.inl E))
    ·exact .inl (a0e.2 (.inr (a0g _ E)))
    exact .inr E
   have b1:x∈L\/x∈R:=by
    rw[e1];rcases E with E|E|E
    ·exact .inl (a0e.2 (.inl E))
    ·exact .inl (a0e.2 (.inr (a0g _ E)))
    exact .inr E
   refine⟨(h.own x b1 b' o ar).2.1,fun o' a1=>?_⟩;have a0:=U;simp only[a0d,a0w,a0R,a0X,a0G,a1w,a0e]at a0;have ax:b'∈p.map Prod.fst:=a0v.2 ⟨_,a1,V⟩;rcases E with E|E|E
   ·exact a0.2.2 b' (a0v.2 ⟨(b',o),a0M.2 ⟨x,E,ar⟩,V⟩) b' (.inl ax) V
   ·exact a0.2.1.2.2 b' ax b' (.inl (a0v.2 ⟨(b',o),a0M.2 ⟨x,E,ar⟩,V⟩)) V
   exact a0.2.1.2.2 b' ax b' (.inr (a0v.2 ⟨(b',o),a0M.2 ⟨x,E,ar⟩,V⟩)) V
  have a5: ∀(c_:List Fp) b,b∈c_.flatten.map Prod.fst->∃x,x∈c_/\b∈x.map Prod.fst:=by intro c_ b O;obtain⟨y,hy,rfl⟩:=a0v.1 O;obtain⟨x,E,b2⟩:=a0M.1 hy;exact⟨x,E,a0v.2 ⟨y,b2,V⟩⟩
  have bl: ∀b,b∈q.map Prod.fst->H.next<=b\/∃o',(b,o')∈p:=by intro b O;obtain⟨⟨b',o⟩,ar,rfl⟩:=a0v.1 O;exact(hq b' o ar).2.2
  simp only[a0d,a0w,a0R,a0X,a0G,a1w,a0e]at U⊢;obtain⟨n1,⟨n2,⟨n3,n4,n5⟩,n6⟩,n7⟩:=U;refine⟨n1,⟨b0,⟨n3,n4,n5⟩,fun a ha b O a4=>?_⟩,fun a ha b O a4=>?_⟩
  ·subst a4;have E: ∃x,(x∈A\/x∈C\/x∈R)/\a∈x.map Prod.fst:=by
    rcases O with O|O
    ·obtain⟨x,E,Z⟩:=a5 C a O;exact⟨x,.inr (.inl E),Z⟩
    obtain⟨x,E,Z⟩:=a5 R a O;exact⟨x,.inr (.inr E),Z⟩
   obtain⟨x,E,Z⟩:=E;obtain⟨h2,h3⟩:=bf x E a Z;rcases bl a ha with h4|⟨o',h4⟩
   ·omega
   exact h3 o' h4
  subst a4;rcases O with O|O
  ·obtain⟨x,E,Z⟩:=a5 A a ha;obtain⟨h2,h3⟩:=bf x (.inl E) a Z;rcases bl a O with h4|⟨o',h4⟩
   ·omega
   exact h3 o' h4
  exact n7 a ha a (.inr O) V
 ·rcases bw b O with Z|Z|⟨o,Z⟩
  ·exact h.log b Z
  ·exact .inr (.inl (a0k h.n0 Z))
  exact .inr (h.mine p a2 b o Z)
 have bt:=a7 x (.inl E)
 rcases bt with rfl|⟨_,_⟩
 ·rcases (hq b o O).2.2 with h3|⟨o',h3⟩
  ·exact .inl (a0k h.n0 h3)
  exact h.mine p a2 b o' h3
 rw[e2]at E
 rcases a0e.1 E with E|E
 ·exact h.mine x (by rw[e1];exact a0e.2 (.inl E)) b o O
 rcases a0o.1 E with rfl|E
 ·rcases (hq b o O).2.2 with h3|⟨o',h3⟩
  ·exact .inl (a0k h.n0 h3)
  exact h.mine p a2 b o' h3
 exact h.mine x (by rw[e1];exact a0e.2 (.inr (a0g _ E))) b o O
theorem HS.cons(h:HS B F H L R):HS B F H ([]::L) R:=
 ⟨h.fz,fun p A b o E=>by
  rcases A with A|A
  ·rcases a0o.1 A with rfl|A
   ·simp at E
   exact h.own p (.inl A) b o E
  ·exact h.own p (.inr A) b o E,by simpa using h.nd,h.n0,h.log,fun p A b o E=>by
  rcases a0o.1 A with rfl|A
  ·simp at E
  exact h.mine p A b o E⟩
theorem HS.snoc(h:HS B F H L R):HS B F H (L++[[]]) R:=
 ⟨h.fz,fun p A b o E=>by
  rcases A with A|A
  ·rcases a0e.1 A with A|A
   ·exact h.own p (.inl A) b o E
   simp at A;subst A;simp at E
  ·exact h.own p (.inr A) b o E,by simpa using h.nd,h.n0,h.log,fun p A b o E=>by
  rcases a0e.1 A with A|A
  ·exact h.mine p A b o E
  simp at A;subst A;simp at E⟩
theorem HS.push(h:HS B F H L R)(o:AObj):HS B F (H.push o) (L++[[(H.next,o)]]) R:=by
 have E:=(h.snoc).turn (H':=H.push o) (i:=L.length) (p:=[]) (q:=[(H.next,o)]) (by simp) (by simp)
  (fun b A _=>Heap.get_push_ne _ _ M) (fun b o' A=>by
   simp at A;obtain⟨rfl,rfl⟩:=A;exact⟨Heap.get_push_same _ _,by simp,.inl (a08 _)⟩) (by simp) (fun b A=> .inl (by simpa using A))
 simpa using E
theorem HS.put(h:HS B F H L R){i b:Nat}{o o':AObj}(hi:L[i]?=some [(b,o)]):HS B F (H.put b o') (L.set i [(b,o')]) R:=
 h.turn hi (by simp) (fun c _ E=>Heap.get_put_ne _ _ fun e=>E o (by simp[e])) (fun c O A=>by
  simp at A;obtain⟨rfl,rfl⟩:=A;have:=(h.own _ (.inl (a0p hi)) c o (by simp)).2.1;exact⟨Heap.get_put_same _ _ _,by simpa using this,.inr ⟨o,by simp⟩⟩) (by simp) (fun c hc=>by
  rw[Heap.log_put]at hc;rcases a0o.1 hc with rfl|hc
  ·exact .inr (.inr ⟨o,by simp⟩)
  exact .inl hc)
theorem HS.get(h:HS B F H L R){i b:Nat}{p:Fp}{o:AObj}(hi:L[i]?=some p)(A:(b,o)∈p):H.get b=some o:=(h.own p (.inl (a0p hi)) b o A).1
theorem HS.drop(h:HS B F H L R){i:Nat}{p:Fp}(hi:L[i]?=some p):HS B F H (L.set i []) R:=
 h.turn hi (a08 _) (fun _ _ _=>rfl) (fun b o A=>by simp at A) (by simp) (fun b A=> .inl A)
theorem addL_get{p:Fp}: ∀{b:Nat} {o:AObj},(F.addL p) b=some o->F b=some o\/(b,o)∈p:=by
 induction p with
 |nil=>intro b o h;exact .inl h
 |cons x p ih=>
  obtain⟨E,O⟩:=x
  intro b o h
  simp only[Fz.addL,Fz.add]at h
  cases A:Nat.beq E b with
  |true=>
   rw[A]at h;simp only[cond_true,a02]at h;subst h
   have:=a07 A;subst this
   exact .inr (by simp)
  |false=>
   rw[A]at h
   rcases ih h with h1|h1
   ·exact .inl h1
   exact .inr (a0g _ h1)
theorem addL_of{p:Fp}: ∀{b:Nat} {o:AObj},(p.map Prod.fst).Nodup->(b,o)∈p->(F.addL p) b=some o:=by
 induction p with
 |nil=>intro b o _ h;simp at h
 |cons x p ih=>
  obtain⟨E,Z⟩:=x
  intro b o A h
  simp only[a1l,List.nodup_cons]at A
  simp only[Fz.addL,Fz.add]
  rcases a0o.1 h with e|h
  ·injection e with e1 e2;subst e1 e2;rw[a0Y];rfl
  have O:Nat.beq E b=false:=by
   cases U:Nat.beq E b with
   |false=>rfl
   |true=>have:=a07 U;subst this;exact absurd (a0v.2 ⟨_,h,V⟩) A.1
  rw[O];exact ih A.2 h
theorem addL_le{p:Fp}(h: ∀b o,(b,o)∈p->F b=none):F.le (F.addL p):=by
 induction p with
 |nil=>exact F.le_refl
 |cons x p ih=>
  obtain⟨E,o0⟩:=x
  intro b o A
  have O:=ih (fun b o U=>h b o (a0g _ U)) b o A
  simp only[Fz.addL,Fz.add]
  cases Z:Nat.beq E b with
  |false=>exact O
  |true=>
   have:=a07 Z;subst this
   rw[h E o0 (by simp)]at A;cases A
theorem HS.nodup_of(h:HS B F H L R){p:Fp}(E:p∈L):(p.map Prod.fst).Nodup:=by have:=h.nd;obtain⟨A,C,rfl⟩:=List.append_of_mem E;simp only[a0d,a0w,a0R,a0X,a0G,a1w]at this;exact this.2.1.1
theorem HS.freeze(h:HS B F H L R){i:Nat}{p:Fp}(hi:L[i]?=some p): ∃F',F.le F'/\HS B F' H (L.set i []) R/\∀b o,(b,o)∈p->F' b=some o:=by
 have an:p∈L:=a0p hi;have ar:=addL_le (F:=F) (p:=p) fun b o O=>(h.own p (.inl an) b o O).2.2
 have hd:=h.drop hi;have ax:=h.nodup_of an;refine⟨F.addL p,ar,⟨fun b o O=>?_,fun x E b o O=>?_,hd.nd,hd.n0,hd.log,hd.mine⟩,fun b o O=>addL_of ax O⟩
 ·rcases addL_get O with U|U
  ·exact h.fz b o U
  have:=h.own p (.inl an) b o U;exact⟨this.1,this.2.1⟩
 obtain⟨U,h2,h3⟩:=hd.own x E b o O;refine⟨U,h2,?_⟩;cases hq:F.addL p b with
 |none=>rfl
 |some z=>
  exfalso
  rcases addL_get hq with h4|h4
  ·rw[h3]at h4;cases h4
  ·--disjoint
   obtain⟨A,C,e1,e2⟩:=nu L i p [] hi;have Z:=h.nd;rw[e1]at Z;simp only[a0d,a0w,a0R,a0X,a0G,a1w,a0e]at Z;have al:b∈p.map Prod.fst:=a0v.2 ⟨_,h4,V⟩;rcases E with E|E
   ·rw[e2]at E;rcases a0e.1 E with E|E
    ·exact Z.2.2 b (a0v.2 ⟨(b,o),a0M.2 ⟨x,E,O⟩,V⟩) b (.inl al) V
    rcases a0o.1 E with rfl|E
    ·simp at O
    exact Z.2.1.2.2 b al b (.inl (a0v.2 ⟨(b,o),a0M.2 ⟨x,E,O⟩,V⟩)) V
   exact Z.2.1.2.2 b al b (.inr (a0v.2 ⟨(b,o),a0M.2 ⟨x,E,O⟩,V⟩)) V
theorem HS.call(h:HS B F H L R):HS (.of H []) F H [] (L++R):=
 ⟨h.fz,fun p A b o E=>by
  rcases A with A|A
  ·simp at A
  exact h.own p (a0e.1 A) b o E,by simpa using h.nd,a08 _,fun b E=> .inl E,fun p A=>by simp at A⟩
theorem HS.back{b_:List Fp}{U:Heap}(h:HS B F H L R)(Z:U=H)(k:HS (.of U []) F' H' b_ (L++R)):HS B F' H' (L++b_) R:=by
 subst Z;refine⟨k.fz,fun p A b o E=>k.own p ?_ b o E,?_,a0k h.n0 k.n0,fun b E=>?_,fun p A b o E=>?_⟩
 ·rcases A with A|A
  ·rcases a0e.1 A with A|A
   ·exact .inr (a0e.2 (.inl A))
   exact .inl A
  exact .inr (a0e.2 (.inr A))
 ·have:=k.nd;have O:((L++b_++R).flatten.map Prod.fst).Perm ((b_++(L++R)).flatten.map Prod.fst):=by simp only[a0R,a0G,a0d];exact a1d _ _ _
  exact O.nodup_iff.2 this
 ·rcases k.log b E with h1|h1|h1
  ·exact h.log b h1
  ·exact .inr (.inl (a0k h.n0 h1))
  simp[Base.of]at h1
 rcases a0e.1 A with A|A
 ·exact h.mine p A b o E
 rcases k.mine p A b o E with h1|h1
 ·exact .inl (a0k h.n0 h1)
 simp[Base.of]at h1
theorem HS.callOwn(h:HS B F H L R){i:Nat}{p:Fp}(hi:L[i]?=some p):HS (.of H (p.map Prod.fst)) F H [p] (L.set i []++R):=by
 obtain⟨A,C,Z,e2⟩:=nu L i p [] hi;have an:p∈L:=a0p hi;refine⟨h.fz,fun x E b o O=>?_,?_,a08 _,fun b O=> .inl O,fun x E b o O=>?_⟩
 ·rcases E with E|E
  ·simp at E;subst E;exact h.own x (.inl an) b o O
  rw[e2]at E;simp only[a0d,a0w,a0e,a0o]at E;rcases E with E|rfl|E|E
  ·exact h.own x (.inl (by rw[Z];simp[E])) b o O
  ·simp at O
  ·exact h.own x (.inl (by rw[Z];simp[E])) b o O
  exact h.own x (.inr E) b o O
 ·have:=h.nd;rw[Z]at this;rw[e2];have U:(([p]++(A++[]::C++R)).flatten.map Prod.fst).Perm ((A++p::C++R).flatten.map Prod.fst):=by simp only[a0R,a0X,List.flatten_nil,a0l,a0i,a0G,a0d];exact a1d _ _ _
  exact U.nodup_iff.2 this
 simp at E;subst E;exact .inr (a0v.2 ⟨_,O,V⟩)
theorem HS.backOwn{H0:Heap}{W:List Nat}{p q:Fp}{b_:List Fp}(h:HS B F H L R){i:Nat}(hi:L[i]?=some p)(hH:H0=H)(hW: ∀b,b∈W->b∈p.map Prod.fst)(k:HS (.of H0 W) F' H' (q::b_) (L.set i []++R)):HS B F' H' (L.set i q++b_) R:=by
 subst hH;obtain⟨A,C,e1,e2⟩:=gu L i p hi;have a1:p∈L:=a0p hi;have al: ∀b,b∈W->B.n0<=b\/b∈B.W:=fun b O=>by obtain⟨⟨b',o⟩,aA,rfl⟩:=a0v.1 (hW b O);exact h.mine p a1 b' o aA
 have a0: ∀x,x∈A++q::C++b_\/x∈R->x∈q::b_\/x∈A++[]::C++R:=by
  intro x E;simp only[a0d,a0w,a0e,a0o]at E⊢;rcases E with(E|E|E|E)|E
  ·exact .inr (.inl E)
  ·exact .inl (.inl E)
  ·exact .inr (.inr (.inr (.inl E)))
  ·exact .inl (.inr E)
  exact .inr (.inr (.inr (.inr E)))
 have an: ∀x,x∈q::b_->∀b o,(b,o)∈x->B.n0<=b\/b∈B.W:=fun x E b o O=>by
  rcases k.mine x E b o O with U|U
  ·exact .inl (a0k h.n0 U)
  exact al b U
 rw[e2]at k⊢;refine⟨k.fz,fun x E b o O=>k.own x (a0 x E) b o O,?_,a0k h.n0 k.n0,fun b O=>?_,fun x E b o O=>?_⟩
 ·have:=k.nd;have Z:((A++q::C++b_++R).flatten.map Prod.fst).Perm ((q::b_++(A++[]::C++R)).flatten.map Prod.fst):=by
   simp only[a0R,a0X,a0i,a0G,a0d,a0w];have U: ∀(a c m q r:List Nat),(a++(q++(c++(m++r)))).Perm (q++(m++(a++(c++r)))):=by intro a c m q r;refine List.Perm.trans (a1d a q _) (List.Perm.append_left q ?_);refine List.Perm.trans (List.Perm.append_left a (a1d c m r)) ?_;exact a1d a m _
   exact U _ _ _ _ _
  exact Z.nodup_iff.2 this
 ·rcases k.log b O with U|U|U
  ·exact h.log b U
  ·exact .inr (.inl (a0k h.n0 U))
  exact .inr (al b U)
 simp only[a0d,a0w,a0e,a0o]at E;rcases E with E|rfl|E|E
 ·exact h.mine x (by rw[e1];simp[E]) b o O
 ·exact an x (by simp) b o O
 ·exact h.mine x (by rw[e1];simp[E]) b o O
 exact an x (by simp[E]) b o O
end
end Go.R
end
noncomputable section
namespace Go.R
class Rp(α:Type) where
 sz:Nat
 rep:Fz->List Value->α->Prop
 len: ∀{F:Fz} {cs:List Value} {x:α},rep F cs x->cs.length=sz
 one: ∀{F:Fz} {cs:List Value} {x:α},rep F cs x->lQ Value.oneCell' cs=true
 mono: ∀{F F':Fz} {cs:List Value} {x:α},F.le F'->rep F cs x->rep F' cs x
def RL{α:Type} [Rp α](F:Fz):List Value->List α->Prop
 |cs,[]=>cs=[]
 |cs,x::l=> ∃c r,cs=c++r/\Rp.rep F c x/\RL F r l
theorem allL_app{p:Value->Bool}(a b:List Value):lQ p (a++b)=(lQ p a&&lQ p b):=by simp only[nM,a1H]
section
variable {α:Type} [Rp α] {F F':Fz}
theorem RL.length: ∀{l:List α} {cs:List Value},RL F cs l->cs.length=l.length *Rp.sz α
 | [],cs,h=>by simp only[RL]at h;subst h;simp
 |x::l,cs,h=>by obtain⟨c,r,rfl,A,E⟩:=h;rw[a00,Rp.len A,RL.length E,a01,a1s,Nat.add_comm]
theorem RL.mono(A:F.le F'): ∀{l:List α} {cs:List Value},RL F cs l->RL F' cs l
 | [],_,h=>h
 |_::_,_,⟨c,r,e,h1,h2⟩=>⟨c,r,e,Rp.mono A h1,RL.mono A h2⟩
theorem RL.one: ∀{l:List α} {cs:List Value},RL F cs l->lQ Value.oneCell' cs=true
 | [],cs,h=>by simp only[RL]at h;subst h;rfl
 |x::l,cs,h=>by obtain⟨c,r,rfl,A,E⟩:=h;rw[allL_app,Rp.one A,RL.one E];rfl
theorem RL.append: ∀{l m:List α} {cs A:List Value},RL F cs l->RL F A m->RL F (cs++A) (l++m)
 | [],_,cs,_,h,k=>by simp only[RL]at h;subst h;exact k
 |_::_,_,_,_,⟨c,r,e,h1,h2⟩,k=>⟨c,_,by rw[e,a0d],h1,RL.append h2 k⟩
theorem RL.single{x:α}{c:List Value}(h:Rp.rep F c x):RL F c [x]:=⟨c,[],by simp,h,V⟩
theorem RL.take: ∀{l:List α} {cs:List Value} (n:Nat),RL F cs l->RL F (cs.take (n *Rp.sz α)) (l.take n)
 |l,cs,0,h=>by simp[RL]
 | [],cs,n+1,h=>by simp only[RL]at h;subst h;simp[RL]
 |x::l,cs,n+1,h=>by
  obtain⟨c,r,rfl,A,U⟩:=h;refine⟨c,r.take (n *Rp.sz α),?_,A,RL.take n U⟩;rw[List.take_append,Rp.len A];have E:List.take ((n+1) *Rp.sz α) c=c:=a0q (by rw[Rp.len A,a1s];omega);have O:(n+1) *Rp.sz α-Rp.sz α=n *Rp.sz α:=by rw[a1s];omega
  rw[E,O]
theorem RL.drop: ∀{l:List α} {cs:List Value} (n:Nat),RL F cs l->RL F (cs.drop (n *Rp.sz α)) (l.drop n)
 |l,cs,0,h=>by simpa using h
 | [],cs,n+1,h=>by simp only[RL]at h;subst h;simp[RL]
 |x::l,cs,n+1,h=>by
  obtain⟨c,r,rfl,A,U⟩:=h;have:=RL.drop n U;rw[List.drop_append,Rp.len A];have E:List.drop ((n+1) *Rp.sz α) c=[]:=a1f (by rw[Rp.len A,a1s];omega);have O:(n+1) *Rp.sz α-Rp.sz α=n *Rp.sz α:=by rw[a1s];omega
  rw[E,O];exact this
theorem RL.head{l:List α}{x:α}{cs:List Value}(h:RL F cs (x::l)):Rp.rep F (cs.take (Rp.sz α)) x:=by obtain⟨c,r,rfl,A,_⟩:=h;rw[List.take_append,Rp.len A,a1Y,List.take_zero,a0l,a0q (by rw[Rp.len A];omega)];exact A
theorem RL.at{l:List α}{cs:List Value}{j:Nat}{x:α}(h:RL F cs l)(E:l[j]?=some x):Rp.rep F ((cs.drop (j *Rp.sz α)).take (Rp.sz α)) x:=by
 have A:=h.drop j;have U:=(a0m.1 E).1;have O:l.drop j=x::l.drop (j+1):=by rw[a0V U];congr 1;exact(a0m.1 E).2
 rw[O]at A;exact A.head
theorem splice_eq(cs vs:List Value)(o:Nat)(h:o+vs.length<=cs.length):aZ cs o vs=cs.take o++vs++cs.drop (o+vs.length):=by
 apply a0N;intro i;rw[bm cs o vs i h];simp only[a0d,a1D,a0S,a0C,a0F];have e:min o cs.length=o:=M
 rw[e];by_cases A:i<o
 ·rw[if_pos A,if_neg M];simp[A]
 rw[if_neg A];by_cases E:i<o+vs.length
 ·rw[if_pos M,if_pos M]
 rw[if_neg M,if_neg M];congr 1;omega
theorem RL.set{l:List α}{cs c:List Value}{j:Nat}{x:α}(h:RL F cs l)(A:j<l.length)(hc:Rp.rep F c x):RL F (aZ cs (j *Rp.sz α) c) (l.set j x):=by
 have O:=h.length;have E:j *Rp.sz α+Rp.sz α<=cs.length:=by rw[O,←a1s];exact a0B _ A
 rw[splice_eq _ _ _ (by rw[Rp.len hc];exact E),List.set_eq_take_append_cons_drop,if_pos A,Rp.len hc,a0d];refine(h.take j).append ?_;refine⟨c,_,V,hc,?_⟩;have:=h.drop (j+1);rw[a1s]at this;exact this
theorem RL.replicate{z:List Value}{x:α}(h:Rp.rep F z x): ∀n,RL F (cC n z) (List.replicate n x)
 |0=>rfl
 |n+1=>⟨z,cC n z,V,h,RL.replicate h n⟩
def Sl(F:Fz)(o:AObj)(off k:Nat)(l:List α):Prop:= ∃cs A E,o= .cells cs A E/\(E=false->off+k *Rp.sz α<=cs.length)/\l.length<=k/\RL F ((cs.drop off).take (l.length *Rp.sz α)) l/\(A=none\/A=some (Rp.sz α))
def Sv(F:Fz)(get:Nat->Option AObj)(v:Value)(l:List α):Prop:=
 (v= .slice none 0 0/\l=[])\/∃b off k o,v= .slice (some ⟨b,off,none⟩) l.length k/\get b=some o/\Sl F o off k l
def SR(F:Fz)(v:Value)(l:List α):Prop:=Sv F F v l
def OS(F:Fz)(v:Value)(l:List α)(p:Fp):Prop:=
 (v= .slice none 0 0/\l=[]/\p=[])\/∃b off k cs A,v= .slice (some ⟨b,off,none⟩) l.length k/\p=[(b,.cells cs A false)]/\Sl F (.cells cs A false) off k l
theorem Sl.mono(hF:F.le F'){o:AObj}{off k:Nat}{l:List α}(h:Sl F o off k l):Sl F' o off k l:=by obtain⟨cs,A,ro,E,O,U,Z,h5⟩:=h;exact⟨cs,A,ro,E,O,U,Z.mono hF,h5⟩
theorem SR.mono(A:F.le F'){v:Value}{l:List α}(h:SR F v l):SR F' v l:=by
 rcases h with h|⟨b,off,k,o,h1,h2,h3⟩
 ·exact .inl h
 exact .inr ⟨b,off,k,o,h1,A _ _ h2,h3.mono A⟩
theorem OS.mono(A:F.le F'){v:Value}{l:List α}{p:Fp}(h:OS F v l p):OS F' v l p:=by
 rcases h with h|⟨b,off,k,cs,opn,h1,h2,h3⟩
 ·exact .inl h
 exact .inr ⟨b,off,k,cs,opn,h1,h2,h3.mono A⟩
theorem SR.nil:SR F (.slice none 0 0) ([]:List α):= .inl ⟨V,V⟩
theorem OS.nil:OS F (.slice none 0 0) ([]:List α) []:= .inl ⟨V,V,V⟩
variable {B:Base} {H:Heap} {L R:List Fp} {v:Value} {l:List α} {p:Fp}
theorem SR.sv(h:SR F v l)(hs:HS B F H L R):Sv F H.get v l:=by
 rcases h with h|⟨b,off,k,o,h1,h2,h3⟩
 ·exact .inl h
 exact .inr ⟨b,off,k,o,h1,(hs.fz b o h2).1,h3⟩
theorem OS.sv(h:OS F v l p)(hs:HS B F H L R){i:Nat}(hi:L[i]?=some p):Sv F H.get v l:=by
 rcases h with⟨A,E,_⟩|⟨b,off,k,cs,U,A,E,O⟩
 ·exact .inl ⟨A,E⟩
 exact .inr ⟨b,off,k,_,A,hs.get hi (by rw[E];simp),O⟩
def sB:Value->Nat
 | .slice (some a) _ _=>a.block
 |_=>0
def sO:Value->Nat
 | .slice (some a) _ _=>a.off
 |_=>0
def HC(get:Nat->Option AObj)(b o:Nat)(cs:List Value):Prop:= ∃all A E,get b=some (.cells all A E)/\(all.drop o).take cs.length=cs
theorem Sv.at{get:Nat->Option AObj}(h:Sv F get v l){j:Nat}{x:α}(A:l[j]?=some x): ∃cs,Rp.rep F cs x/\HC get (sB v) (sO v+j *Rp.sz α) cs:=by
 rcases h with⟨_,rfl⟩|⟨b,off,k,o,rfl,U,cs,O,ro,rfl,h3,h4,Z,h6⟩
 ·simp at A
 have hj:=(a0m.1 A).1;have E:=Z.at A;refine⟨_,E,cs,O,ro,U,?_⟩;rw[Rp.len E];show(cs.drop (off+j *Rp.sz α)).take (Rp.sz α)=(((cs.drop off).take (l.length *Rp.sz α)).drop (j *Rp.sz α)).take (Rp.sz α);rw[a21,List.take_take,a23];congr 1;have:Rp.sz α<=l.length *Rp.sz α-j *Rp.sz α:=by have:=a0B (Rp.sz α) (show j+1<=l.length from hj);rw[a1s]at this;omega
 omega
theorem HC.get{get:Nat->Option AObj}{b o:Nat}{cs:List Value}(h:HC get b o cs){i:Nat}{v:Value}(A:cs[i]?=some v): ∃all E O,get b=some (.cells all E O)/\all[o+i]?=some v:=by
 obtain⟨all,E,O,U,Z⟩:=h;refine⟨all,E,O,U,?_⟩;rw[←Z,a0C]at A;split at A
 ·rw[a0F]at A;exact A
 cases A
theorem HC.part{get:Nat->Option AObj}{b o:Nat}{cs:List Value}(h:HC get b o cs){i n:Nat}(hn:i+n<=cs.length): ∃all A O,get b=some (.cells all A O)/\(all.drop (o+i)).take n=(cs.drop i).take n/\((cs.drop i).take n).length=n:=by
 obtain⟨all,A,O,U,Z⟩:=h;refine⟨all,A,O,U,?_,by rw[a0S,a1y];omega⟩;have E:(((all.drop o).take cs.length).drop i).take n=(cs.drop i).take n:=by rw[Z]
 rw[a21,List.take_take,a23]at E;rw[show min n (cs.length-i)=n by omega]at E;exact E
theorem HC.same{get:Nat->Option AObj}{b:Nat}{cs:List Value}{A:Option Nat}{E:Bool}(h:get b=some (.cells cs A E)):HC get b 0 cs:=⟨cs,A,E,h,by simp⟩
instance :Rp Int where
 sz:=1
 rep _ cs n:=cs=[.int .i64 n]/\in64 n
 len:=by rintro F cs x ⟨rfl,_⟩;rfl
 one:=by rintro F cs x ⟨rfl,_⟩;rfl
 mono:=by intro F F' cs x _ h;exact h
instance :Rp Bool where
 sz:=1
 rep _ cs n:=cs=[.bool n]
 len:=by rintro F cs x rfl;rfl
 one:=by rintro F cs x rfl;rfl
 mono:=by intro F F' cs x _ h;exact h
structure Str where
 b:List UInt8
 deriving DecidableEq,Inhabited
instance :Rp Str where
 sz:=1
 rep _ cs s:=cs=[.string ⟨⟨s.b⟩⟩]
 len:=by rintro F cs x rfl;rfl
 one:=by rintro F cs x rfl;rfl
 mono:=by intro F F' cs x _ h;exact h
structure U64 where
 n:Int
 deriving DecidableEq,Inhabited
instance :Rp U64 where
 sz:=1
 rep _ cs s:=cs=[.int .u64 s.n]/\0<=s.n/\s.n<18446744073709551616
 len:=by rintro F cs x ⟨rfl,_⟩;rfl
 one:=by rintro F cs x ⟨rfl,_⟩;rfl
 mono:=by intro F F' cs x _ h;exact h
instance :Rp UInt8 where
 sz:=1
 rep _ cs s:=cs=[.int .u8 s.toNat]
 len:=by rintro F cs x rfl;rfl
 one:=by rintro F cs x rfl;rfl
 mono:=by intro F F' cs x _ h;exact h
theorem Sv.shape{get:Nat->Option AObj}{v:Value}{l:List α}(h:Sv F get v l): ∃a k,v= .slice a l.length k:=by
 rcases h with⟨rfl,rfl⟩|⟨b,off,k,o,rfl,_⟩
 ·exact⟨none,0,V⟩
 exact⟨_,k,V⟩
theorem OS.shape{v:Value}{l:List α}{p:Fp}(h:OS F v l p): ∃a k,v= .slice a l.length k:=by
 rcases h with⟨rfl,rfl,_⟩|⟨b,off,k,cs,A,rfl,_⟩
 ·exact⟨none,0,V⟩
 exact⟨_,k,V⟩
instance :Rp (List α) where
 sz:=1
 rep F cs l:= ∃a k,cs=[.slice a l.length k]/\SR F (.slice a l.length k) l
 len:=by rintro F cs x ⟨a,k,rfl,_⟩;rfl
 one:=by rintro F cs x ⟨a,k,rfl,h⟩;rfl
 mono:=by rintro F F' cs x hF ⟨a,k,rfl,h⟩;exact⟨a,k,V,h.mono hF⟩
end
end Go.R
end
noncomputable section
namespace Go.R
section
variable {α:Type} [Rp α] {P:Program} {ρ:Operand->Value} {d:Option Tmp} {ty:TypeId} {pos:String} {af:Array Edge} {gd:Option (Nat×Bool)} {B:Base} {F:Fz} {H:Heap} {L R:List Fp} {v:Value} {l:List α} {p:Fp}
theorem jC{x:Operand}{t e:TypeId}(O:ρ x=v)(A:P.underlying t=some (.slice e))(h:Sv F H.get v l):
  AP P ρ ⟨d,.call ⟨.builtin .len, #[x], #[t]⟩,ty,pos,af,gd⟩ H (.val (.int .i64 l.length),H):=by
 refine⟨?_⟩
 obtain⟨a,k,E⟩:=h.shape
 show ovl (aLen P t (ρ x) H) H=_
 rw[O,E]
 unfold aLen
 rw[A];rfl
theorem ap_lenS{x:Operand}{t:TypeId}{s:List UInt8}(E:ρ x= .string ⟨⟨s⟩⟩)(A:P.underlying t=some .string):
  AP P ρ ⟨d,.call ⟨.builtin .len, #[x], #[t]⟩,ty,pos,af,gd⟩ H (.val (.int .i64 s.length),H):=by
 refine⟨?_⟩
 show ovl (aLen P t (ρ x) H) H=_
 rw[E]
 unfold aLen
 rw[A]
 show ovl (some (goInt (eG s))) H=_
 rw[be];rfl
theorem cH{x i:Operand}{t e:TypeId}{ki:IntKind}{j:Int}(Z:ρ x=v)(hi:ρ i= .int ki j)(U:P.underlying t=some (.slice e))(hz:cT P e=some (Rp.sz α))(h:Sv F H.get v l)(E:0<=j:=by first|(dsimp only;omega)|omega)(A:j<l.length:=by first|(dsimp only;omega)|omega):
  AP P ρ ⟨d,.indexAddr t x i,ty,pos,af,gd⟩ H (.val (.pointer (some ⟨sB v,sO v+j.toNat *Rp.sz α,none⟩)),H):=by
 rcases h with⟨_,rfl⟩|⟨b,off,k,o,rfl,h2,cs,ar,ro,rfl,h3,O,h5,h6⟩
 ·simp at A;omega
 exact jQ Z hi U hz E A O
theorem bL{t:TypeId}{x:Operand}{b o o' i:Nat}{cs:List Value}{w:Value}(hx:ρ x= .pointer (some ⟨b,o',none⟩))(O:aggOf P t=some false)(hc:HC H.get b o cs)(U:o'=o+i)(Z:cs[i]?=some w):
  AP P ρ ⟨d,.load t x,ty,pos,af,gd⟩ H (.val w,H):=by
 subst U
 obtain⟨all,an,ro,A,E⟩:=hc.get Z
 exact ap_load1 hx O A E
theorem en{t:TypeId}{x:Operand}{b o o' i n:Nat}{cs l:List Value}(hx:ρ x= .pointer (some ⟨b,o',none⟩))(Z:aggOf P t=some true)(hs:cT P t=some n)(hc:HC H.get b o cs)(ho:o'=o+i)(hn:Nat.ble (i+n) cs.length=true)(A:dL (dX cs i) n=l):
  AP P ρ ⟨d,.load t x,ty,pos,af,gd⟩ H (.val (.agg ⟨l⟩),H):=by
 subst ho
 obtain⟨all,ax,ro,E,O,U⟩:=hc.part (a0c hn)
 rw[bu,bE]at A
 exact ap_loadN hx Z hs E (O.trans A) (by rw[←A];exact U)
theorem eP{s:TypeId}{x:Operand}{f b o o':Nat}(A:ρ x= .pointer (some ⟨b,o,none⟩))(h:jb P s (.pointer (some ⟨b,o,none⟩)) f=some (.pointer (some ⟨b,o',none⟩))):
  AP P ρ ⟨d,.fieldAddr s x f,ty,pos,af,gd⟩ H (.val (.pointer (some ⟨b,o',none⟩)),H):=by
 refine⟨?_⟩
 show ovl (jb P s (ρ x) f) H=_
 rw[A,h];rfl
theorem ap_fv{t:TypeId}{x:Operand}{f:Nat}{u w:Value}(A:ρ x=u)(h:iF P t u f=some w):AP P ρ ⟨d,.field t x f,ty,pos,af,gd⟩ H (.val w,H):=by refine⟨?_⟩;show ovl (iF P t (ρ x) f) H=_;rw[A,h];rfl
theorem ap_ex{x:Operand}{i:Nat}{u w:Value}(A:ρ x=u)(h:gU u i=some w):AP P ρ ⟨d,.extract x i,ty,pos,af,gd⟩ H (.val w,H):=by refine⟨?_⟩;show ovl (gU (ρ x) i) H=_;rw[A,h];rfl
theorem lB{t:TypeId}{A:Array (Nat×Operand)}{ps:Array (Nat×Value)}{z:List Value}{w:Value}(E:A.map (fun p=>(p.1,ρ p.2))=ps)(O:cw P t=some z)(h:aB P (Instr.build t ps)=some w):
  AP P ρ ⟨d,.build t A,ty,pos,af,gd⟩ H (.val w,H):=by
 refine⟨?_⟩
 show im P t (A.map fun p=>(p.1,ρ p.2)) H=_
 rw[E]
 unfold im
 rw[O]
 show lift P (Instr.build t ps) H=_
 unfold lift
 rw[h]
theorem ap_alloc{e:TypeId}{z:List Value}(A:cw P e=some z):AP P ρ ⟨d,.alloc e,ty,pos,af,gd⟩ H (.val (.pointer (some ⟨H.next,0,none⟩)),H.push (.cells z none false)):=by refine⟨?_⟩;show eK P e H=_;unfold eK;rw[A];rfl
theorem ap_box{e:TypeId}{x:Operand}{cs:List Value}(A:(ρ x).cells.toList=cs):AP P ρ ⟨d,.box e x,ty,pos,af,gd⟩ H (.val (.pointer (some ⟨H.next,0,none⟩)),H.push (.cells cs none false)):=by subst A;exact⟨V⟩
theorem kI{b o:Nat}{cs vs:List Value}{A:Option Nat}(O:H.get b=some (.cells cs A false))(U:o+vs.length<=cs.length)(E:lQ Value.oneCell' vs=true):H.storeL ⟨b,o,none⟩ vs=some (H.put b (.cells (aZ cs o vs) A false)):=by unfold Heap.storeL;have:Nat.ble (Nat.add o (eG vs)) (eG cs)=true:=a0t (by rw[be,be];exact U);simp only[O,this,E,a1q,cond_true]
theorem ap_st{t:TypeId}{a x:Operand}{b o n:Nat}{u:Value}{cl:List Value}{H1:Heap}(E:ρ a= .pointer (some ⟨b,o,none⟩))(Z:ρ x=u)(U:cT P t=some n)(hc:u.cells.toList=cl)(O:Nat.beq cl.length n=true)(A:H.storeL ⟨b,o,none⟩ cl=some H1):
  AP P ρ ⟨d,.store t a x,ty,pos,af,gd⟩ H (.skip,H1):=by
 refine⟨?_⟩
 show fe P t (ρ a) (ρ x) H=_
 rw[E,Z]
 unfold fe
 have:u.cells.size=cl.length:=by rw[←hc];simp
 rw[this,U]
 simp only[O,cond_true,hc,A]
 rfl
theorem HS.st(hs:HS B F H L R){i b o:Nat}{cs cl A:List Value}(hi:L[i]?=some [(b,.cells cs none false)])(U:Nat.ble (o+cl.length) cs.length=true)(E:lQ Value.oneCell' cl=true)(O:aZ cs o cl=A):
  ∃H1,H.storeL ⟨b,o,none⟩ cl=some H1/\HS B F H1 (L.set i [(b,.cells A none false)]) R:=by
 subst O
 exact⟨_,kI (hs.get hi (a0L.2 V)) (a0c U) E,hs.put hi⟩
theorem HS.hc(hs:HS B F H L R){i b:Nat}{cs:List Value}(hi:L[i]?=some [(b,.cells cs none false)]):HC H.get b 0 cs:=HC.same (hs.get hi (a0L.2 V))
theorem os_set(h:OS F v l p)(hs:HS B F H L R){i j:Nat}(hi:L[i]?=some p){x x':α}{off:Nat}{cl:List Value}(hx:l[j]?=some x)(h1:lQ Value.oneCell' cl=true)
  (hr: ∀cs,Rp.rep F cs x->off+cl.length<=cs.length/\Rp.rep F (aZ cs off cl) x'):
  ∃H1 p',H.storeL ⟨sB v,sO v+j *Rp.sz α+off,none⟩ cl=some H1/\OS F v (l.set j x') p'/\HS B F H1 (L.set i p') R/\∀b cs A,p=[(b,.cells cs A false)]->∃Z,p'=[(b,.cells Z A false)]:=by
 have hj:=(a0m.1 hx).1
 rcases h with⟨_,rfl,_⟩|⟨b,o,k,cs,A,rfl,rfl,bt,bn,bF,U,h3,h4,h5,h6⟩
 ·simp at hj
 injection U with e1 e2 e3
 subst e1 e2 e3
 replace h3:=h3 V
 have al:=h5.at hx
 have a0:=h5.length
 have a5:j *Rp.sz α+Rp.sz α<=l.length *Rp.sz α:=by rw[←a1s];exact a0B _ hj
 have bw:l.length *Rp.sz α<=k *Rp.sz α:=a0B _ h4
 obtain⟨E,g2⟩:=hr _ al
 have O:=Rp.len al
 have hb:o+j *Rp.sz α+off+cl.length<=cs.length:=by rw[O]at E;omega
 refine⟨_,_,kI (b:=b) (o:=o+j *Rp.sz α+off) (hs.get hi (a0L.2 V)) hb h1,.inr ⟨b,o,k,_,A,by rw[a0z],V,_,_,_,V,?_,by rw[a0z];exact h4,?_,h6⟩,hs.put hi,?_⟩
 ·intro _;rw[ce _ _ _ hb];exact h3
 rotate_left
 ·intro b' Z bl U;simp only[List.cons.injEq,a04,AObj.cells.injEq,and_true]at U;obtain⟨rfl,rfl,rfl⟩:=U;exact⟨_,V⟩
 rw[a0z]
 have key:((aZ cs (o+j *Rp.sz α+off) cl).drop o).take (l.length *Rp.sz α)=aZ ((cs.drop o).take (l.length *Rp.sz α)) (j *Rp.sz α) (aZ ((((cs.drop o).take (l.length *Rp.sz α)).drop (j *Rp.sz α)).take (Rp.sz α)) off cl):=by
  have hA:(aZ ((((cs.drop o).take (l.length *Rp.sz α)).drop (j *Rp.sz α)).take (Rp.sz α)) off cl).length=Rp.sz α:=by rw[ce _ _ _ E,O]
  have hB:((cs.drop o).take (l.length *Rp.sz α)).length=l.length *Rp.sz α:=a0;apply a0N;intro q;rw[bm _ _ _ _ (by rw[hA,hB];exact a5),a0C,a0F,bm _ _ _ _ hb,hA];rw[O]at E;by_cases c1:q<l.length *Rp.sz α
  ·rw[if_pos c1];by_cases c2:o+j *Rp.sz α+off<=o+q/\o+q<o+j *Rp.sz α+off+cl.length
   ·rw[if_pos c2,if_pos M,bm _ _ _ _ (by rw[O];exact E),if_pos M];congr 1;omega
   rw[if_neg c2];by_cases c3:j *Rp.sz α<=q/\q<j *Rp.sz α+Rp.sz α
   ·rw[if_pos c3,bm _ _ _ _ (by rw[O];exact E),if_neg M,a0C,if_pos M,a0F,a0C,if_pos M,a0F];congr 1;omega
   rw[if_neg c3,a0C,if_pos c1,a0F]
  rw[if_neg c1,if_neg M,a0C,if_neg c1]
 rw[key]
 exact h5.set hj g2
theorem Sv.first{x:Value}{l2:List α}(h:Sv F H.get x l2):lenA x=some l2.length/\∃new,gv H (Rp.sz α) l2.length x=some new/\RL F new l2:=by
 rcases h with⟨rfl,rfl⟩|⟨b,off,k,o,rfl,E,cs,Z,ro,rfl,h3,h4,A,h6⟩
 ·exact⟨V,[],V,V⟩
 refine⟨V,?_⟩;unfold gv;cases O:Nat.beq l2.length 0 with
 |true=>
  have:=a07 O
  have e:l2=[]:=a0j this
  subst e
  exact⟨[],V,V⟩
 |false=>
  refine⟨_,?_,A⟩
  simp only[cond_false]
  unfold Heap.loadN
  have U:=A.length
  simp only[E,bu,bE,be,U,a0Y,cond_true]
theorem os_append(h:OS F v l p)(hs:HS B F H L R){i:Nat}(hi:L[i]?=some p){x:Value}{l2:List α}{new z:List Value}{types:Array TypeId}{st xt e:TypeId}{xd:TypeDesc}{a7:Nat}
  (h0:types[0]?=some st) (h1:types[1]?=some xt) (b9:P.underlying st=some (.slice e)) (co:P.underlying xt=some xd) (ch: ∀k,xd≠ .int k) (hz:cT P e=some (Rp.sz α)) (b2:ff P e=some a7) (cp:cw P e=some z)
  (ba:Nat.beq (eG z) (Rp.sz α)=true) (a8:Nat.ble a7 4096=true) (an:Nat.beq (Rp.sz α) 0=false) (ci:lenA x=some l2.length) (hf:gv H (Rp.sz α) l2.length x=some new) (O:RL F new l2) (a2:l.length+l2.length<=2147483648):
  ∃a k H1 p',fQ P types v x H=some (.slice a (l++l2).length k,H1)/\OS F (.slice a (l++l2).length k) (l++l2) p'/\HS B F H1 (L.set i p') R:=by
 have al:L.set i p=L:=by obtain⟨A,C,e1,e2⟩:=gu L i p hi;rw[e2 p,←e1]
 have a3:=O.one
 have U:=O.length
 have c3:0<Rp.sz α:=by
  rcases a1c (Rp.sz α) with hq|hq
  ·rw[hq]at an;cases an
  exact hq
 have dk: ∀(Y:Option (Value×Heap)),(match xd with| .int _=>none|_=>Y)=Y:=by intro Y;cases xd<;>first|rfl|exact absurd V (ch _)
 unfold fQ
 simp only[h0,h1,b9,co,hz,b2,cp,ci,hf]
 rcases h with⟨rfl,rfl,rfl⟩|⟨b,o,k,cs,ar,rfl,rfl,dt,ds,d1,he,h3,h4,h5,h6⟩
 ·cases hm:Nat.beq l2.length 0 with
  |true=>
   have:l2=[]:=a0j (a07 hm)
   subst this
   exact⟨none,0,H,[],V,.nil,by rw[al];exact hs⟩
  |false=>
   have a1:Nat.ble l2.length 2147483648=true:=a0t (by simp at a2;omega)
   simp only[cond_false,ba,a1,a8,an,a1E,a1q,cond_true]
   refine⟨_,_,_,[(H.next,.cells new (some (Rp.sz α)) false)],V,.inr ⟨_,0,_,_,_,V,V,_,_,_,V,?_,by simp,?_,.inr V⟩,?_⟩
   ·intro _;show 0+l2.length *Rp.sz α<=new.length;rw[U];omega
   ·rw[a0I,a0i,←U,a0T];exact O
   refine hs.turn hi (H':=aL H new (some (Rp.sz α))) (by simp[aL]) (fun b E _=>Heap.get_push_ne _ _ M) (fun b o E=>?_) (by simp) (fun b E=> .inl (by simpa[aL] using E))
   simp at E;obtain⟨rfl,rfl⟩:=E
   exact⟨Heap.get_push_same _ _,by simp[aL],.inl (a08 _)⟩
 injection he with e1 e2 e3
 subst e1 e2 e3
 replace h3:=h3 V
 have hg:=hs.get hi (b:=b) (o:= .cells cs ar false) (by simp)
 simp only[hg]
 cases hk:Nat.ble (l.length+l2.length) k with
 |true=>
  have a9:=a0c hk
  simp only[cond_true]
  cases hm:Nat.beq l2.length 0 with
  |true=>
   have:l2=[]:=a0j (a07 hm)
   subst this
   simp only[cond_true,a0l]
   exact⟨_,_,_,_,V,.inr ⟨b,o,k,cs,ar,V,V,_,_,_,V,fun _=>h3,h4,h5,h6⟩,by rw[al];exact hs⟩
  |false=>
   simp only[cond_false]
   have b3:(l.length+l2.length) *Rp.sz α<=k *Rp.sz α:=a0B _ a9
   have E:o+l.length *Rp.sz α+new.length<=cs.length:=by rw[U];rw[a18]at b3;omega
   rw[kI hg E a3]
   simp only
   refine⟨some ⟨b,o,none⟩,k,_,[(b,.cells (aZ cs (o+l.length *Rp.sz α) new) ar false)],by rw[a00],.inr ⟨b,o,k,_,ar,V,V,_,_,_,V,?_,by rw[a00];exact a9,?_,h6⟩,hs.put hi⟩
   ·intro _;rw[ce _ _ _ E];exact h3
   have key:((aZ cs (o+l.length *Rp.sz α) new).drop o).take ((l++l2).length *Rp.sz α)=(cs.drop o).take (l.length *Rp.sz α)++new:=by
    have b4:=h5.length;apply a0N;intro q;rw[a0C,a0F,bm _ _ _ _ E,a00,a18,a1D,b4];by_cases c1:q<l.length *Rp.sz α
    ·rw[if_pos M,if_neg M,if_pos c1,a0C,if_pos c1,a0F]
    rw[if_neg c1];by_cases c2:q<l.length *Rp.sz α+l2.length *Rp.sz α
    ·rw[if_pos c2,if_pos (by rw[U];omega)];congr 1;omega
    rw[if_neg c2,a0J (by rw[U];omega)]
   rw[key]
   exact h5.append O
 |false=>
  simp only[cond_false]
  have a1:Nat.ble (l.length+l2.length) 2147483648=true:=a0t a2
  have b8:Nat.ble l.length k=true:=a0t h4
  simp only[ba,a1,a8,an,b8,a1E,a1q,cond_true]
  have bF:gv H (Rp.sz α) l.length (.slice (some ⟨b,o,none⟩) l.length k)=some ((cs.drop o).take (l.length *Rp.sz α)):=by
   unfold gv;cases E:Nat.beq l.length 0 with
   |true=>
    have:=a07 E
    simp[this]
   |false=>
    simp only[cond_false]
    unfold Heap.loadN
    have hl:=h5.length
    simp only[hg,bu,bE,be,hl,a0Y,cond_true]
  rw[bF]
  simp only[d9]
  have aA:=h5.append O
  have Z:=aA.length
  have a0: ∀(k':Nat) (bb:Nat),k'=(l++l2).length->OS F (.slice (some ⟨bb,0,none⟩) (l++l2).length k') (l++l2) [(bb,.cells ((cs.drop o).take (l.length *Rp.sz α)++new) (some (Rp.sz α)) false)]:=by rintro k' bb rfl;refine .inr ⟨bb,0,_,_,_,V,V,_,_,_,V,fun _=>(by rw[Z];omega),a08 _,?_,.inr V⟩;rw[a0I,←Z,a0T];exact aA
  rcases h6 with rfl|rfl
  ·simp only;refine⟨some ⟨H.next,0,none⟩,l.length+l2.length,_,_,by rw[a00],a0 _ _ (by rw[a00]),?_⟩;refine hs.turn hi (by simp[aL]) (fun b E _=>Heap.get_push_ne _ _ M) (fun b o E=>?_) (by simp) (fun b E=> .inl (by simpa[aL] using E));simp at E;obtain⟨rfl,rfl⟩:=E;exact⟨Heap.get_push_same _ _,by simp[aL],.inl (a08 _)⟩
  simp only[a0Y,a1q,a3,cond_true]
  refine⟨some ⟨H.next,0,none⟩,l.length+l2.length,_,_,by rw[a00],a0 _ _ (by rw[a00]),?_⟩
  refine hs.turn hi (by simp[aL]) (fun c E b6=>?_) (fun c o E=>?_) (by simp) (fun c E=>?_)
  ·show((H.put b .dead).push _).get c=_;rw[Heap.get_push_ne _ _ (by simp;omega),Heap.get_put_ne _ _ fun e=>b6 (.cells cs (some (Rp.sz α)) false) (by simp[e])]
  ·simp at E;obtain⟨rfl,rfl⟩:=E;exact⟨Heap.get_push_same (H.put b .dead) _,by simp[aL],.inl (a08 _)⟩
  simp only[aL,Heap.log_push,Heap.log_put]at E
  rcases a0o.1 E with rfl|E
  ·exact .inr (.inr ⟨.cells cs (some (Rp.sz α)) false,by simp⟩)
  exact .inl E
end
end Go.R
end
noncomputable section
set_option linter.unusedVariables false
namespace Go.R
section
variable {P:Program} {G:Nat} {cf:cr} {ops:Array Oper}
theorem j9{s E:St}{d:Option Tmp}{v:Value}(h:s.put d v=some E):E.size=s.size:=by
 unfold St.put at h;cases d with
 |none=>simp only[a02]at h;rw[←h]
 |some d=>
  cases A:Nat.ble (d+1) s.size with
  |true=>simp only[A,cond_true,a02]at h;rw[←h]
  |false=>simp only[A,cond_false]at h;cases h
theorem step_size{o:Oper}{s O:St}(h:step P G cf ops o s=some O):O.size=s.size:=by
 unfold step at h;cases E:aW ops o s.tmps with
 |false=>simp only[E,cond_false]at h;exact j9 h
 |true=>
  simp only[E,cond_true]at h
  cases A:o.op.operands.toList.all (bd G) with
  |false=>rw[A]at h;cases h
  |true=>
   rw[A]at h
   simp only[cond_true]at h
   split at h
   ·have:=j9 h;exact this
   ·have:=j9 h;exact this
   ·split at h
    ·have:=j9 h;exact this
    cases h
   cases h
theorem kO: ∀(l:List Oper) (s A:St),fS P G cf ops l s=some A->A.size=s.size
 | [],_,_,h=>by rw[jm]at h;simp only[a02]at h;rw[←h]
 |o::l,s,A,h=>by
  rw[bS]at h;split at h
  ·rename_i t E;rw[kO l _ _ h,step_size E]
  cases h
theorem jI: ∀(l:List Oper) (i:Nat) (fs:List (Nat×Inf)) (s s':St),bg P G cf ops i fs l s=some s'->s'.size=s.size
 | [],_,_,_,_,h=>by unfold bg at h;simp only[a02]at h;rw[←h]
 |o::l,i,fs,s,s',h=>by
  unfold bg at h;split at h
  ·rename_i t f A;cases E:b7 ops (b5 ops) i f fs with
   |false=>rw[E]at h;cases h
   |true=>
    rw[E]at h
    rw[jI l _ _ _ _ h]
    unfold hZ at A
    split at A
    ·rename_i U O;simp only[a02,a04]at A;rw[←A.1];have:=step_size O;exact this
    cases A
  cases h
theorem region_size{A:Bool}{s O:St}(h:bJ P G cf ops A s=some O):O.size=s.size:=by
 unfold bJ at h;cases A with
 |false=>exact kO _ _ _ h
 |true=>
  simp only[cond_true]at h
  cases E:jX ops&&P.follows .mixedOrders with
  |false=>rw[E]at h;cases h
  |true=>rw[E]at h;exact jI _ _ _ _ _ h
def SizeOK(ex:Code->St->Option (Ex×St)):Prop:= ∀c s e A,ex c s=some (e,A)->A.size=s.size
theorem execC_size{ex:Code->St->Option (Ex×St)}(ax:SizeOK ex):SizeOK (eO P G ex cf):=by
 intro c;have al: ∀{r:Option (Ex×St)} {k:St->Option (Ex×St)} {n:Nat} {e:Ex} {A:St},(∀e s,r=some (e,s)->s.size=n)->(∀s e A,s.size=n->k s=some (e,A)->A.size=n)->gy r k=some (e,A)->A.size=n:=by
  intro r k n e A hr hk h;cases O:r with
  |none=>rw[O]at h;cases h
  |some y=>
   obtain⟨Z,U⟩:=y
   have E:=hr Z U O
   rw[O]at h
   cases Z with
   |normal=>exact hk U e A E h
   |exit i=>simp only[gy,a02,a04]at h;rw[←h.2];exact E
   |ret=>simp only[gy,a02,a04]at h;rw[←h.2];exact E
 induction c with
 |skip=>intro s e A h;rw[mt]at h;simp only[a02,a04]at h;rw[←h.2]
 |region id ops draw=>
  intro s e A h
  rw[gx]at h
  cases O:bJ P G cf ops draw s with
  |none=>rw[O]at h;cases h
  |some t=>
   rw[O]at h
   simp only[ef,a02,a04]at h
   rw[←h.2];exact region_size O
 |seq a b iha ihb=>
  intro s e A h
  rw[lm]at h
  exact al (fun e U E=>iha s e U E) (fun U e A E h2=>(ihb U e A h2).trans E) h
 |cond c t e iht ihe=>
  intro s e A h
  rw[jy]at h
  cases O:bd G c with
  |false=>rw[O]at h;cases h
  |true=>
   rw[O]at h
   simp only[cond_true]at h
   unfold my at h
   split at h
   ·rename_i b hb;cases b with
    |true=>exact iht s _ A h
    |false=>exact ihe s _ A h
   cases h
 |block id b ih=>
  intro s e A h
  rw[iw]at h
  cases O:eO P G ex cf b s with
  |none=>rw[O]at h;cases h
  |some y=>
   obtain⟨Z,U⟩:=y
   have E:=ih s Z U O
   rw[O]at h
   cases Z with
   |normal=>simp only[dj,a02,a04]at h;rw[←h.2];exact E
   |exit i=>
    unfold dj at h
    cases hb:Nat.beq i id with
    |true=>simp only[hb,cond_true,a02,a04]at h;rw[←h.2];exact E
    |false=>simp only[hb,cond_false,a02,a04]at h;rw[←h.2];exact E
   |ret=>simp only[dj,a02,a04]at h;rw[←h.2];exact E
 |loop b ih=>
  intro s e A h
  rw[jx]at h
  exact al (fun e U E=>ih s e U E) (fun U e A E h2=>(ax _ U e A h2).trans E) h
 |exit id=>intro s e A h;rw[mu]at h;simp only[a02,a04]at h;rw[←h.2]
 |ret=>intro s e A h;rw[execC_ret]at h;simp only[a02,a04]at h;rw[←h.2]
 |_=>intro s e A h;cases h
theorem exec_size{K:bp}: ∀n,SizeOK (mw P G K n)
 |0=>fun c s e A h=>by cases h
 |n+1=>fun c=>execC_size (exec_size n) c
end
section
variable {P:Program} {G:Nat} {K:bp} {sz:Nat} {Q Q1:Ex->Fn->Heap->Prop} {c:Code} {k:List Fr} {f:Fn} {H:Heap}
theorem wk_cut(h1:WK P G K sz c [] f H Q1)(h2: ∀A H',Q1 .normal A H'->WK P G K sz .skip k A H' Q)(h3: ∀i A H',Q1 (.exit i) A H'->WK P G K sz (.exit i) k A H' Q)(h4: ∀A H',Q1 .ret A H'->Q .ret A H'):
  WK P G K sz c k f H Q:=⟨fun t ht=>by
 obtain⟨E,e,s1,hx,hq⟩:=h1.out t ht
 have Z:mw P G K (E+1) c ⟨t,sz,H⟩=some (e,s1):=hx
 have a2:=exec_size _ _ _ _ _ Z
 obtain⟨t1,O,H1⟩:=s1
 have a0:O=sz:=a2
 subst a0
 cases e with
 |ret=>exact⟨E,.ret,_,by rw[Z];exact j8 k,h4 _ _ hq⟩
 |normal=>
  obtain⟨U,e,s',h5,h6⟩:=(h2 _ _ hq).out t1 V
  refine⟨Nat.max E U,e,s',?_,h6⟩
  refine eh (a1p (a1j E U)) k _ _ (fun x an=>?_) _ h5
  have:x=(.normal,⟨t1,O,H1⟩):=by have:some (Ex.normal,(⟨t1,O,H1⟩:St))=some x:=an;exact(Option.some.inj this).symm
  subst this
  exact iY (a1p (a1I E U)) _ _ _ Z
 |exit i=>
  obtain⟨U,e,s',h5,h6⟩:=(h3 i _ _ hq).out t1 V
  refine⟨Nat.max E U,e,s',?_,h6⟩
  refine eh (a1p (a1j E U)) k _ _ (fun x an=>?_) _ h5
  have:x=(.exit i,⟨t1,O,H1⟩):=by have:some (Ex.exit i,(⟨t1,O,H1⟩:St))=some x:=an;exact(Option.some.inj this).symm
  subst this
  exact iY (a1p (a1I E U)) _ _ _ Z⟩
def inR(lo hi:Nat)(ex:List Nat)(j:Nat):Bool:=(Nat.ble lo j&&Nat.ble j hi)||memB j ex
def hav(lo hi:Nat)(ex:List Nat)(g f:Fn):Fn:=fun j=>bif inR lo hi ex j then g j else f j
structure Leaves(lo hi:Nat)(ex:List Nat)(f f':Fn):Prop where
 out: ∀j,inR lo hi ex j=false->f' j=f j
theorem Leaves.refl{lo hi:Nat}{ex:List Nat}{f:Fn}:Leaves lo hi ex f f:=⟨fun _ _=>rfl⟩
theorem Leaves.upd{lo hi:Nat}{ex:List Nat}{f E:Fn}{i:Nat}{v:Value}(O:inR lo hi ex i=true)(h:Leaves lo hi ex f E):Leaves lo hi ex f (upd E i v):=⟨fun j A=>by
 unfold Go.R.upd;cases U:Nat.beq i j with
 |true=>have:=a07 U;subst this;rw[O]at A;cases A
 |false=>exact h.out j A⟩
theorem Leaves.eq{lo hi:Nat}{ex:List Nat}{f A:Fn}(h:Leaves lo hi ex f A):A=hav lo hi ex A f:=by
 funext j;unfold hav;cases E:inR lo hi ex j with
 |true=>rfl
 |false=>exact h.out j E
theorem hO{id:Nat}{ops:Array Oper}{E:Bool}(lo hi:Nat)(ex:List Nat)(l:List (Nat×Value))(O:Heap->Prop)
  (U:WK P G K sz (.region id ops E) [] f H fun e A H'=>e= .normal/\O H'/\Leaves lo hi ex f A/\aC A l)
  (Z: ∀g H',O H'->WK P G K sz .skip k (gY (hav lo hi ex g f) l) H' Q):WK P G K sz (.region id ops E) k f H Q:=by
 refine wk_cut U ?_ ?_ ?_
 ·rintro A H' ⟨_,hH,hl,ha⟩;have:=Z A H' hH;rw[←hl.eq,fo ha]at this;exact this
 ·rintro i A H' ⟨h,_⟩;cases h
 rintro A H' ⟨h,_⟩;cases h
end
inductive ID where
 |v
 |a
 |r
 |l (b:Nat)
 |x (W:List Nat)
 |q (S:Nat->Prop)
 |n (B:Nat)
 |s (W:List Nat)
def ID.fits:ID->Inf->Prop
 | .v,g=>g= .v
 | .a,g=> ∃b,g= .a b
 | .r,g=>gD g=true
 | .l b,g=>g= .l b
 | .x W,g=> ∃w,g= .x w/\∀b,b∈w->b∈W
 | .q S,g=>g= .v\/∃b,g= .l b/\S b
 | .n B,g=> ∃b,g= .a b/\B<=b
 | .s W,g=> ∃w,g= .x w/\∀b,b∈w->b∈W
def ID.nilW:List Nat->Prop
 | []=>True
 |_=>False
def cD:ID->ID->Prop
 | .v,_=>True
 |_,.v=>True
 | .q S,.x W=> ∀b,b∈W->¬S b
 | .x W,.q S=> ∀b,b∈W->¬S b
 | .l b,.x W=>b∉W
 | .x W,.l b=>b∉W
 | .x W,.x U=>ID.nilW W/\ID.nilW U
 | .n B,.x W=> ∀b,b∈W->b<B
 | .x _,.n _=>True
 | .a,.x W=>ID.nilW W
 | .r,.x W=>ID.nilW W
 | .x _,.a=>True
 | .x W,.r=>ID.nilW W
 |_,_=>True
def ID.u:ID->ID
 | .s W=> .x W
 |d=>d
def cE(ops:Array Oper)(j i:Nat):ID->ID->Prop
 | .s W,.s U=>stAt ops j=true/\stAt ops i=true/\∀b,b∈W->b∉U
 |e,d=>cD e.u d.u
theorem ID.fits_u: ∀{d:ID} {g:Inf},d.fits g->d.u.fits g
 | .v,_,h=>h
 | .a,_,h=>h
 | .r,_,h=>h
 | .l _,_,h=>h
 | .x _,_,h=>h
 | .q _,_,h=>h
 | .n _,_,h=>h
 | .s _,_,h=>h
theorem dT{b:Nat}: ∀{l:List Nat},b∉l->memB b l=false
 | [],_=>rfl
 |c::l,h=>by
  simp only[a0o,not_or]at h;unfold memB;have:Nat.beq b c=false:=by
   cases A:Nat.beq b c with
   |false=>rfl
   |true=>exact absurd (a07 A) h.1
  rw[this,dT h.2];rfl
theorem bD: ∀{d:ID} {g:Inf},d.fits g->(∀W,d≠ .x W)->(∀W,d≠ .s W)->gD g=true
 | .v,_,h,_,_=>by subst h;rfl
 | .a,_,⟨_,h⟩,_,_=>by subst h;rfl
 | .r,_,h,_,_=>h
 | .l _,_,h,_,_=>by subst h;rfl
 | .x W,_,_,h,_=>absurd V (h W)
 | .q _,_,h,_,_=>by rcases h with rfl|⟨_,rfl,_⟩<;>rfl
 | .n _,_,h,_,_=>by obtain⟨_,rfl,_⟩:=h;rfl
 | .s W,_,_,_,h=>absurd V (h W)
theorem eM{W:List Nat}{g:Inf}(h:ID.nilW W)(A:ID.fits (.x W) g):gD g=true:=by
 obtain⟨w,rfl,E⟩:=A;cases W with
 |nil=>
  cases w with
  |nil=>rfl
  |cons a t=>have:=E a (by simp);simp at this
 |cons _ _=>exact absurd h id
theorem compat_of{d e:ID}{f g:Inf}(hd:d.fits f)(A:e.fits g)(h:cD d e)(E: ∀W,d≠ .s W)(O: ∀W,e≠ .s W):dr f g=true:=by
 have key:gD f=true->gD g=true->dr f g=true:=nK;cases d with
 |v=>rw[show f= .v from hd];rfl
 |a=>
  cases e with
  |x W=>exact key (bD hd (by intro W h;cases h) E) (eM h A)
  |v=>rw[show g= .v from A];cases f<;>rfl
  |_=>exact key (bD hd (by intro W h;cases h) E) (bD A (by intro W h;cases h) O)
 |r=>
  cases e with
  |x W=>exact key (bD hd (by intro W h;cases h) E) (eM h A)
  |v=>rw[show g= .v from A];cases f<;>rfl
  |_=>exact key (bD hd (by intro W h;cases h) E) (bD A (by intro W h;cases h) O)
 |l b=>
  cases e with
  |x W=>
   obtain⟨w,rfl,hw⟩:=A
   rw[show f= .l b from hd]
   show(!memB b w)=true
   rw[dT fun Z=>h (hw b Z)];rfl
  |v=>rw[show g= .v from A];cases f<;>rfl
  |_=>exact key (bD hd (by intro W h;cases h) E) (bD A (by intro W h;cases h) O)
 |x W=>
  cases e with
  |v=>rw[show g= .v from A];cases f<;>rfl
  |a=>obtain⟨b,rfl⟩:=A;obtain⟨w,rfl,_⟩:=hd;rfl
  |n B=>obtain⟨b,rfl,_⟩:=A;obtain⟨w,rfl,_⟩:=hd;rfl
  |r=>exact key (eM h hd) A
  |q S=>
   obtain⟨w,rfl,hw⟩:=hd
   rcases A with rfl|⟨b,rfl,Z⟩
   ·rfl
   show(!memB b w)=true
   rw[dT fun hm=>h b (hw b hm) Z];rfl
  |l b=>
   obtain⟨w,rfl,hw⟩:=hd
   rw[show g= .l b from A]
   show(!memB b w)=true
   rw[dT fun Z=>h (hw b Z)];rfl
  |x U=>exact key (eM h.1 hd) (eM h.2 A)
  |s U=>exact absurd V (O U)
 |q S=>
  cases e with
  |x W=>
   obtain⟨w,rfl,hw⟩:=A
   rcases hd with rfl|⟨b,rfl,Z⟩
   ·rfl
   show(!memB b w)=true
   rw[dT fun hm=>h b (hw b hm) Z];rfl
  |v=>rw[show g= .v from A];cases f<;>rfl
  |_=>exact key (bD hd (by intro W h;cases h) E) (bD A (by intro W h;cases h) O)
 |n B=>
  cases e with
  |x W=>
   obtain⟨w,rfl,hw⟩:=A
   obtain⟨b,rfl,Z⟩:=hd
   show(!memB b w)=true
   rw[dT fun hm=>absurd (h b (hw b hm)) (Nat.not_lt_of_le Z)];rfl
  |v=>rw[show g= .v from A];cases f<;>rfl
  |_=>exact key (bD hd (by intro W h;cases h) E) (bD A (by intro W h;cases h) O)
 |s W=>exact absurd V (E W)
theorem ID.u_ns(d:ID)(W:List Nat):d.u≠ .s W:=by cases d<;>(intro q;cases q)
theorem disj_of{w u:List Nat}:(∀b,b∈w->b∉u)->disjL w u=true:=by
 induction w with
 |nil=>intro _;rfl
 |cons b w ih=>
  intro h
  unfold disjL
  rw[dT (h b (by simp)),ih fun c hc=>h c (by simp[hc])];rfl
theorem cE_ok{ops:Array Oper}{j i:Nat}{d e:ID}{f g:Inf}(E:e.fits g)(hd:d.fits f)(h:cE ops j i e d):(dr g f||stst ops j i g f)=true:=by
 rw[a0P];have key:cD e.u d.u->dr g f=true:=fun h=>compat_of (ID.fits_u E) (ID.fits_u hd) h e.u_ns d.u_ns
 cases e with
 |s W=>
  cases d with
  |s U=>
   right
   obtain⟨O,Z,h3⟩:=h
   obtain⟨w,rfl,hw⟩:=E
   obtain⟨u,rfl,hu⟩:=hd
   unfold stst
   rw[O,Z]
   exact disj_of fun b hb A=>h3 b (hw b hb) (hu b A)
  |_=>exact .inl (key h)
 |_=>cases d<;>exact .inl (key h)
def FsD:List (Nat×Inf)->List (Nat×ID)->Prop
 | [],[]=>True
 |(j,g)::fs,(i,d)::D=>j=i/\d.fits g/\FsD fs D
 |_,_=>False
def okD(ops:Array Oper)(i:Nat)(d:ID):List (Nat×ID)->Prop
 | []=>True
 |(j,e)::D=>(aY (b5 ops) j i=true\/cE ops j i e d)/\okD ops i d D
theorem ea{ops:Array Oper}{i:Nat}{d:ID}{f:Inf}(A:d.fits f): ∀{fs:List (Nat×Inf)} {D:List (Nat×ID)},FsD fs D->okD ops i d D->b7 ops (b5 ops) i f fs=true
 | [],[],_,_=>rfl
 |(j,g)::fs,(_,e)::D,⟨rfl,h2,h3⟩,⟨h4,h5⟩=>by
  unfold b7;rw[ea A h3 h5,a0A];rcases h4 with h4|h4
  ·rw[h4];rfl
  rw[a0P];exact .inr (cE_ok h2 A h4)
 | [],_::_,h,_=>absurd h id
 |_::_,[],h,_=>absurd h id
section
variable {P:Program} {G:Nat} {K:bp} {sz:Nat} {Q:Ex->Fn->Heap->Prop} {ops:Array Oper} {D:List (Nat×ID)} {i:Nat} {os:List Oper} {k:List Fr} {f:Fn} {H H1:Heap} {v:Value}
 {d:Tmp} {op:Op} {ty:TypeId} {pos:String} {af:Array Edge}
structure WF2(P:Program)(G:Nat)(K:bp)(sz:Nat)(ops:Array Oper)(D:List (Nat×ID))(i:Nat)(os:List Oper)(k:List Fr)(f:Fn)(H:Heap)(Q:Ex->Fn->Heap->Prop):Prop where
 out: ∀t fs,cN t=f->FsD fs D->∃n e s',runK P G K (n+1) k (ef (bg P G (call P G K n) ops i fs os ⟨t,sz,H⟩))=some (e,s')/\Q e (cN s'.tmps) s'.heap
theorem aq{id:Nat}(O:(jX ops&&P.follows .mixedOrders)=true)(h:WF2 P G K sz ops [] 0 ops.toList k f H Q):WK P G K sz (.region id ops true) k f H Q:=⟨fun t U=>by
 obtain⟨n,e,Z,A,E⟩:=h.out t [] U trivial;refine⟨n,e,Z,?_,E⟩;have:mw P G K (n+1) (.region id ops true) ⟨t,sz,H⟩=ef (bg P G (call P G K n) ops 0 [] ops.toList ⟨t,sz,H⟩):=by show ef (bJ P G (call P G K n) ops true ⟨t,sz,H⟩)=_;unfold bJ;simp only[cond_true,O]
 rw[this];exact A⟩
theorem gc(h:WK P G K sz .skip k f H Q):WF2 P G K sz ops D i [] k f H Q:=⟨fun t fs O _=>by
 obtain⟨n,e,U,A,E⟩:=h.out t O;exact⟨n,e,U,by unfold bg;exact A,E⟩⟩
def Did(ops:Array Oper)(f:Fn)(o:Oper)(n:Nat)(log:List Nat)(d:ID):Prop:= ∀t sz H,cN t=f->d.fits (ep ops o ⟨t,sz,H⟩ n log)
theorem iz{o:Oper}{n:Nat}{log:List Nat}(h:aP o.op=true):Did ops f o n log .v:=fun _ _ _ _=>infOf_value h
theorem did_a{o:Oper}{n:Nat}{log:List Nat}(E:o.guard=none)(A:aP o.op=false)(h:dR o.op=true):Did ops f o n log .a:=fun t sz H _=>by unfold ep aW;simp only[E,a1x,A,Bool.or_self,cond_false,h,cond_true];exact⟨_,V⟩
theorem did_n{o:Oper}{n:Nat}{log:List Nat}(E:o.guard=none)(A:aP o.op=false)(h:dR o.op=true):Did ops f o n log (.n n):=fun t sz H _=>by unfold ep aW;simp only[E,a1x,A,Bool.or_self,cond_false,h,cond_true];exact⟨_,V,a08 _⟩
theorem eR{dd:Option Tmp}{lt:TypeId}{a:Operand}{n b o:Nat}{log:List Nat}(A:cS f a= .pointer (some ⟨b,o,none⟩)):Did ops f ⟨dd,.load lt a,ty,pos,af,none⟩ n log (.l b):=fun t sz H E=>by
 have:cO t a= .pointer (some ⟨b,o,none⟩):=by rw[e9,E];exact A
 unfold ep aW;simp only[a1x,a1g,cond_false,dR,aP,this];rfl
theorem gP{n b:Nat}{l:List Nat}(h:b∈dN n l):b∈l/\b<n:=by
 induction l with
 |nil=>simp[dN]at h
 |cons c l ih=>
  unfold dN at h
  cases A:Nat.ble n c with
  |true=>
   rw[A]at h
   have:=ih h
   exact⟨a0g _ this.1,this.2⟩
  |false=>
   rw[A]at h
   rcases a0o.1 h with rfl|h
   ·refine⟨a0E ..,?_⟩;rcases a0s b n with h1|h1
    ·exact h1
    rw[a0t h1]at A;cases A
   have:=ih h
   exact⟨a0g _ this.1,this.2⟩
theorem did_r{o:Oper}{n:Nat}{log:List Nat}(h: ∀b,b∈log->n<=b):Did ops f o n log .r:=fun t sz H _=>infOf_benign (below_nil h)
theorem nz{dd:Option Tmp}{x:Operand}{ts:Array TypeId}{n k m:Nat}{a:Option Addr}{log:List Nat}(E:cS f x= .slice a k m):Did ops f ⟨dd,.call ⟨.builtin .len, #[x],ts⟩,ty,pos,af,none⟩ n log .v:=fun t sz H A=>by
 have:cO t x= .slice a k m:=by rw[e9,A];exact E
 unfold ep aW;simp only[a1x,a1g,cond_false,dR,aP];show ID.fits .v (match dM (cO t) [x] with| [.slice _ _ _]=>Inf.v| [.string _]=> .v|_=> .x (dN n log));show ID.fits .v (match [cO t x] with| [.slice _ _ _]=>Inf.v| [.string _]=> .v|_=> .x (dN n log));rw[this];rfl
def gk:Op->Bool
 | .load _ _| .slice _ _ _ _ _| .call ⟨.builtin .len,_,_⟩=>false
 |o=> !aP o&& !dR o
theorem jZ{o:Oper}{n:Nat}{log:List Nat}{W:List Nat}(h:Did ops f o n log (.x W)):Did ops f o n log (.s W):=fun t sz H A=>h t sz H A
theorem cQ{o:Oper}{n:Nat}{log:List Nat}{W:List Nat}(hg:o.guard=none)(A:gk o.op=true)(h: ∀b,b∈log->n<=b\/b∈W):Did ops f o n log (.x W):=fun t sz H _=>by
 have O:aP o.op=false/\dR o.op=false:=by
  unfold gk at A;split at A
  ·cases A
  ·cases A
  ·cases A
  simpa using A
 refine⟨dN n log,?_,fun b Z=>?_⟩
 ·unfold ep aW;simp only[hg,a1x,O.1,O.2,Bool.or_self,cond_false];split
  ·rename_i E;rw[E]at A;cases A
  ·rename_i E;rw[E]at A;cases A
  ·rename_i E;rw[E]at A;cases A
  rfl
 obtain⟨U,h2⟩:=gP Z;rcases h b U with h3|h3
 ·omega
 exact h3
theorem wf_val{id:ID}(ha:AP P (cS f) ⟨some d,op,ty,pos,af,none⟩ {H with log:=[]} (.val v,H1))(ho:op.operands.toList.all (bd G)=true)(hd:Nat.ble (d+1) sz=true)
  (U:Did ops f ⟨some d,op,ty,pos,af,none⟩ H.next H1.log id) (Z:okD ops i id D)
  (h: ∀l,(∀b,b∈l->b∈H1.log\/b∈H.log)->WF2 P G K sz ops ((i,id)::D) (i+1) os k (upd f d v) {H1 with log:=l} Q):WF2 P G K sz ops D i (⟨some d,op,ty,pos,af,none⟩::os) k f H Q:=⟨fun t fs O E=>by
 obtain⟨t',h1,h2⟩:=mT (P:=P) (G:=G) (ops:=ops) (t:=t) (sz:=sz) (o:=⟨some d,op,ty,pos,af,none⟩) V ho (by rw[O];exact ha.eq) hd
 have hi:=U t sz H O
 obtain⟨n,e,s',h3,h4⟩:=(h (dN H.next H1.log++H.log) (fun b A=>by
  rcases a0e.1 A with A|A
  ·exact .inl (gP A).1
  exact .inr A)).out t' ((i,ep ops ⟨some d,op,ty,pos,af,none⟩ ⟨t,sz,H⟩ H.next H1.log)::fs) (by rw[h2,O];rfl) ⟨V,hi,E⟩
 refine⟨n,e,s',?_,h4⟩
 unfold bg hZ
 rw[h1]
 simp only[ea hi E Z,cond_true]
 exact h3⟩
theorem aM{id:ID}(ha:AP P (cS f) ⟨some d,op,ty,pos,af,none⟩ {H with log:=[]} (.val v,{H with log:=[]}))(ho:op.operands.toList.all (bd G)=true)(hd:Nat.ble (d+1) sz=true)
  (O:Did ops f ⟨some d,op,ty,pos,af,none⟩ H.next [] id) (U:okD ops i id D)
  (h:WF2 P G K sz ops ((i,id)::D) (i+1) os k (upd f d v) H Q):WF2 P G K sz ops D i (⟨some d,op,ty,pos,af,none⟩::os) k f H Q:=⟨fun t fs E A=>by
 obtain⟨t',Z,h2⟩:=mT (P:=P) (G:=G) (ops:=ops) (t:=t) (sz:=sz) (o:=⟨some d,op,ty,pos,af,none⟩) V ho (by rw[E];exact ha.eq) hd
 have hi:=O t sz H E
 obtain⟨n,e,s',h3,h4⟩:=h.out t' ((i,ep ops ⟨some d,op,ty,pos,af,none⟩ ⟨t,sz,H⟩ H.next [])::fs) (by rw[h2,E];rfl) ⟨V,hi,A⟩
 refine⟨n,e,s',?_,h4⟩
 unfold bg hZ
 rw[Z]
 simp only[ea hi A U,cond_true,dN,a0i]
 exact h3⟩
theorem wf_skip{id:ID}(ha:AP P (cS f) ⟨none,op,ty,pos,af,none⟩ {H with log:=[]} (.skip,H1))(ho:op.operands.toList.all (bd G)=true)
  (U:Did ops f ⟨none,op,ty,pos,af,none⟩ H.next H1.log id) (Z:okD ops i id D)
  (h: ∀l,(∀b,b∈l->b∈H1.log\/b∈H.log)->WF2 P G K sz ops ((i,id)::D) (i+1) os k f {H1 with log:=l} Q):WF2 P G K sz ops D i (⟨none,op,ty,pos,af,none⟩::os) k f H Q:=⟨fun t fs O E=>by
 obtain⟨t',h1,h2⟩:=step_skip (P:=P) (G:=G) (ops:=ops) (t:=t) (sz:=sz) (o:=⟨none,op,ty,pos,af,none⟩) V ho (by rw[O];exact ha.eq) V
 have hi:=U t sz H O
 obtain⟨n,e,s',h3,h4⟩:=(h (dN H.next H1.log++H.log) (fun b A=>by
  rcases a0e.1 A with A|A
  ·exact .inl (gP A).1
  exact .inr A)).out t' ((i,ep ops ⟨none,op,ty,pos,af,none⟩ ⟨t,sz,H⟩ H.next H1.log)::fs) (by rw[h2,O];rfl) ⟨V,hi,E⟩
 refine⟨n,e,s',?_,h4⟩
 unfold bg hZ
 rw[h1]
 simp only[ea hi E Z,cond_true]
 exact h3⟩
theorem aK{W:List Nat}{g:FuncId}{args:List Value}{R:Value->Heap->Prop}(ha:AP P (cS f) ⟨some d,op,ty,pos,af,none⟩ {H with log:=[]} (.enter g args,{H with log:=[]}))(ho:op.operands.toList.all (bd G)=true)(hd:Nat.ble (d+1) sz=true)(hk:gk op=true)
  (hc:C P G K g args {H with log:=[]} R) (a1:okD ops i (.x W) D)
  (h: ∀v A,R v A->(∀b,b∈A.log->H.next<=b\/b∈W)/\∀l,(∀b,b∈l->b∈A.log\/b∈H.log)->WF2 P G K sz ops ((i,.x W)::D) (i+1) os k (upd f d v) {A with log:=l} Q):WF2 P G K sz ops D i (⟨some d,op,ty,pos,af,none⟩::os) k f H Q:=⟨fun t fs ht al=>by
 obtain⟨U,v,A,a0,hr⟩:=hc.out
 obtain⟨an,h0⟩:=h v A hr
 obtain⟨t',h1,h2⟩:=jJ (s:=⟨t,sz,A⟩) (d:=some d) (v:=v) hd
 have hi:=cQ (ops:=ops) (f:=f) (o:=⟨some d,op,ty,pos,af,none⟩) V hk an t sz H ht
 obtain⟨E,e,s',h3,h4⟩:=(h0 (dN H.next A.log++H.log) (fun b O=>by
  rcases a0e.1 O with O|O
  ·exact .inl (gP O).1
  exact .inr O)).out t' ((i,ep ops ⟨some d,op,ty,pos,af,none⟩ ⟨t,sz,H⟩ H.next A.log)::fs) (by rw[h2,ht];rfl) ⟨V,hi,al⟩
 refine⟨Nat.max U E,e,s',?_,h4⟩
 have a2:step P G (call P G K (Nat.max U E)) ops ⟨some d,op,ty,pos,af,none⟩ ⟨t,sz,{H with log:=[]}⟩=some ⟨t',sz,A⟩:=by unfold step aW;simp only[cond_true,ho,e9,ht,ha.eq,fy (a1I U E) _ _ _ _ a0];exact h1
 unfold bg hZ
 rw[a2]
 simp only[ea hi al a1,cond_true]
 refine eh (a1p (a1j U E)) k _ _ (fun x Z=>?_) _ h3
 cases hq:bg P G (call P G K E) ops (i+1) ((i,ep ops ⟨some d,op,ty,pos,af,none⟩ ⟨t,sz,H⟩ H.next A.log)::fs) os ⟨t',sz,{A with log:=dN H.next A.log++H.log}⟩ with
 |none=>rw[hq]at Z;cases Z
 |some y=>
  have:=eV (fy (P:=P) (G:=G) (K:=K) (a1j U E)) _ _ _ _ _ hq
  rw[hq]at Z
  rw[this];exact Z⟩
theorem inf_guard{t:Tr Value}{v want:Bool}{j:Nat}{dd:Option Tmp}(O:cN t=f)(Z:cy ops f j=some v)(U:v=want)(sz:Nat)(H:Heap)(n:Nat)(log:List Nat):
  ep ops ⟨dd,op,ty,pos,af,some (j,want)⟩ ⟨t,sz,H⟩ n log=ep ops ⟨dd,op,ty,pos,af,none⟩ ⟨t,sz,H⟩ n log:=by
 have A:aW ops ⟨dd,op,ty,pos,af,some (j,want)⟩ t=true:=by rw[iN O Z _ V,U];cases want<;>rfl
 have E:aW ops ⟨dd,op,ty,pos,af,none⟩ t=true:=rfl
 unfold ep
 simp only[A,E]
theorem fY{v want:Bool}{j:Nat}{dd:Option Tmp}(hy:cy ops f j=some v)(Z:v=want)(h:WF2 P G K sz ops D i (⟨dd,op,ty,pos,af,none⟩::os) k f H Q):WF2 P G K sz ops D i (⟨dd,op,ty,pos,af,some (j,want)⟩::os) k f H Q:=⟨fun t fs E O=>by
 obtain⟨n,e,s',A,h2⟩:=h.out t fs E O;refine⟨n,e,s',?_,h2⟩;unfold bg hZ at A⊢;rw[lX E hy Z];cases U:step P G (call P G K n) ops ⟨dd,op,ty,pos,af,none⟩ ⟨t,sz,{H with log:=[]}⟩ with
 |none=>rw[U]at A;exact A
 |some s1=>
  rw[U]at A
  simp only[inf_guard E hy Z]
  exact A⟩
theorem kz{want:Bool}{j:Nat}(hw: ∀t,cN t=f->aW ops ⟨some d,op,ty,pos,af,some (j,want)⟩ t=false)(hd:Nat.ble (d+1) sz=true)
  (h:WF2 P G K sz ops ((i,.v)::D) (i+1) os k (upd f d undef) H Q):WF2 P G K sz ops D i (⟨some d,op,ty,pos,af,some (j,want)⟩::os) k f H Q:=⟨fun t fs U E=>by
 obtain⟨Z,h3,h4⟩:=jJ (s:=⟨t,sz,{H with log:=[]}⟩) (d:=some d) (v:=undef) hd
 have A:=hw t U
 have hi:ep ops ⟨some d,op,ty,pos,af,some (j,want)⟩ ⟨t,sz,H⟩ H.next []= .v:=by unfold ep;simp only[A,a1E,a1P,cond_true]
 obtain⟨n,e,s',h1,h2⟩:=h.out Z ((i,.v)::fs) (by rw[h4,U];rfl) ⟨V,V,E⟩
 refine⟨n,e,s',?_,h2⟩
 have O:step P G (call P G K n) ops ⟨some d,op,ty,pos,af,some (j,want)⟩ ⟨t,sz,{H with log:=[]}⟩=some ⟨Z,sz,{H with log:=[]}⟩:=by unfold step;simp only[A,cond_false];exact h3
 have hc:b7 ops (b5 ops) i .v fs=true:=jS fun j g _=>by cases g<;>simp[dr]
 unfold bg hZ
 rw[O]
 simp only[hi,hc,cond_true,dN,a0i]
 exact h1⟩
theorem fZ{v want:Bool}{j:Nat}(O:cy ops f j=some v)(E:v= !want)(hd:Nat.ble (d+1) sz=true)(h:WF2 P G K sz ops ((i,.v)::D) (i+1) os k (upd f d undef) H Q):
  WF2 P G K sz ops D i (⟨some d,op,ty,pos,af,some (j,want)⟩::os) k f H Q:=
 kz (fun t A=>by rw[iN A O _ V,E];cases want<;>rfl) hd h
theorem wf_gn{want:Bool}{j:Nat}(E:cy ops f j=none)(hd:Nat.ble (d+1) sz=true)(h:WF2 P G K sz ops ((i,.v)::D) (i+1) os k (upd f d undef) H Q):
  WF2 P G K sz ops D i (⟨some d,op,ty,pos,af,some (j,want)⟩::os) k f H Q:=
 kz (fun t A=>by
  unfold aW;have:lR ops t j=none:=by rw[←E,←A];rfl
  simp only[this];cases want<;>rfl) hd h
theorem wf_gsT{v:Bool}{j:Nat}(A:cy ops f j=some v)(hd:Nat.ble (d+1) sz=true)(E:v=true->WF2 P G K sz ops D i (⟨some d,op,ty,pos,af,none⟩::os) k f H Q)(O:v=false->WF2 P G K sz ops ((i,.v)::D) (i+1) os k (upd f d undef) H Q):
  WF2 P G K sz ops D i (⟨some d,op,ty,pos,af,some (j,true)⟩::os) k f H Q:=by
 cases v with
 |true=>exact fY A V (E V)
 |false=>exact fZ A V hd (O V)
end
end Go.R
end
noncomputable section
namespace Go.R
theorem lK{n:Int}(h:in64 n):IntKind.i64.wrap n=n:=by
 have e:IntKind.i64.wrap n=if(true&&decide (n%(2^64:Int)>=(2^63:Int))) then n%(2^64:Int)-(2^64:Int) else n%(2^64:Int):=rfl
 rw[e];obtain⟨E,O⟩:=h;by_cases A:0<=n
 ·rw[Int.emod_eq_of_lt A M];have:decide (n>=(2^63:Int))=false:=decide_eq_false M;rw[this];rfl
 have:n%(2^64:Int)=n+2^64:=M
 rw[this];have:decide (n+2^64>=(2^63:Int))=true:=decide_eq_true M;rw[this];simp only[a1q,if_true];omega
theorem mQ{n:Int}(h:0<=n/\n<18446744073709551616):IntKind.u64.wrap n=n:=by show n%(2^64:Int)=n;exact Int.emod_eq_of_lt h.1 M
theorem w_u8{n:Int}(h:0<=n/\n<256):IntKind.u8.wrap n=n:=by show n%(2^8:Int)=n;exact Int.emod_eq_of_lt h.1 M
theorem kF(b:UInt8):(b.toNat:Int)<256:=by have:=UInt8.toNat_lt b;omega
section
variable {α:Type} [Rp α] {P:Program} {ρ:Operand->Value} {d:Option Tmp} {ty:TypeId} {pos:String} {af:Array Edge} {gd:Option (Nat×Bool)} {B:Base} {F:Fz} {H:Heap} {L R:List Fp} {v:Value} {l:List α} {p:Fp}
variable {t yt:TypeId} {x y:Operand} {k:IntKind} {a b c:Int}
theorem dU(k:IntKind):gr k k=true:=by cases k<;>rfl
theorem ja(E:ρ x= .int k a)(O:ρ y= .int k b)(A:k.wrap (a+b)=c):AP P ρ ⟨d,.binOp .add t x y yt,ty,pos,af,gd⟩ H (.val (.int k c),H):=
 jP E O (by subst A;show(bif gr k k then _ else none:Option Value)=_;rw[dU];rfl)
theorem ap_sub(E:ρ x= .int k a)(O:ρ y= .int k b)(A:k.wrap (a-b)=c):AP P ρ ⟨d,.binOp .sub t x y yt,ty,pos,af,gd⟩ H (.val (.int k c),H):=
 jP E O (by subst A;show(bif gr k k then _ else none:Option Value)=_;rw[dU];rfl)
theorem ap_div(O:ρ x= .int k a)(U:ρ y= .int k b)(A:b≠0)(E:k.wrap (a.tdiv b)=c):AP P ρ ⟨d,.binOp .quo t x y yt,ty,pos,af,gd⟩ H (.val (.int k c),H):=by subst E;exact ap_quo O U (dU k) (by simpa using A)
theorem mI(O:ρ x= .int k a)(U:ρ y= .int k b)(A:b≠0)(E:a.tmod b=c):AP P ρ ⟨d,.binOp .rem t x y yt,ty,pos,af,gd⟩ H (.val (.int k c),H):=by subst E;exact ap_rem O U (dU k) (by simpa using A)
theorem ap_cv{s:TypeId}{A:IntKind}{u:TypeDesc}(U:ρ x= .int k a)(hs:P.underlying s=some u)(E:P.underlying t=some (.int A))(O:A.wrap a=c):
  AP P ρ ⟨d,.convert s t x,ty,pos,af,gd⟩ H (.val (.int A c),H):=by subst O;exact ap_conv U hs E
theorem ap_ng(E:ρ x= .int k a)(A:k.wrap (0-a)=c):AP P ρ ⟨d,.unOp .neg t x,ty,pos,af,gd⟩ H (.val (.int k c),H):=by subst A;exact ap_neg E
theorem ew{op:BinOp}{r:Bool}(E:ρ x= .int k a)(O:ρ y= .int k b)(A:ml op k a b=some (.bool r))(hs:li op=false):AP P ρ ⟨d,.binOp op t x y yt,ty,pos,af,gd⟩ H (.val (.bool r),H):=
 jP E O (by rw[hs,dU];exact A)
variable {s u:List UInt8}
theorem ap_idxS{i:Operand}{E:IntKind}{j:Int}{A:UInt8}(Z:ρ x= .string ⟨⟨s⟩⟩)(hi:ρ i= .int E j)(U:P.underlying t=some .string)(O:0<=j)(hc:s[j.toNat]?=some A):
  AP P ρ ⟨d,.index t x i,ty,pos,af,gd⟩ H (.val (.int .u8 A.toNat),H):=by
 refine⟨?_⟩
 obtain⟨m,rfl⟩:=a0K O
 show lF P t (ρ x) (ρ i) H=_
 rw[Z,hi]
 show ovl (strAt P t ⟨⟨s⟩⟩ (.int E (Int.ofNat m))) H=_
 unfold strAt
 rw[U]
 show ovl (match nth s m with|some b=>some (.int .u8 b.toNat)|none=>none) H=_
 rw[fV]
 have:s[m]?=some A:=hc
 rw[this];rfl
theorem ap_eqS(A:ρ x= .string ⟨⟨s⟩⟩)(E:ρ y= .string ⟨⟨u⟩⟩):AP P ρ ⟨d,.binOp .eql t x y yt,ty,pos,af,gd⟩ H (.val (.bool (s==u)),H):=ap_str A E V
theorem ap_neS(A:ρ x= .string ⟨⟨s⟩⟩)(E:ρ y= .string ⟨⟨u⟩⟩):AP P ρ ⟨d,.binOp .neq t x y yt,ty,pos,af,gd⟩ H (.val (.bool (s !=u)),H):=ap_str A E V
theorem ap_leS(A:ρ x= .string ⟨⟨s⟩⟩)(E:ρ y= .string ⟨⟨u⟩⟩):AP P ρ ⟨d,.binOp .leq t x y yt,ty,pos,af,gd⟩ H (.val (.bool (Op.bytesLess s u||s==u)),H):=ap_str A E V
theorem ap_ltS(A:ρ x= .string ⟨⟨s⟩⟩)(E:ρ y= .string ⟨⟨u⟩⟩):AP P ρ ⟨d,.binOp .lss t x y yt,ty,pos,af,gd⟩ H (.val (.bool (Op.bytesLess s u)),H):=ap_str A E V
theorem jD(E:ρ x= .string ⟨⟨s⟩⟩)(O:ρ y= .string ⟨⟨u⟩⟩)(A:s.length+u.length<=1099511627776):AP P ρ ⟨d,.binOp .add t x y yt,ty,pos,af,gd⟩ H (.val (.string ⟨⟨s++u⟩⟩),H):=
 ap_str E O (by
  show(bif Nat.ble (eG (kv s u)) 1099511627776 then some (Value.string ⟨⟨kv s u⟩⟩) else none)=_;rw[d9,be,a00,a0t A];rfl)
def cutAt(n:Nat)(lo hi:Option Value)(i j:Nat):Prop:=bnds n n lo hi=some (i,j)
theorem nG{n k i j:Nat}{lo hi:Option Value}(E:bZ n hi=some j)(O:bZ 0 lo=some i)(A:i<=j)(U:j<=k):bnds n k lo hi=some (i,j):=by unfold bnds;simp only[E,O,a0t A,a0t U,a1q,cond_true]
theorem optN{d:Nat}{E:IntKind}{j:Int}(A:0<=j):bZ d (some (.int E j))=some j.toNat:=by obtain⟨m,rfl⟩:=a0K A;rfl
theorem optN0{d:Nat}:bZ d none=some d:=rfl
theorem ap_slS{lo hi:Option Operand}{i j:Nat}(hx:ρ x= .string ⟨⟨s⟩⟩)(Z:P.underlying t=some .string)(E:bZ s.length (hi.map ρ)=some j)(O:bZ 0 (lo.map ρ)=some i)(A:i<=j)(U:j<=s.length):
  AP P ρ ⟨d,.slice t x lo hi none,ty,pos,af,gd⟩ H (.val (.string ⟨⟨(s.drop i).take (j-i)⟩⟩),H):=by
 refine⟨?_⟩
 show ovl (bj P t (ρ x) (lo.map ρ) (hi.map ρ) (Option.map ρ none) H) H=_
 rw[hx]
 unfold bj
 simp only[a1K,Z]
 show ovl (match bnds (eG s) (eG s) (lo.map ρ) (hi.map ρ) with|some (l,r)=>some (.string ⟨⟨dL (dX s l) (r-l)⟩⟩)|none=>none) H=_
 rw[be,nG E O A U]
 simp only[bu,bE];rfl
theorem Sl_cut{F:Fz}{o:AObj}{off k i j:Nat}{l:List α}(h:Sl F o off k l)(aA:i<=j)(hj:j<=l.length):Sl F o (off+i *Rp.sz α) (k-i) ((l.take j).drop i):=by
 obtain⟨cs,Z,ro,rfl,E,h2,O,h4⟩:=h;have hl:=O.length;have A:((l.take j).drop i).length=j-i:=by simp;omega
 refine⟨cs,Z,ro,V,fun U=>?_,by rw[A];omega,?_,h4⟩
 ·replace E:=E U;have:i *Rp.sz α+(k-i) *Rp.sz α=k *Rp.sz α:=by rw[←a18];congr 1;omega
  omega
 have h5:=(O.take j).drop i;have e:((cs.drop (off+i *Rp.sz α)).take (((l.take j).drop i).length *Rp.sz α))=(((cs.drop off).take (l.length *Rp.sz α)).take (j *Rp.sz α)).drop (i *Rp.sz α):=by rw[A,List.take_take,a21,a23];congr 1;have:j *Rp.sz α<=l.length *Rp.sz α:=a0B _ hj;rw[Nat.min_eq_left this,Nat.sub_mul]
 rw[e];exact h5
theorem Sl_at0{F:Fz}{o:AObj}{off k:Nat}{l:List α}(h:Sl F o off k l):Sl F o off 0 ([]:List α):=by obtain⟨cs,E,Z,rfl,O,h2,h3,U⟩:=h;exact⟨cs,E,Z,V,fun A=>(by have:=O A;omega),a08 _,by simp[RL],U⟩
theorem cut_val{lo hi:Option Operand}{t e:TypeId}{i j off k bb:Nat}{o:AObj}(hx:ρ x= .slice (some ⟨bb,off,none⟩) l.length k)(ht:P.underlying t=some (.slice e))(hz:cT P e=some (Rp.sz α))(hb:H.get bb=some o)(h:Sl F o off k l)
  (h1:bZ l.length (hi.map ρ)=some j) (h2:bZ 0 (lo.map ρ)=some i) (an:i<=j) (hj:j<=l.length):
  ∃U k',AP P ρ ⟨d,.slice t x lo hi none,ty,pos,af,gd⟩ H (.val (.slice (some ⟨bb,U,none⟩) ((l.take j).drop i).length k'),H)/\Sl F o U k' ((l.take j).drop i):=by
 obtain⟨cs,ar,ro,rfl,g1,g2,g3,g4⟩:=h
 have A:((l.take j).drop i).length=j-i:=by simp;omega
 have O:=Sl_cut (F:=F) (o:= .cells cs ar ro) ⟨cs,ar,ro,V,g1,g2,g3,g4⟩ an hj
 have Z: ∀w,bj P t (.slice (some ⟨bb,off,none⟩) l.length k) (lo.map ρ) (hi.map ρ) none H=some w->AP P ρ ⟨d,.slice t x lo hi none,ty,pos,af,gd⟩ H (.val w,H):=by intro w hw;refine⟨?_⟩;show ovl (bj P t (ρ x) (lo.map ρ) (hi.map ρ) (Option.map ρ none) H) H=_;rw[hx,a1K,hw];rfl
 have E:=nG (n:=l.length) (k:=k) h1 h2 an (a0k hj g2)
 rcases g4 with rfl|rfl
 ·cases hk:Nat.beq k i with
  |true=>
   have a8:=a07 hk
   have e0:(l.take j).drop i=[]:=a0j (by rw[A];omega)
   refine⟨off,k-i,Z _ ?_,?_⟩
   ·unfold bj;simp only[ht,E,hz,hb,hk,cond_true,A]
   rw[e0,a8,a1Y]
   exact Sl_at0 (k:=k) (l:=l) ⟨cs,none,ro,V,g1,g2,g3,.inl V⟩
  |false=>
   refine⟨off+i *Rp.sz α,k-i,Z _ ?_,O⟩
   unfold bj
   simp only[ht,E,hz,hb,hk,cond_false,A]
 refine⟨off+i *Rp.sz α,k-i,Z _ ?_,O⟩
 unfold bj
 simp only[ht,E,hz,hb,a0Y,cond_true,A]
theorem nil_cut{lo hi:Option Operand}{t e:TypeId}{i j:Nat}{sz:Nat}(hx:ρ x= .slice none 0 0)(ht:P.underlying t=some (.slice e))(hz:cT P e=some sz)(O:bZ 0 (hi.map ρ)=some j)(U:bZ 0 (lo.map ρ)=some i)(E:i<=j)(Z:j<=0):
  AP P ρ ⟨d,.slice t x lo hi none,ty,pos,af,gd⟩ H (.val (.slice none 0 0),H):=by
 refine⟨?_⟩
 show ovl (bj P t (ρ x) (lo.map ρ) (hi.map ρ) (Option.map ρ none) H) H=_
 rw[hx]
 unfold bj
 have A:=nG (n:=0) (k:=0) O U E Z
 simp only[a1K,ht,A,hz,Option.isSome_some,cond_true]
 rfl
theorem sr_cut{lo hi:Option Operand}{t e:TypeId}{i j:Nat}(h:SR F v l)(hs:HS B F H L R)(hx:ρ x=v)(ht:P.underlying t=some (.slice e))(hz:cT P e=some (Rp.sz α))
  (U:bZ l.length (hi.map ρ)=some j) (Z:bZ 0 (lo.map ρ)=some i) (A:i<=j) (hj:j<=l.length):
  ∃a k,AP P ρ ⟨d,.slice t x lo hi none,ty,pos,af,gd⟩ H (.val (.slice a ((l.take j).drop i).length k),H)/\SR F (.slice a ((l.take j).drop i).length k) ((l.take j).drop i):=by
 rcases h with⟨rfl,rfl⟩|⟨b,off,k,o,rfl,O,g2⟩
 ·have e0:(([]:List α).take j).drop i=[]:=by simp
  rw[e0];exact⟨none,0,nil_cut hx ht hz U Z A (by simpa using hj),SR.nil⟩
 obtain⟨E,k',h3,h4⟩:=cut_val hx ht hz (hs.fz b o O).1 g2 U Z A hj
 exact⟨_,k',h3,.inr ⟨b,E,k',o,V,O,h4⟩⟩
theorem os_lit{t:TypeId}{n:Nat}{z:List Value}{A:Array (Nat×Operand)}{cells:List Value}(hs:HS B F H L R)(hi:dB P t=some (Rp.sz α,z))(hn:Nat.ble (n *Rp.sz α) 16777216=true)
  (Z:Instr.fill (fun i=>some (i *Rp.sz α,Rp.sz α)) ⟨cC n z⟩ (dM (fun p=>(p.1,ρ p.2)) A.toList)=some ⟨cells⟩) (E:RL F cells l) (hl:l.length=n):
  ∃a H1 O,AP P ρ ⟨d,.buildSlice t n A,ty,pos,af,gd⟩ H (.val (.slice a n n),H1)/\OS F (.slice a n n) l O/\HS B F H1 (L++[O]) R/\∀b,b∈H1.log->b∈H.log:=by
 subst hl
 refine⟨_,_,[(H.next,.cells cells none false)],i9 hi hn Z,?_,hs.push _,fun b U=>by simpa using U⟩
 have:=E.length
 exact .inr ⟨H.next,0,l.length,cells,none,V,V,_,_,_,V,fun _=>M,a08 _,by rw[a0I,←this,a0T];exact E,.inl V⟩
theorem ap_app{A E:Operand}{st O:TypeId}{u w:Value}{H1:Heap}(Z:ρ A=v)(hy:ρ E=u)(U:fQ P #[st,O] v u H=some (w,H1)):AP P ρ ⟨d,.call ⟨.builtin .append, #[A,E], #[st,O]⟩,ty,pos,af,gd⟩ H (.val w,H1):=by refine⟨?_⟩;show ovh (fQ P #[st,O] (ρ A) (ρ E) H)=_;rw[Z,hy,U];rfl
theorem os_app{s0 x0:Operand}{st e:TypeId}{u:Value}{l2:List α}{q E:Nat}{z:List Value}(h:OS F v l p)(hs:HS B F H L R)(hq:L[q]?=some p)(hx:ρ s0=v)(hy:ρ x0=u)(hu:Sv F H.get u l2)(ht:P.underlying st=some (.slice e))
  (hz:cT P e=some (Rp.sz α)) (Z:ff P e=some E) (ax:cw P e=some z) (ar:Nat.beq (eG z) (Rp.sz α)=true) (U:Nat.ble E 4096=true) (an:Nat.beq (Rp.sz α) 0=false) (O:l.length+l2.length<=2147483648):
  ∃a k H1 A,AP P ρ ⟨d,.call ⟨.builtin .append, #[s0,x0], #[st,st]⟩,ty,pos,af,gd⟩ H (.val (.slice a (l++l2).length k),H1)/\OS F (.slice a (l++l2).length k) (l++l2) A/\HS B F H1 (L.set q A) R:=by
 obtain⟨h1,new,h2,h3⟩:=hu.first
 obtain⟨a,k,H1,A,h4,h5,h6⟩:=os_append (types:= #[st,st]) h hs hq (x:=u) V V ht ht (by intro k hk;cases hk) hz Z ax ar U an h1 h2 h3 O
 exact⟨a,k,H1,A,ap_app hx hy h4,h5,h6⟩
theorem os_st{t:TypeId}{O Z:Operand}{j q off n b o:Nat}{w:Value}{y y':α}{cl:List Value}(h:OS F v l p)(hs:HS B F H L R)(hq:L[q]?=some p)(ha:ρ O= .pointer (some ⟨b,o,none⟩))(hb:b=sB v)(ho:o=sO v+j *Rp.sz α+off)(hx:ρ Z=w)(hn:cT P t=some n)(hc:w.cells.toList=cl)(hl:Nat.beq cl.length n=true)
  (hy:l[j]?=some y) (h1:lQ Value.oneCell' cl=true) (hr: ∀cs,Rp.rep F cs y->off+cl.length<=cs.length/\Rp.rep F (aZ cs off cl) y'):
  ∃H1 A,AP P ρ ⟨d,.store t O Z,ty,pos,af,gd⟩ H (.skip,H1)/\OS F v (l.set j y') A/\HS B F H1 (L.set q A) R/\∀b cs E,p=[(b,.cells cs E false)]->∃U,A=[(b,.cells U E false)]:=by
 subst hb ho
 obtain⟨H1,A,h2,h3,h4,h5⟩:=os_set h hs hq hy h1 hr
 exact⟨H1,A,ap_st ha hx hn hc hl h2,h3,h4,h5⟩
end
end Go.R
end
noncomputable section
namespace Go.R
theorem agN{f:Fn}:aC f []:=trivial
theorem agC{f:Fn}{i:Nat}{v:Value}{l:List (Nat×Value)}(h:f i=v)(t:aC f l):aC f ((i,v)::l):=⟨h,t⟩
theorem fp{ops:Array Oper}{i:Nat}: ∀D,okD ops i .v D
 | []=>trivial
 |(_,e)::D=>⟨.inr (by cases e<;>trivial),fp D⟩
def fcL{α β:Type}:List α->(List α->β)->β
 | [],k=>k []
 |a::l,k=>fcL l fun r=>k (a::r)
theorem mr{α β:Type}: ∀(l:List α) (k:List α->β),fcL l k=k l
 | [],_=>rfl
 |_::l,_=>mr l _
structure Rs where
 v:Value
 H:Heap
 p:Fp
section
variable {P:Program} {G:Nat} {K:bp} {sz:Nat} {Q:Ex->Fn->Heap->Prop} {ops:Array Oper} {D:List (Nat×ID)} {i:Nat} {os:List Oper} {k:List Fr} {f:Fn} {H H1:Heap} {v:Value}
 {d:Tmp} {op:Op} {ty:TypeId} {pos:String} {af:Array Edge} {Φ:Rs->Prop}
theorem bc(O: ∃r:Rs,AP P (cS f) ⟨some d,op,ty,pos,af,none⟩ H (.val r.v,r.H)/\Φ r)(U:op.operands.toList.all (bd G)=true)(hd:Nat.ble (d+1) sz=true)
  (h: ∀v H1 p,Φ ⟨v,H1,p⟩->WO P G K sz ops os k (upd f d v) H1 Q):WO P G K sz ops (⟨some d,op,ty,pos,af,none⟩::os) k f H Q:=by
 obtain⟨⟨v,H1,p⟩,A,E⟩:=O
 exact ao A U hd (h v H1 p E)
theorem fj(O: ∃r:Rs,AP P (cS f) ⟨none,op,ty,pos,af,none⟩ H (.skip,r.H)/\Φ r)(U:op.operands.toList.all (bd G)=true)
  (h: ∀v H1 p,Φ ⟨v,H1,p⟩->WO P G K sz ops os k f H1 Q):WO P G K sz ops (⟨none,op,ty,pos,af,none⟩::os) k f H Q:=by
 obtain⟨⟨v,H1,p⟩,A,E⟩:=O
 exact wo_skip A U (h v H1 p E)
theorem iL{id:ID}(Z: ∃r:Rs,AP P (cS f) ⟨some d,op,ty,pos,af,none⟩ {H with log:=[]} (.val r.v,r.H)/\Φ r)(ho:op.operands.toList.all (bd G)=true)(hd:Nat.ble (d+1) sz=true)
  (E: ∀v H1 p,Φ ⟨v,H1,p⟩->Did ops f ⟨some d,op,ty,pos,af,none⟩ H.next H1.log id) (O:okD ops i id D)
  (h: ∀v H1 p,Φ ⟨v,H1,p⟩->∀l,(∀b,b∈l->b∈H1.log\/b∈H.log)->WF2 P G K sz ops ((i,id)::D) (i+1) os k (upd f d v) {H1 with log:=l} Q):
  WF2 P G K sz ops D i (⟨some d,op,ty,pos,af,none⟩::os) k f H Q:=by
 obtain⟨⟨v,H1,p⟩,U,A⟩:=Z
 exact wf_val U ho hd (E v H1 p A) O (h v H1 p A)
theorem eA{id:ID}(Z: ∃r:Rs,AP P (cS f) ⟨none,op,ty,pos,af,none⟩ {H with log:=[]} (.skip,r.H)/\Φ r)(ho:op.operands.toList.all (bd G)=true)
  (E: ∀v H1 p,Φ ⟨v,H1,p⟩->Did ops f ⟨none,op,ty,pos,af,none⟩ H.next H1.log id) (O:okD ops i id D)
  (h: ∀v H1 p,Φ ⟨v,H1,p⟩->∀l,(∀b,b∈l->b∈H1.log\/b∈H.log)->WF2 P G K sz ops ((i,id)::D) (i+1) os k f {H1 with log:=l} Q):
  WF2 P G K sz ops D i (⟨none,op,ty,pos,af,none⟩::os) k f H Q:=by
 obtain⟨⟨v,H1,p⟩,U,A⟩:=Z
 exact wf_skip U ho (E v H1 p A) O (h v H1 p A)
end
section
variable {α:Type} [Rp α] {P:Program} {ρ:Operand->Value} {d:Option Tmp} {ty:TypeId} {pos:String} {af:Array Edge} {gd:Option (Nat×Bool)} {B:Base} {F:Fz} {H:Heap} {L R:List Fp} {v:Value} {l:List α} {p:Fp}
def Wr(H H1:Heap)(W:List Nat):Prop:= ∀b,b∈H1.log->b∈H.log\/H.next<=b\/b∈W
theorem Wr.did{H1:Heap}{W:List Nat}(h:Wr {H with log:=[]} H1 W): ∀b,b∈H1.log->H.next<=b\/b∈W:=fun b A=>by
 rcases h b A with h|h|h
 ·simp at h
 ·exact .inl h
 exact .inr h
theorem Wr.nil{H1:Heap}(h: ∀b,b∈H1.log->b∈H.log):Wr H H1 []:=fun b A=> .inl (h b A)
theorem HS.lg{B:Base}{F E:Fz}{A H1:Heap}{L O R U:List Fp}(h:HS B F H1 L R)(Z:HS B E A O U){l:List Nat}(hl: ∀b,b∈l->b∈H1.log\/b∈A.log):HS B F {H1 with log:=l} L R:=
 h.relog fun b hb=>by
  rcases hl b hb with h1|h1
  ·exact h.log b h1
  exact Z.log b h1
theorem mb{e:TypeId}{z:List Value}(hs:HS B F H L R)(E:cw P e=some z):
  ∃r:Rs,AP P ρ ⟨d,.alloc e,ty,pos,af,gd⟩ H (.val r.v,r.H)/\(∃b,r.v= .pointer (some ⟨b,0,none⟩)/\HS B F r.H (L++[[(b,.cells z none false)]]) R/\Wr H r.H []):=
 ⟨⟨_,_,[]⟩,ap_alloc E,_,V,hs.push _,.nil fun b A=>by simpa using A⟩
theorem aX{e:TypeId}{x:Operand}{u:Value}{cs:List Value}(hs:HS B F H L R)(E:ρ x=u)(hc:u.cells.toList=cs):
  ∃r:Rs,AP P ρ ⟨d,.box e x,ty,pos,af,gd⟩ H (.val r.v,r.H)/\(∃b,r.v= .pointer (some ⟨b,0,none⟩)/\HS B F r.H (L++[[(b,.cells cs none false)]]) R/\Wr H r.H []):=
 ⟨⟨_,_,[]⟩,ap_box (by rw[E];exact hc),_,V,hs.push _,.nil fun b A=>by simpa using A⟩
theorem fU{t:TypeId}{n:Nat}{z:List Value}{A:Array (Nat×Operand)}{ps:List (Nat×Value)}{cells:List Value}(l:List α)(hs:HS B F H L R)(O:dM (fun p=>(p.1,ρ p.2)) A.toList=ps)(hi:dB P t=some (Rp.sz α,z))(hn:Nat.ble (n *Rp.sz α) 16777216=true)
  (hf:Instr.fill (fun i=>some (i *Rp.sz α,Rp.sz α)) ⟨cC n z⟩ ps=some ⟨cells⟩) (hr:RL F cells l) (E:l.length=n):
  ∃r:Rs,AP P ρ ⟨d,.buildSlice t n A,ty,pos,af,gd⟩ H (.val r.v,r.H)/\(∃a k,r.v= .slice a l.length k/\OS F (.slice a l.length k) l r.p/\HS B F r.H (L++[r.p]) R/\Wr H r.H []):=by
 subst O
 obtain⟨a,H1,p',U,Z,h3,h4⟩:=os_lit (d:=d) (ty:=ty) (pos:=pos) (af:=af) (gd:=gd) hs hi hn hf hr E
 exact⟨⟨_,H1,p'⟩,U,a,n,by rw[E],by rw[E];exact Z,h3,.nil h4⟩
theorem rs_cut{x:Operand}{lo hi:Option Operand}{t e:TypeId}{i j:Nat}(h:SR F v l)(hs:HS B F H L R)(hx:ρ x=v)(ht:P.underlying t=some (.slice e))(hz:cT P e=some (Rp.sz α))
  (U:bZ l.length (hi.map ρ)=some j) (Z:bZ 0 (lo.map ρ)=some i) (A:i<=j) (hj:j<=l.length):
  ∃r:Rs,AP P ρ ⟨d,.slice t x lo hi none,ty,pos,af,gd⟩ H (.val r.v,r.H)/\(∃a k,r.v= .slice a ((l.take j).drop i).length k/\r.H=H/\SR F (.slice a ((l.take j).drop i).length k) ((l.take j).drop i)):=by
 obtain⟨a,k,E,O⟩:=sr_cut (d:=d) (ty:=ty) (pos:=pos) (af:=af) (gd:=gd) h hs hx ht hz U Z A hj
 exact⟨⟨_,H,[]⟩,E,a,k,V,V,O⟩
theorem rs_app{s0 x0:Operand}{st e:TypeId}{u:Value}{l2:List α}{q A:Nat}{z:List Value}(h:OS F v l p)(hs:HS B F H L R)(hq:L[q]?=some p)(hx:ρ s0=v)(hy:ρ x0=u)(hu:Sv F H.get u l2)(ht:P.underlying st=some (.slice e))
  (hz:cT P e=some (Rp.sz α)) (al:ff P e=some A) (aA:cw P e=some z) (ax:Nat.beq (eG z) (Rp.sz α)=true) (Z:Nat.ble A 4096=true) (ar:Nat.beq (Rp.sz α) 0=false) (O:l.length+l2.length<=2147483648):
  ∃r:Rs,AP P ρ ⟨d,.call ⟨.builtin .append, #[s0,x0], #[st,st]⟩,ty,pos,af,gd⟩ H (.val r.v,r.H)/\(∃a k,r.v= .slice a (l++l2).length k/\OS F (.slice a (l++l2).length k) (l++l2) r.p/\HS B F r.H (L.set q r.p) R/\Wr H r.H (p.map Prod.fst)):=by
 have hc:=hs.callOwn hq
 obtain⟨a,k,H1,p',h1,h2,U⟩:=os_app (d:=d) (ty:=ty) (pos:=pos) (af:=af) (gd:=gd) (q:=0) h hc V hx hy hu ht hz al aA ax Z ar O
 have h4:=hs.backOwn (b_:=[]) hq V (fun b E=>E) U
 exact⟨⟨_,H1,p'⟩,h1,a,k,V,h2,by simpa using h4,fun b E=>U.log b E⟩
theorem iP{t:TypeId}{E x0:Operand}{j q off n b o:Nat}{w:Value}{y:α}(y':α){cl:List Value}(h:OS F v l p)(hs:HS B F H L R)(Z:L[q]?=some p)(ha:ρ E= .pointer (some ⟨b,o,none⟩))(A:b=sB v)(ho:o=sO v+j *Rp.sz α+off)(hx:ρ x0=w)(hn:cT P t=some n)(hc:w.cells.toList=cl)(hl:Nat.beq cl.length n=true)
  (hy:l[j]?=some y) (h1:lQ Value.oneCell' cl=true) (hr: ∀cs,Rp.rep F cs y->off+cl.length<=cs.length/\Rp.rep F (aZ cs off cl) y'):
  ∃r:Rs,AP P ρ ⟨d,.store t E x0,ty,pos,af,gd⟩ H (.skip,r.H)/\(OS F v (l.set j y') r.p/\HS B F r.H (L.set q r.p) R/\Wr H r.H (p.map Prod.fst)):=by
 have U:=hs.callOwn Z
 obtain⟨H1,p',g1,g2,O,_⟩:=os_st (d:=d) (ty:=ty) (pos:=pos) (af:=af) (gd:=gd) (q:=0) h U V ha A ho hx hn hc hl hy h1 hr
 have h4:=hs.backOwn (b_:=[]) Z V (fun b A=>A) O
 exact⟨⟨.bool true,H1,p'⟩,g1,g2,by simpa using h4,fun b A=>O.log b A⟩
theorem cn{t:TypeId}{U x0:Operand}{q n b o:Nat}{w:Value}{cl cs A:List Value}(hs:HS B F H L R)(hq:L[q]?=some [(b,.cells cs none false)])(ha:ρ U= .pointer (some ⟨b,o,none⟩))(hx:ρ x0=w)(hn:cT P t=some n)(hc:w.cells.toList=cl)(hl:Nat.beq cl.length n=true)
  (E:Nat.ble (o+cl.length) cs.length=true) (h1:lQ Value.oneCell' cl=true) (O:fcL (aZ cs o cl) some=some A):
  ∃r:Rs,AP P ρ ⟨d,.store t U x0,ty,pos,af,gd⟩ H (.skip,r.H)/\(HS B F r.H (L.set q [(b,.cells A none false)]) R/\Wr H r.H [b]):=by
 have O:aZ cs o cl=A:=by rw[mr]at O;exact Option.some.inj O
 have al:=hs.callOwn hq
 obtain⟨H1,g1,Z⟩:=al.st (i:=0) V E h1 O
 have h4:=hs.backOwn (b_:=[]) hq V (fun b E=>E) Z
 exact⟨⟨.bool true,H1,[]⟩,ap_st ha hx hn hc hl g1,by simpa using h4,fun b E=>Z.log b E⟩
end
theorem flat_sub{β:Type}{A L:List (List β)}(h:List.Sublist A L):List.Sublist A.flatten L.flatten:=by
 induction h with
 |slnil=>exact List.Sublist.refl _
 |cons a _ ih=>rw[a0X];exact ih.trans (List.sublist_append_right _ _)
 |cons_cons a _ ih=>rw[a0X,a0X];exact(List.Sublist.refl a).append ih
theorem HS.sub{B:Base}{F:Fz}{H:Heap}{L O R:List Fp}(h:HS B F H L R)(A:List.Sublist O L):HS B F H O R:=
 ⟨h.fz,fun p E b o U=>h.own p (E.imp (fun x=>A.subset x) id) b o U,((flat_sub (A.append (List.Sublist.refl R))).map _).nodup h.nd,h.n0,h.log,fun p E=>h.mine p (A.subset E)⟩
theorem HS.forget{B:Base}{F:Fz}{H:Heap}{L R:List Fp}(h:HS B F H L R):HS B F H [] R:=h.sub (List.nil_sublist _)
theorem HS.only{B:Base}{F:Fz}{H:Heap}{L R:List Fp}{p:Fp}(h:HS B F H L R){i:Nat}(hi:L[i]?=some p):HS B F H [p] R:=h.sub (List.singleton_sublist.2 (a0p hi))
theorem HS.thaw{B:Base}{F F1 F2:Fz}{H H':Heap}{L R:List Fp}{i:Nat}{p:Fp}(h:HS B F H L R)(hi:L[i]?=some p)(hF:F.le F1)(hp: ∀b o,(b,o)∈p->F1 b=some o)(Z:F1.le F2)(k:HS B F2 H' (L.set i []) R):HS B F H' L R:=by
 obtain⟨A,C,e1,e2⟩:=gu L i p hi;refine⟨fun b o O=>k.fz b o (Z _ _ (hF _ _ O)),fun x E b o O=>?_,h.nd,k.n0,k.log,h.mine⟩;have U:=(h.own x E b o O).2.2;by_cases al:x=p
 ·subst al;obtain⟨g1,g2⟩:=k.fz b o (Z _ _ (hp b o O));exact⟨g1,g2,U⟩
 have hk:x∈L.set i []\/x∈R:=by
  rcases E with E|E
  ·left;rw[e2];rw[e1]at E;rcases a0e.1 E with E|E
   ·exact a0e.2 (.inl E)
   rcases a0o.1 E with E|E
   ·exact absurd E al
   exact a0e.2 (.inr (a0g _ E))
  exact .inr E
 obtain⟨g1,g2,_⟩:=k.own x hk b o O;exact⟨g1,g2,U⟩
section
variable {α:Type} [Rp α] {F:Fz} {B:Base} {H:Heap} {L R:List Fp} {v:Value} {l:List α} {p:Fp}
theorem OS.frz(h:OS F v l p)(hs:HS B F H L R){i:Nat}(hi:L[i]?=some p): ∃F',F.le F'/\HS B F' H (L.set i []) R/\SR F' v l/\∀b o,(b,o)∈p->F' b=some o:=by
 obtain⟨F',O,Z,U⟩:=hs.freeze hi;refine⟨F',O,Z,?_,U⟩;rcases h with⟨A,E,_⟩|⟨b,off,k,cs,an,A,E,h6⟩
 ·exact .inl ⟨A,E⟩
 exact .inr ⟨b,off,k,_,A,U b _ (by rw[E];simp),h6.mono O⟩
end
theorem bC{β:Type}{l:List β}{j:Nat}{x:β}(h:j<l.length):l[j]?=some (l.getD j x):=by rw[a0b,a09 h];rfl
theorem BS:(∀a b:Bool,((a&&b)=true)=(a=true/\b=true))/\(∀a b:Bool,((a||b)=true)=(a=true\/b=true))/\(∀a b:Bool,((a&&b)=false)=(a=true->b=false))/\(∀a b:Bool,((a||b)=false)=(a=false/\b=false))/\
  (∀a:Bool,((!a)=true)=(a=false))/\(∀a:Bool,((!a)=false)=(a=true))/\(∀(q:Prop) [Decidable q],(decide q=true)=q)/\(∀(q:Prop) [Decidable q],(decide q=false)= ¬q)/\
  (∀a b:Int,((a==b)=true)=(a=b))/\(∀a b:Int,((a==b)=false)=(a≠b))/\(∀a b:Int,((a !=b)=true)=(a≠b))/\(∀a b:Int,((a !=b)=false)=(a=b))/\
  (∀a b:List UInt8,((a==b)=true)=(a=b))/\(∀a b:List UInt8,((a==b)=false)=(a≠b))/\(∀a b:List UInt8,((a !=b)=true)=(a≠b))/\(∀a b:List UInt8,((a !=b)=false)=(a=b))/\
  (∀a b:Bool,((a==b)=true)=(a=b))/\(∀a b:Bool,((a==b)=false)=(a≠b))/\(∀a b:Bool,((a !=b)=true)=(a≠b))/\(∀a b:Bool,((a !=b)=false)=(a=b)):=by
 refine⟨?_,?_,?_,?_,?_,?_,?_,?_,?_,?_,?_,?_,?_,?_,?_,?_,?_,?_,?_,?_⟩<;>intros<;>simp
theorem BT:(∀a:Bool,(true&&a)=a)/\(∀a:Bool,(false&&a)=false)/\(∀a:Bool,(a&&true)=a)/\(∀a:Bool,(a&&false)=false)/\(∀a:Bool,(true||a)=true)/\(∀a:Bool,(false||a)=a)/\(∀a:Bool,(a||true)=true)/\(∀a:Bool,(a||false)=a)/\(!true)=false/\(!false)=true:=by simp
theorem Lr{lo hi:Nat}{ex:List Nat}{f:Fn}:Leaves lo hi ex f f:= .refl
theorem Lu{lo hi:Nat}{ex:List Nat}{f A:Fn}{i:Nat}{v:Value}(E:inR lo hi ex i=true)(h:Leaves lo hi ex f A):Leaves lo hi ex f (upd A i v):= .upd E h
section
variable {P:Program} {G:Nat} {K:bp} {sz:Nat} {Q:Ex->Fn->Heap->Prop} {ops:Array Oper} {D:List (Nat×ID)} {i:Nat} {os:List Oper} {k:List Fr} {f:Fn} {H H1:Heap} {d:Tmp} {ty:TypeId} {pos:String} {af:Array Edge} {x:Operand}
theorem wm(v:Value)(E:cS f x=v)(A:(Op.move x).operands.toList.all (bd G)=true)(hd:Nat.ble (d+1) sz=true)(h:WO P G K sz ops os k (upd f d v) H Q):WO P G K sz ops (⟨some d,.move x,ty,pos,af,none⟩::os) k f H Q:=ao (ap_move E) A hd h
theorem wa(v:Value)(E:cS f x=v)(A:(Op.assign x).operands.toList.all (bd G)=true)(hd:Nat.ble (d+1) sz=true)(h:WO P G K sz ops os k (upd f d v) H Q):WO P G K sz ops (⟨some d,.assign x,ty,pos,af,none⟩::os) k f H Q:=ao (lC E) A hd h
theorem fm(v:Value)(E:cS f x=v)(A:(Op.move x).operands.toList.all (bd G)=true)(hd:Nat.ble (d+1) sz=true)(h:WF2 P G K sz ops ((i,.v)::D) (i+1) os k (upd f d v) H Q):WF2 P G K sz ops D i (⟨some d,.move x,ty,pos,af,none⟩::os) k f H Q:=aM (ap_move E) A hd (iz V) (fp _) h
theorem fa(v:Value)(E:cS f x=v)(A:(Op.assign x).operands.toList.all (bd G)=true)(hd:Nat.ble (d+1) sz=true)(h:WF2 P G K sz ops ((i,.v)::D) (i+1) os k (upd f d v) H Q):WF2 P G K sz ops D i (⟨some d,.assign x,ty,pos,af,none⟩::os) k f H Q:=aM (lC E) A hd (iz V) (fp _) h
end
end Go.R
end
noncomputable section
set_option linter.unusedVariables false
namespace Go.R
section
variable {P:Program} {G:Nat} {K:bp} {sz:Nat} {Q:Ex->Fn->Heap->Prop} {ops:Array Oper} {D:List (Nat×ID)} {i:Nat} {os:List Oper} {k:List Fr} {f:Fn} {H:Heap} {v:Value}
 {d:Tmp} {op:Op} {ty:TypeId} {pos:String} {af:Array Edge}
def cB:ID->ID->Bool
 | .v,_=>true
 |_,.v=>true
 |_,.x _=>false
 | .x _,.a=>true
 | .x _,_=>false
 | .s _,_=>false
 |_,.s _=>false
 |_,_=>true
theorem cB_ok{j i:Nat}{e d:ID}(h:cB e d=true):cE ops j i e d:=by cases e<;>cases d<;>first|exact trivial|cases h
def okB(ops:Array Oper)(i:Nat)(d:ID):List (Nat×ID)->Bool
 | []=>true
 |(j,e)::D=>(cB e d||aY (b5 ops) j i)&&okB ops i d D
theorem kb: ∀{D:List (Nat×ID)} {e:ID},okB ops i e D=true->okD ops i e D
 | [],_,_=>trivial
 |(j,g)::D,e,h=>by unfold okB at h;rw[a06,a0P]at h;exact⟨h.1.elim (fun h=> .inr (cB_ok h)) .inl,kb h.2⟩
theorem wfv(A:AP P (cS f) ⟨some d,op,ty,pos,af,none⟩ {H with log:=[]} (.val v,{H with log:=[]}))
  (h:WF2 P G K sz ops ((i,.v)::D) (i+1) os k (upd f d v) H Q) (O:aP op=true:=by rfl) (E:op.operands.toList.all (bd G)=true:=by rfl) (hd:Nat.ble (d+1) sz=true:=by rfl):WF2 P G K sz ops D i (⟨some d,op,ty,pos,af,none⟩::os) k f H Q:=aM A E hd (iz O) (fp _) h
end
end Go.R
end
noncomputable section
set_option linter.unusedVariables false
namespace Go.R
open Go
section
variable {I d_:Int->Value->Prop} {es:List (Value×Value)}
def TabI(I:Int->Value->Prop)(es:List (Value×Value)):Prop:= ∀e,e∈es->∃k,e.1= .int .i64 k/\I k e.2
end
section
variable {P:Program} {ρ:Operand->Value} {d:Option Tmp} {ty:TypeId} {pos:String} {af:Array Edge} {gd:Option (Nat×Bool)} {B:Base} {F:Fz} {H:Heap} {L R:List Fp} {I:Int->Value->Prop} {es:List (Value×Value)}
end
end Go.R
end
