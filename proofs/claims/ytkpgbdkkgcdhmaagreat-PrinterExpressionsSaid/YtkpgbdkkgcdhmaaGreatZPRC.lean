/-
Symbolic runs: heaps with owners, what cells stand for.
-/
import Derived.Test.YtkpgbdkkgcdhmaaGreatZPRB
noncomputable section
set_option linter.unusedVariables false
set_option linter.unusedSimpArgs false
namespace Go.R
abbrev Fn:=Nat->Value
def upd(f:Fn)(i:Nat)(v:Value):Fn:=fun j=>bif Nat.beq i j then v else f j
def updO(f:Fn)(d:Option Tmp)(v:Value):Fn:=match d with
 |some d=>upd f d v
 |none=>f
def kC(f:Fn):List (Nat×Value)->Fn
 | []=>f
 |(i,v)::l=>upd (kC f l) i v
def aN(f:Fn):List (Nat×Value)->Prop
 | []=>True
 |(i,v)::l=>f i=v/\aN f l
def dx(f:Fn):Operand->Value
 | .tmp t=>f t
 | .const v=>v
 | .global g=> .pointer (some ⟨g,0,none⟩)
 | .func i=> .func (.func i) #[] #[]
def argF(l:List Value):Fn:=fun j=>l.getD j undef
theorem upd_self(f:Fn){i:Nat}{v:Value}(h:f i=v):upd f i v=f:=by
 funext j;unfold upd;cases hb:Nat.beq i j with
 |true=>have:=a07 hb;subst this;exact h.symm
 |false=>rfl
theorem hN{f:Fn}: ∀{l:List (Nat×Value)},aN f l->kC f l=f
 | [],_=>rfl
 |(i,v)::l,h=>by unfold kC;rw[hN h.2];exact upd_self f h.1
theorem lget_lset_fn(t:Tr Value)(d:Nat)(v:Value):cy (lset t d v)=upd (cy t) d v:=by
 funext j;rw[fZ];unfold upd;by_cases h:d=j
 ·subst h;rw[if_pos rfl,a0S];rfl
 rw[if_neg h];cases hb:Nat.beq d j with
 |true=>exact absurd (a07 hb) h
 |false=>rfl
theorem eO(t:Tr Value):cW t=dx (cy t):=by funext x;cases x<;>rfl
theorem argTmps_fn(args:List Value):cy (eS 0 args .nil)=argF args:=by
 funext j;rw[gX];unfold argF;by_cases h:j<args.length
 ·rw[if_pos (by omega)];rfl
 rw[if_neg (by omega),a09,a1g (by omega)];rfl
inductive Fr where
 |seq (b:Code)
 |block (id:Nat)
section
variable {P:Program} {G:Nat} {K:bp} {sz:Nat} {Q:Ex->Fn->Heap->Prop}
def runK(P:Program)(G:Nat)(K:bp)(n:Nat):List Fr->Option (Ex×St)->Option (Ex×St)
 | [],r=>r
 | .seq b::k,r=>runK P G K n k (gf r (lm P G K n b))
 | .block id::k,r=>runK P G K n k (cO id r)
theorem dM{n m:Nat}(h:n<=m): ∀(k:List Fr) (r r':Option (Ex×St)),(∀x,r=some x->r'=some x)->∀x,runK P G K n k r=some x->runK P G K m k r'=some x
 | [],r,r',hr,x,hx=>hr x hx
 | .seq b::k,r,r',hr,x,hx=>dM h k _ _ (fun _ A=>gu hr (fun s y A=>io h b s y A) A) x hx
 | .block id::k,r,r',hr,x,hx=>dM h k _ _ (fun _ A=>i5 hr A) x hx
structure WK(P:Program)(G:Nat)(K:bp)(sz:Nat)(c:Code)(k:List Fr)(f:Fn)(H:Heap)(Q:Ex->Fn->Heap->Prop):Prop where
 out: ∀t,cy t=f->∃n e s',runK P G K (n+1) k (lm P G K (n+1) c ⟨t,sz,H⟩)=some (e,s')/\Q e (cy s'.tmps) s'.heap
structure WO(P:Program)(G:Nat)(K:bp)(sz:Nat)(ops:Array Oper)(os:List Oper)(k:List Fr)(f:Fn)(H:Heap)(Q:Ex->Fn->Heap->Prop):Prop where
 out: ∀t,cy t=f->∃n e s',runK P G K (n+1) k (dK (fC P G (call P G K n) ops os ⟨t,sz,H⟩))=some (e,s')/\Q e (cy s'.tmps) s'.heap
structure C(P:Program)(G:Nat)(K:bp)(f:FuncId)(args:List Value)(H:Heap)(R:Value->Heap->Prop):Prop where
 out: ∃n v H',call P G K n f args H=some (v,H')/\R v H'
theorem C.mono{f:FuncId}{args:List Value}{H:Heap}{R A:Value->Heap->Prop}(h:C P G K f args H R)(T: ∀v H',R v H'->A v H'):C P G K f args H A:=by obtain⟨n,v,H',E,O⟩:=h.out;exact⟨n,v,H',E,T _ _ O⟩
variable {c:Code} {k:List Fr} {f:Fn} {H:Heap}
theorem az(h:Q .normal f H):WK P G K sz .skip [] f H Q:=⟨fun t A=>⟨0,.normal,⟨t,sz,H⟩,rfl,by rw[A];exact h⟩⟩
theorem ai{b:Code}(h:WK P G K sz b k f H Q):WK P G K sz .skip (.seq b::k) f H Q:=⟨h.out⟩
theorem ed{id:Nat}(h:WK P G K sz .skip k f H Q):WK P G K sz .skip (.block id::k) f H Q:=⟨h.out⟩
theorem aK{a b:Code}(h:WK P G K sz a (.seq b::k) f H Q):WK P G K sz (.seq a b) k f H Q:=⟨h.out⟩
theorem fh{id:Nat}{b:Code}(h:WK P G K sz b (.block id::k) f H Q):WK P G K sz (.block id b) k f H Q:=⟨h.out⟩
theorem eQ{b:Code}(h:WK P G K sz b (.seq (.loop b)::k) f H Q):WK P G K sz (.loop b) k f H Q:=⟨fun t T=>by
 obtain⟨n,e,V,E,O⟩:=h.out t T;refine⟨n+1,e,V,?_,O⟩;refine dM (Nat.le_succ (n+1)) k _ _ (fun x U=>?_) _ E;show gf (lm P G K (n+2) b ⟨t,sz,H⟩) (lm P G K (n+1) (.loop b))=some x;exact gu (fun y A=>im _ _ _ _ A) (fun _ _ A=>A) U⟩
theorem er{id:Nat}{b:Code}(h:WK P G K sz (.exit id) k f H Q):WK P G K sz (.exit id) (.seq b::k) f H Q:=⟨h.out⟩
theorem fg{id:Nat}(h:WK P G K sz .skip k f H Q):WK P G K sz (.exit id) (.block id::k) f H Q:=⟨fun t O=>by
 obtain⟨n,e,T,A,E⟩:=h.out t O;refine⟨n,e,T,?_,E⟩;show runK P G K (n+1) k (cO id (some (.exit id,⟨t,sz,H⟩)))=_;unfold cO;simp only[a0S,cond_true];exact A⟩
theorem ji{id A:Nat}(E:Nat.beq id A=false)(h:WK P G K sz (.exit id) k f H Q):WK P G K sz (.exit id) (.block A::k) f H Q:=⟨fun t U=>by
 obtain⟨n,e,V,O,T⟩:=h.out t U;refine⟨n,e,V,?_,T⟩;show runK P G K (n+1) k (cO A (some (.exit id,⟨t,sz,H⟩)))=_;unfold cO;simp only[E,cond_false];exact O⟩
theorem jv{n:Nat}{s:St}: ∀k:List Fr,runK P G K n k (some (.ret,s))=some (.ret,s)
 | []=>rfl
 | .seq _::k=>jv k
 | .block _::k=>jv k
theorem ae(h:Q .ret f H):WK P G K sz .ret k f H Q:=⟨fun t A=>⟨0,.ret,⟨t,sz,H⟩,jv k,by rw[A];exact h⟩⟩
theorem cY{x:Operand}{a b:Code}{v:Bool}(hx:dx f x= .bool v)(Y:bg G x=true)(Z:v=true->WK P G K sz a k f H Q)(V:v=false->WK P G K sz b k f H Q):WK P G K sz (.cond x a b) k f H Q:=⟨fun t T=>by
 have A: ∀n,lm P G K (n+1) (.cond x a b) ⟨t,sz,H⟩=bif v then lm P G K (n+1) a ⟨t,sz,H⟩ else lm P G K (n+1) b ⟨t,sz,H⟩:=by intro n;show(bif bg G x then ln (cW t x) _ _ else none)=_;rw[Y,eO,T,hx];rfl
 cases v with
 |true=>
  obtain⟨n,e,U,E,O⟩:=(Z rfl).out t T
  exact⟨n,e,U,by rw[A];exact E,O⟩
 |false=>
  obtain⟨n,e,U,E,O⟩:=(V rfl).out t T
  exact⟨n,e,U,by rw[A];exact E,O⟩⟩
theorem wk_true{x:Operand}{a b:Code}{v:Bool}(O:dx f x= .bool v)(E:v=true)(A:bg G x=true)(h:WK P G K sz a k f H Q):WK P G K sz (.cond x a b) k f H Q:=
 cY O A (fun _=>h) (fun e=>by rw[E]at e;cases e)
theorem lH{x:Operand}{a b:Code}{v:Bool}(O:dx f x= .bool v)(E:v=false)(A:bg G x=true)(h:WK P G K sz b k f H Q):WK P G K sz (.cond x a b) k f H Q:=
 cY O A (fun e=>by rw[E]at e;cases e) (fun _=>h)
theorem ab{id:Nat}{ops:Array Oper}(h:WO P G K sz ops ops.toList k f H Q):WK P G K sz (.region id ops false) k f H Q:=⟨h.out⟩
theorem aA{ops:Array Oper}(h:WK P G K sz .skip k f H Q):WO P G K sz ops [] k f H Q:=⟨h.out⟩
theorem aC(l:List (Nat×Value))(A:aN f l)(h: ∀g,WK P G K sz c k (kC g l) H Q):WK P G K sz c k f H Q:=by have:=h f;rwa [hN A]at this
structure AP(P:Program)(ρ:Operand->Value)(o:Oper)(H:Heap)(r:AN×Heap):Prop where
 eq:aop P ρ o H=some r
def dstOK(d:Option Tmp)(sz:Nat):Bool:=match d with
 |some d=>Nat.ble (d+1) sz
 |none=>true
theorem iX{s:St}{d:Option Tmp}{v:Value}(hd:dstOK d s.size=true): ∃E,s.put d v=some {s with tmps:=E}/\cy E=updO (cy s.tmps) d v:=by
 unfold St.put;cases d with
 |none=>exact⟨s.tmps,rfl,rfl⟩
 |some d=>
  have A:Nat.ble (d+1) s.size=true:=hd
  simp only[A,cond_true]
  exact⟨lset s.tmps d v,rfl,lget_lset_fn _ _ _⟩
section
variable {ops:Array Oper} {o:Oper} {os:List Oper} {v:Value} {H1:Heap}
theorem lN{t:Tr Value}(T:o.guard=none)(U:o.op.operands.toList.all (bg G)=true)(ha:aop P (dx (cy t)) o H=some (.val v,H1))(hd:dstOK o.dst sz=true):
  ∃A,(∀cf,step P G cf ops o ⟨t,sz,H⟩=some ⟨A,sz,H1⟩)/\cy A=updO (cy t) o.dst v:=by
 obtain⟨A,E,O⟩:=iX (s:=⟨t,sz,H1⟩) (v:=v) hd
 refine⟨A,fun cf=>?_,O⟩
 unfold step aW
 simp only[T,cond_true,U,eO,ha]
 exact E
theorem step_skip{t:Tr Value}(T:o.guard=none)(U:o.op.operands.toList.all (bg G)=true)(ha:aop P (dx (cy t)) o H=some (.skip,H1))(hd:dstOK o.dst sz=true):
  ∃A,(∀cf,step P G cf ops o ⟨t,sz,H⟩=some ⟨A,sz,H1⟩)/\cy A=updO (cy t) o.dst undef:=by
 obtain⟨A,E,O⟩:=iX (s:=⟨t,sz,H1⟩) (v:=undef) hd
 refine⟨A,fun cf=>?_,O⟩
 unfold step aW
 simp only[T,cond_true,U,eO,ha]
 exact E
theorem ak{d:Tmp}{op:Op}{ty:TypeId}{pos:String}{af:Array Edge}(ha:AP P (dx f) ⟨some d,op,ty,pos,af,none⟩ H (.val v,H1))(V:op.operands.toList.all (bg G)=true)(hd:Nat.ble (d+1) sz=true)
  (h:WO P G K sz ops os k (upd f d v) H1 Q):WO P G K sz ops (⟨some d,op,ty,pos,af,none⟩::os) k f H Q:=⟨fun t A=>by
 obtain⟨Z,E,O⟩:=lN (P:=P) (G:=G) (ops:=ops) (t:=t) (o:=⟨some d,op,ty,pos,af,none⟩) rfl V (by rw[A];exact ha.eq) hd
 obtain⟨n,e,Y,T,U⟩:=h.out Z (by rw[O,A];rfl)
 refine⟨n,e,Y,?_,U⟩
 rw[bP,E]
 exact T⟩
theorem wo_skip{op:Op}{ty:TypeId}{pos:String}{af:Array Edge}(ha:AP P (dx f) ⟨none,op,ty,pos,af,none⟩ H (.skip,H1))(V:op.operands.toList.all (bg G)=true)
  (h:WO P G K sz ops os k f H1 Q):WO P G K sz ops (⟨none,op,ty,pos,af,none⟩::os) k f H Q:=⟨fun t A=>by
 obtain⟨Z,E,O⟩:=step_skip (P:=P) (G:=G) (ops:=ops) (t:=t) (sz:=sz) (o:=⟨none,op,ty,pos,af,none⟩) rfl V (by rw[A];exact ha.eq) rfl
 obtain⟨n,e,Y,T,U⟩:=h.out Z (by rw[O,A];rfl)
 refine⟨n,e,Y,?_,U⟩
 rw[bP,E]
 exact T⟩
theorem wo_callG{d:Option Tmp}{op:Op}{ty:TypeId}{pos:String}{af:Array Edge}{g:FuncId}{args:List Value}{R:Value->Heap->Prop}(ha:AP P (dx f) ⟨d,op,ty,pos,af,none⟩ H (.enter g args,H1))(ho:op.operands.toList.all (bg G)=true)(hd:dstOK d sz=true)
  (hc:C P G K g args H1 R) (h: ∀v A,R v A->WO P G K sz ops os k (updO f d v) A Q):WO P G K sz ops (⟨d,op,ty,pos,af,none⟩::os) k f H Q:=⟨fun t ht=>by
 obtain⟨O,v,A,Y,hr⟩:=hc.out
 have h0:=h v A hr
 obtain⟨V,h1,h2⟩:=iX (s:=⟨t,sz,A⟩) (v:=v) hd
 obtain⟨E,e,s',h3,h4⟩:=h0.out V (by rw[h2,ht])
 refine⟨Nat.max O E,e,s',?_,h4⟩
 have Z:step P G (call P G K (Nat.max O E)) ops ⟨d,op,ty,pos,af,none⟩ ⟨t,sz,H⟩=some ⟨V,sz,A⟩:=by unfold step aW;simp only[cond_true,ho,eO,ht,ha.eq,e9 (a1t O E) _ _ _ _ Y];exact h1
 rw[bP,Z]
 refine dM (a1n (a0Z O E)) k _ _ (fun x T=>?_) _ h3
 simp only
 cases U:fC P G (call P G K E) ops os ⟨V,sz,A⟩ with
 |none=>rw[U]at T;cases T
 |some y=>rw[gJ (e9 (a0Z O E)) _ _ _ U];rw[U]at T;exact T⟩
theorem jH{d:Tmp}{op:Op}{ty:TypeId}{pos:String}{af:Array Edge}{g:FuncId}{args:List Value}{R:Value->Heap->Prop}(ha:AP P (dx f) ⟨some d,op,ty,pos,af,none⟩ H (.enter g args,H1))(E:op.operands.toList.all (bg G)=true)(hd:Nat.ble (d+1) sz=true)
  (hc:C P G K g args H1 R) (h: ∀v A,R v A->WO P G K sz ops os k (upd f d v) A Q):WO P G K sz ops (⟨some d,op,ty,pos,af,none⟩::os) k f H Q:=wo_callG ha E hd hc h
end
theorem aq{b:Code}(I:Nat->Fn->Heap->Prop)(m:Nat)(V:I m f H)
  (step: ∀m f H,I m f H->(∀E A H',E<m->I E A H'->WK P G K sz (.loop b) k A H' Q)->WK P G K sz b (.seq (.loop b)::k) f H Q):WK P G K sz (.loop b) k f H Q:=by
 have key: ∀n m,m<=n->∀f H,I m f H->WK P G K sz (.loop b) k f H Q:=by
  intro n;induction n with
  |zero=>
   intro m Y f H O
   refine eQ (step m f H O fun E A H' U _=>?_)
   omega
  |succ n ih=>
   intro m Y f H O
   exact eQ (step m f H O fun E A H' U T=>ih E (by omega) A H' T)
 exact key m m (a06 _) f H V
def bZ(P:Program)(f:Fn)(H:Heap):List ResultVar->Option (List Value)
 | []=>some []
 | .tmp t::rs=>
  match bZ P f H rs with
  |some l=>some (f t::l)
  |none=>none
 | .cell a t::rs=>
  match f a with
  | .pointer (some p)=>
   match H.loadV P t p,bZ P f H rs with
   |some v,some l=>some (v::l)
   |_,_=>none
  |_=>none
theorem gL(s:St): ∀rs,cx P s rs=bZ P (cy s.tmps) s.heap rs
 | []=>rfl
 | .tmp t::rs=>by unfold cx bZ;rw[gL s rs];cases bZ P (cy s.tmps) s.heap rs<;>rfl
 | .cell a t::rs=>by
  unfold cx bZ;cases cy s.tmps a with
  |pointer p=>cases p with
   |none=>rfl
   |some p=>simp only[gL s rs];cases s.heap.loadV P t p<;>cases bZ P (cy s.tmps) s.heap rs<;>rfl
  |_=>rfl
theorem av{A:FuncId}{fn:Func}{args:List Value}{R:Value->Heap->Prop}(T:P.funcs[A]?=some fn)(hc:fn.body=some c)(Z:K A args H=none)
  (h:WK P G K (Nat.max args.length fn.ntmps) c [] (argF args) H fun e V H'=>(e= .normal\/e= .ret)/\∃l,bZ P V H' fn.results.toList=some l/\R (eg l) H'):C P G K A args H R:=by
 obtain⟨n,e,U,Y,he,l,E,hr⟩:=h.out (eS 0 args .nil) (argTmps_fn args)
 refine⟨n+1,eg l,U.heap,?_,hr⟩
 show km K (mn P (lm P G K (n+1))) A args H=_
 have O:lm P G K (n+1) c ⟨eS 0 args .nil,Nat.max args.length fn.ntmps,H⟩=some (e,U):=Y
 unfold km mn
 rw[Z]
 simp only[T,hc,O]
 rw[←gL]at E
 rcases he with rfl|rfl
 ·simp only[E]
 simp only[E]
theorem c_known{A:FuncId}{args:List Value}{v:Value}{R:Value->Heap->Prop}(E:K A args H=some v)(h:R v H):C P G K A args H R:=
 ⟨0,v,H,by show km K _ A args H=_;unfold km;rw[E],h⟩
end
end Go.R
end
noncomputable section
namespace Go.R
section
variable {P:Program} {ρ:Operand->Value} {d:Option Tmp} {ty:TypeId} {pos:String} {af:Array Edge} {gd:Option (Nat×Bool)} {H:Heap}
theorem ap_move{x:Operand}{v:Value}(h:ρ x=v):AP P ρ ⟨d,.move x,ty,pos,af,gd⟩ H (.val v,H):=by subst h;exact⟨rfl⟩
theorem kp{x:Operand}{v:Value}(h:ρ x=v):AP P ρ ⟨d,.assign x,ty,pos,af,gd⟩ H (.val v,H):=by subst h;exact⟨rfl⟩
theorem ir{op:BinOp}{t yt:TypeId}{x y:Operand}{k A:IntKind}{a b:Int}{v:Value}(O:ρ x= .int k a)(T:ρ y= .int A b)
  (E:(bif ka op then shBin op k a b else bif fD k A then lb op k a b else none)=some v):AP P ρ ⟨d,.binOp op t x y yt,ty,pos,af,gd⟩ H (.val v,H):=by
 refine⟨?_⟩
 show aBin P ρ _ op t (ρ x) y H=_
 rw[O]
 show binInt op k a (ρ y) H=_
 rw[T]
 show ovl _ H=_
 rw[E];rfl
theorem ap_str{op:BinOp}{t yt:TypeId}{x y:Operand}{a b:ByteArray}{v:Value}(E:ρ x= .string a)(O:ρ y= .string b)(A:strOp op a b=some v):
  AP P ρ ⟨d,.binOp op t x y yt,ty,pos,af,gd⟩ H (.val v,H):=by
 refine⟨?_⟩
 show aBin P ρ _ op t (ρ x) y H=_
 rw[E]
 show binStr op a (ρ y) H=_
 rw[O]
 show ovl _ H=_
 rw[A];rfl
theorem eb{t:TypeId}{x:Operand}{b:Bool}(A:ρ x= .bool b):AP P ρ ⟨d,.unOp .not t x,ty,pos,af,gd⟩ H (.val (.bool (!b)),H):=by refine⟨?_⟩;show aUn P ρ _ .not (ρ x) H=_;rw[A];rfl
theorem ap_conv{s t:TypeId}{x:Operand}{k A:IntKind}{n:Int}(O:ρ x= .int k n){u:TypeDesc}(hs:P.underlying s=some u)(E:P.underlying t=some (.int A)):
  AP P ρ ⟨d,.convert s t x,ty,pos,af,gd⟩ H (.val (.int A (A.wrap n)),H):=by
 refine⟨?_⟩
 show eP P ρ _ s t (ρ x) H=_
 rw[O]
 show ovl (mh P s t n) H=_
 unfold mh
 rw[hs,E];rfl
theorem ap_neg{t:TypeId}{x:Operand}{k:IntKind}{n:Int}(A:ρ x= .int k n):AP P ρ ⟨d,.unOp .neg t x,ty,pos,af,gd⟩ H (.val (.int k (k.wrap (0-n))),H):=by
 refine⟨?_⟩;show aUn P ρ _ .neg (ρ x) H=_;rw[A];show bj P ρ _ H=_;unfold bj;have E:((Op.unOp .neg t x).operands.toList.all fun x=>hZ (ρ x))=true:=by simp[Op.operands,A,hZ,cJ]
 simp only[E,cond_true];show(match au P (execOp ρ ⟨d,.unOp .neg t x,ty,pos,af,gd⟩) with|some (.value v)=>bif noA2 v then some (AN.val v,H) else none|_=>none)=_;have O:au P (execOp ρ ⟨d,.unOp .neg t x,ty,pos,af,gd⟩)=some (.value (.int k (k.wrap (0-n)))):=by unfold execOp;simp only[A];rfl
 rw[O];rfl
theorem ap_cpl{t:TypeId}{x:Operand}{k:IntKind}{n:Int}(A:ρ x= .int k n):AP P ρ ⟨d,.unOp .xor t x,ty,pos,af,gd⟩ H (.val (.int k (bits .xor k (if k.signed then-1 else k.max) n)),H):=by
 refine⟨?_⟩;show aUn P ρ _ .xor (ρ x) H=_;rw[A];show bj P ρ _ H=_;unfold bj;have E:((Op.unOp .xor t x).operands.toList.all fun x=>hZ (ρ x))=true:=by simp[Op.operands,A,hZ,cJ]
 simp only[E,cond_true];have O:au P (execOp ρ ⟨d,.unOp .xor t x,ty,pos,af,gd⟩)=some (.value (.int k (bits .xor k (if k.signed then-1 else k.max) n))):=by unfold execOp;simp only[A];rfl
 rw[O];rfl
theorem ap_quo{t yt:TypeId}{x y:Operand}{k A:IntKind}{a b:Int}(O:ρ x= .int k a)(T:ρ y= .int A b)(E:fD k A=true)(hb:(b==0)=false):
  AP P ρ ⟨d,.binOp .quo t x y yt,ty,pos,af,gd⟩ H (.val (.int k (k.wrap (a.tdiv b))),H):=
 ir O T (by show(bif fD k A then(bif b==0 then none else some (.int k (k.wrap (a.tdiv b)))) else none:Option Value)=_;rw[E,hb];rfl)
theorem ap_rem{t yt:TypeId}{x y:Operand}{k A:IntKind}{a b:Int}(O:ρ x= .int k a)(T:ρ y= .int A b)(E:fD k A=true)(hb:(b==0)=false):
  AP P ρ ⟨d,.binOp .rem t x y yt,ty,pos,af,gd⟩ H (.val (.int k (a.tmod b)),H):=
 ir O T (by show(bif fD k A then(bif b==0 then none else some (.int k (a.tmod b))) else none:Option Value)=_;rw[E,hb];rfl)
theorem ap_shl{t yt:TypeId}{x y:Operand}{k O:IntKind}{a b:Int}(A:ρ x= .int k a)(E:ρ y= .int O b)(hb:0<=b):
  AP P ρ ⟨d,.binOp .shl t x y yt,ty,pos,af,gd⟩ H (.val (.int k (k.wrap (a *2^(Nat.min b.toNat k.bits)))),H):=by
 refine⟨?_⟩
 obtain⟨n,rfl⟩:=a0M hb
 exact(ir A E rfl).eq
theorem ap_shr{t yt:TypeId}{x y:Operand}{k O:IntKind}{a b:Int}(A:ρ x= .int k a)(E:ρ y= .int O b)(hb:0<=b):
  AP P ρ ⟨d,.binOp .shr t x y yt,ty,pos,af,gd⟩ H (.val (.int k (a.fdiv (2^(Nat.min b.toNat k.bits)))),H):=by
 refine⟨?_⟩
 obtain⟨n,rfl⟩:=a0M hb
 exact(ir A E rfl).eq
theorem mu{t:TypeId}{n sz:Nat}{z:List Value}{A:Array (Nat×Operand)}{cells:Array Value}(hs:eX P t=some (sz,z))(O:Nat.ble (n *sz) 16777216=true)
  (E:Instr.fill (fun i=>some (i *sz,sz)) ⟨cS n z⟩ (eW (fun p=>(p.1,ρ p.2)) A.toList)=some cells):
  AP P ρ ⟨d,.buildSlice t n A,ty,pos,af,gd⟩ H (.val (.slice (some ⟨H.next,0,none⟩) n n),H.push (.cells cells.toList none false)):=by
 refine⟨?_⟩
 show bm P t n (eW (fun p=>(p.1,ρ p.2)) A.toList) H=_
 unfold bm
 rw[hs]
 simp only[O,cond_true,E]
 rfl
theorem jd{t e:TypeId}{x i:Operand}{b o n k sz:Nat}{Y:IntKind}{j:Int}(V:ρ x= .slice (some ⟨b,o,none⟩) n k)(hi:ρ i= .int Y j)(U:P.underlying t=some (.slice e))(hs:di P e=some sz)
  (A:0<=j) (Z:j<n) (T:n<=k):AP P ρ ⟨d,.indexAddr t x i,ty,pos,af,gd⟩ H (.val (.pointer (some ⟨b,o+j.toNat *sz,none⟩)),H):=by
 refine⟨?_⟩
 obtain⟨m,rfl⟩:=a0M A
 show ovl (cm P t (ρ x) (ρ i)) H=_
 rw[V,hi]
 unfold cm
 rw[U]
 show ovl (match di P e with|some sz=>bif Nat.ble (m+1) n&&Nat.ble n k then some (.pointer (some ⟨b,o+m *sz,none⟩)) else none|none=>none) H=_
 rw[hs]
 have E:Nat.ble (m+1) n=true:=a0r (by omega)
 have O:Nat.ble n k=true:=a0r T
 simp only[E,O,a1p,cond_true]
 rfl
theorem ap_load1{t:TypeId}{x:Operand}{b o:Nat}{cs:List Value}{A:Option Nat}{U:Bool}{v:Value}(T:ρ x= .pointer (some ⟨b,o,none⟩))(ha:eJ P t=some false)(E:H.get b=some (.cells cs A U))(O:cs[o]?=some v):
  AP P ρ ⟨d,.load t x,ty,pos,af,gd⟩ H (.val v,H):=by
 refine⟨?_⟩
 show dY P t (ρ x) H=_
 rw[T]
 show ovl (H.loadV P t ⟨b,o,none⟩) H=_
 unfold Heap.loadV
 rw[ha]
 simp only
 unfold Heap.cellAt
 simp only[E,hY,O]
 rfl
theorem ap_loadN{t:TypeId}{x:Operand}{b o n:Nat}{cs l:List Value}{A:Option Nat}{V:Bool}(U:ρ x= .pointer (some ⟨b,o,none⟩))(ha:eJ P t=some true)(hs:di P t=some n)(E:H.get b=some (.cells cs A V))(O:(cs.drop o).take n=l)(T:l.length=n):
  AP P ρ ⟨d,.load t x,ty,pos,af,gd⟩ H (.val (.agg ⟨l⟩),H):=by
 refine⟨?_⟩
 show dY P t (ρ x) H=_
 rw[U]
 show ovl (H.loadV P t ⟨b,o,none⟩) H=_
 unfold Heap.loadV
 rw[ha]
 simp only[hs]
 unfold Heap.loadN
 simp only[E,bL,cg,bA,O,T,a0S,cond_true]
 rfl
structure Keeps(H H':Heap):Prop where
 next:H.next<=H'.next
 get: ∀b,b<H.next->H'.get b=H.get b
 log: ∃d,H'.log=d++H.log/\∀b,b∈d->H.next<=b
theorem appL_nil(l:List Value):jD l []=l:=by rw[dF];simp
theorem aY{args:Array Operand}{A:Array TypeId}{i:FuncId}{fn:Func}{f:Fn}{l:List Value}(E:P.funcs[i]?=some fn)(hb:(fn.body.isSome&& !(fn.name== "runtime.NumGoroutine"))=true)(O:eW (dx f) args.toList=l):
  AP P (dx f) ⟨d,.call ⟨.value (.func i),args,A⟩,ty,pos,af,gd⟩ H (.enter i l,H):=by
 refine⟨?_⟩
 show fv (fA P (.func (.func i) #[] #[]) (eW (dx f) args.toList)) H=_
 unfold fA
 simp only[E,hb,cond_true,O]
 show fv (some (.enter i (jD [] (jD l [])))) H=_
 rw[appL_nil]
 rfl
end
end Go.R
end
noncomputable section
namespace Go.R
def gh:Inf->Bool
 | .x w=>isNilL w
 |_=>true
def vkAt(ops:Array Oper)(j:Nat):Bool:=match ops[j]? with
 |some o=>aT o.op
 |none=>false
def FsOK(ops:Array Oper)(wr:List Nat)(i:Nat)(fs:List (Nat×Inf)):Prop:= ∀j g,(j,g)∈fs->j<i/\(gh g=true\/j∈wr)/\(vkAt ops j=true->g= .v)
theorem mr: ∀{f g:Inf},gh f=true->gh g=true->ea f g=true
 | .v,_,_,_=>rfl
 | .a b,.v,_,_=>rfl
 | .a b,.a c,_,_=>rfl
 | .a b,.l c,_,_=>rfl
 | .a b,.x w,_,h=>by cases w with
  |nil=>rfl
  |cons _ _=>cases h
 | .l b,.v,_,_=>rfl
 | .l b,.a c,_,_=>rfl
 | .l b,.l c,_,_=>rfl
 | .l b,.x w,_,h=>by cases w with
  |nil=>rfl
  |cons _ _=>cases h
 | .x w,.v,_,_=>rfl
 | .x w,.a c,_,_=>rfl
 | .x w,.l c,h,_=>by cases w with
  |nil=>rfl
  |cons _ _=>cases h
 | .x w,.x u,h,h'=>by simp only[gh]at h h';simp only[ea,h,h',a1p]
theorem below_nil{n:Nat}: ∀{l:List Nat},(∀b,b∈l->n<=b)->dy n l=[]
 | [],_=>rfl
 |c::l,h=>by have A:Nat.ble n c=true:=a0r (h c (a0i ..));unfold dy;rw[A];exact below_nil fun b hb=>h b (a0c _ hb)
theorem infOf_benign{ops:Array Oper}{o:Oper}{s:St}{n:Nat}{log:List Nat}(h:dy n log=[]):gh (dV ops o s n log)=true:=by
 unfold dV;rw[h];cases (!aW ops o s.tmps||aT o.op) with
 |true=>rfl
 |false=>
  simp only[cond_false]
  cases dU o.op with
  |true=>rfl
  |false=>
   simp only[cond_false]
   split
   ·split<;>rfl
   ·split<;>rfl
   ·split<;>rfl
   rfl
theorem infOf_value{ops:Array Oper}{o:Oper}{s:St}{n:Nat}{log:List Nat}(h:aT o.op=true):dV ops o s n log= .v:=by unfold dV;rw[h,Bool.or_true];rfl
theorem je{l:List Nat}{i:Nat}{f:Inf}: ∀{fs:List (Nat×Inf)},(∀j g,(j,g)∈fs->(aZ l j i||ea g f)=true)->bU l i f fs=true
 | [],_=>rfl
 |(j,g)::fs,h=>by unfold bU;rw[h j g (a0i ..),je fun j g A=>h j g (a0c _ A)];rfl
section
variable {P:Program} {G:Nat} {K:bp} {sz:Nat} {Q:Ex->Fn->Heap->Prop} {ops:Array Oper} {wr:List Nat} {i:Nat} {os:List Oper} {k:List Fr} {f:Fn} {H H1:Heap} {v:Value}
 {d:Tmp} {op:Op} {ty:TypeId} {pos:String} {af:Array Edge}
structure WD(P:Program)(G:Nat)(K:bp)(sz:Nat)(ops:Array Oper)(wr:List Nat)(i:Nat)(os:List Oper)(k:List Fr)(f:Fn)(H:Heap)(Q:Ex->Fn->Heap->Prop):Prop where
 out: ∀t fs,cy t=f->FsOK ops wr i fs->∃n e s',runK P G K (n+1) k (dK (bd P G (call P G K n) ops i fs os ⟨t,sz,H⟩))=some (e,s')/\Q e (cy s'.tmps) s'.heap
end
end Go.R
end
noncomputable section
namespace Go.R
def cn(ops:Array Oper)(f:Fn)(j:Nat):Option Bool:=
 match (ops[j]?).bind (·.dst) with
 |some d=>
  match f d with
  | .bool b=>some b
  |_=>none
 |none=>none
theorem aop_guard{P:Program}{ρ:Operand->Value}{d:Option Tmp}{op:Op}{ty:TypeId}{pos:String}{af:Array Edge}(g A:Option (Nat×Bool))(H:Heap):
  aop P ρ ⟨d,op,ty,pos,af,g⟩ H=aop P ρ ⟨d,op,ty,pos,af,A⟩ H:=by
 cases op<;>rfl
section
variable {P:Program} {G:Nat} {K:bp} {sz:Nat} {Q:Ex->Fn->Heap->Prop} {ops:Array Oper} {wr:List Nat} {i j:Nat} {os:List Oper} {k:List Fr} {f:Fn} {H H1:Heap} {v want:Bool}
 {d:Option Tmp} {op:Op} {ty:TypeId} {pos:String} {af:Array Edge}
theorem hL{t:Tr Value}(E:cy t=f)(O:cn ops f j=some v)(o:Oper)(A:o.guard=some (j,want)):aW ops o t=(v==want):=by
 unfold aW;rw[A];have:kK ops t j=some v:=by rw[←O,←E];rfl
 simp only[this];cases v<;>cases want<;>rfl
theorem kQ{cf:ck}{t:Tr Value}(O:cy t=f)(U:cn ops f j=some v)(T:v=want):
  step P G cf ops ⟨d,op,ty,pos,af,some (j,want)⟩ ⟨t,sz,H⟩=step P G cf ops ⟨d,op,ty,pos,af,none⟩ ⟨t,sz,H⟩:=by
 unfold step
 rw[hL O U _ rfl,T]
 have A:(want==want)=true:=by cases want<;>rfl
 have E:aW ops ⟨d,op,ty,pos,af,none⟩ t=true:=rfl
 simp only[A,E,cond_true,aop_guard (some (j,want)) none]
theorem lO{cf:ck}{t:Tr Value}(E:cy t=f)(T:cn ops f j=some v)(O:v= !want):
  step P G cf ops ⟨d,op,ty,pos,af,some (j,want)⟩ ⟨t,sz,H⟩=St.put ⟨t,sz,H⟩ d undef:=by
 unfold step
 rw[hL E T _ rfl,O]
 have A:((!want)==want)=false:=by cases want<;>rfl
 simp only[A,cond_false]
theorem aX(U:cn ops f j=some v)(T:v=want)(h:WO P G K sz ops (⟨d,op,ty,pos,af,none⟩::os) k f H Q):WO P G K sz ops (⟨d,op,ty,pos,af,some (j,want)⟩::os) k f H Q:=⟨fun t E=>by
 obtain⟨n,e,V,A,O⟩:=h.out t E;refine⟨n,e,V,?_,O⟩;rw[bP]at A⊢;rw[kQ E U T];exact A⟩
theorem wo_gf{d:Tmp}(Y:cn ops f j=some v)(V:v= !want)(hd:Nat.ble (d+1) sz=true)(h:WO P G K sz ops os k (upd f d undef) H Q):WO P G K sz ops (⟨some d,op,ty,pos,af,some (j,want)⟩::os) k f H Q:=⟨fun t A=>by
 obtain⟨t',T,U⟩:=iX (s:=⟨t,sz,H⟩) (d:=some d) (v:=undef) hd;obtain⟨n,e,Z,E,O⟩:=h.out t' (by rw[U,A];rfl);refine⟨n,e,Z,?_,O⟩;rw[bP,lO A Y V,T];exact E⟩
theorem bW{d:Tmp}(E:cn ops f j=some v)(A:v=false)(hd:Nat.ble (d+1) sz=true)(h:WO P G K sz ops os k (upd f d undef) H Q):WO P G K sz ops (⟨some d,op,ty,pos,af,some (j,true)⟩::os) k f H Q:=wo_gf E A hd h
theorem aR{d:Tmp}(E:cn ops f j=some v)(A:v=true)(hd:Nat.ble (d+1) sz=true)(h:WO P G K sz ops os k (upd f d undef) H Q):WO P G K sz ops (⟨some d,op,ty,pos,af,some (j,false)⟩::os) k f H Q:=wo_gf E A hd h
theorem dA{d:Tmp}(Z:cn ops f j=none)(hd:Nat.ble (d+1) sz=true)(h:WO P G K sz ops os k (upd f d undef) H Q):WO P G K sz ops (⟨some d,op,ty,pos,af,some (j,want)⟩::os) k f H Q:=⟨fun t E=>by
 obtain⟨t',U,V⟩:=iX (s:=⟨t,sz,H⟩) (d:=some d) (v:=undef) hd;obtain⟨n,e,s',O,T⟩:=h.out t' (by rw[V,E];rfl);refine⟨n,e,s',?_,T⟩;have Y:aW ops ⟨some d,op,ty,pos,af,some (j,want)⟩ t=false:=by
  unfold aW;have:kK ops t j=none:=by rw[←Z,←E];rfl
  simp only[this];cases want<;>rfl
 have A:step P G (call P G K n) ops ⟨some d,op,ty,pos,af,some (j,want)⟩ ⟨t,sz,H⟩=St.put ⟨t,sz,H⟩ (some d) undef:=by unfold step;simp only[Y,cond_false]
 rw[bP,A,U];exact O⟩
theorem gz{d:Tmp}(A:cn ops f j=some v)(hd:Nat.ble (d+1) sz=true)(E:v=true->WO P G K sz ops (⟨some d,op,ty,pos,af,none⟩::os) k f H Q)(O:v=false->WO P G K sz ops os k (upd f d undef) H Q):
  WO P G K sz ops (⟨some d,op,ty,pos,af,some (j,true)⟩::os) k f H Q:=by
 cases v with
 |true=>exact aX A rfl (E rfl)
 |false=>exact wo_gf A rfl hd (O rfl)
theorem fJ{d:Tmp}(A:cn ops f j=some v)(hd:Nat.ble (d+1) sz=true)(E:v=false->WO P G K sz ops (⟨some d,op,ty,pos,af,none⟩::os) k f H Q)(O:v=true->WO P G K sz ops os k (upd f d undef) H Q):
  WO P G K sz ops (⟨some d,op,ty,pos,af,some (j,false)⟩::os) k f H Q:=by
 cases v with
 |true=>exact wo_gf A rfl hd (O rfl)
 |false=>exact aX A rfl (E rfl)
end
section
variable {P:Program} {ρ:Operand->Value} {d:Option Tmp} {ty:TypeId} {pos:String} {af:Array Edge} {gd:Option (Nat×Bool)} {H:Heap}
theorem aP{c a b:Operand}{t:Bool}{v:Value}(hc:ρ c= .bool t)(A:t=true)(E:ρ a=v):AP P ρ ⟨d,.pick c a b,ty,pos,af,gd⟩ H (.val v,H):=by refine⟨?_⟩;show fW ρ c a b H=_;unfold fW;rw[hc,A,←E];rfl
theorem aO{c a b:Operand}{t:Bool}{v:Value}(hc:ρ c= .bool t)(A:t=false)(E:ρ b=v):AP P ρ ⟨d,.pick c a b,ty,pos,af,gd⟩ H (.val v,H):=by refine⟨?_⟩;show fW ρ c a b H=_;unfold fW;rw[hc,A,←E];rfl
def dQ(op:BinOp)(t:TypeId)(x y:Operand)(a b:Bool):Sem Next:=
 ((eqGuard op t x y (.bool a) (.bool b))>>=fun _=>binOp op t (.bool a) (.bool b))>>=fun r=>Pure.pure (Next.value r)
theorem ap_boolEq{t yt:TypeId}{x y:Operand}{a b:Bool}(E:ρ x= .bool a)(O:ρ y= .bool b)(A: ∀a b:Bool,au P (dQ .eql t x y a b)=some (.value (.bool (a==b)))):AP P ρ ⟨d,.binOp .eql t x y yt,ty,pos,af,gd⟩ H (.val (.bool (a==b)),H):=by
 refine⟨?_⟩;show aBin P ρ _ .eql t (ρ x) y H=_;rw[E];show bj P ρ _ H=_;unfold bj;have T:((Op.binOp .eql t x y yt).operands.toList.all fun x=>hZ (ρ x))=true:=by simp[Op.operands,E,O,hZ,cJ]
 simp only[T,cond_true];have U:au P (execOp ρ ⟨d,.binOp .eql t x y yt,ty,pos,af,gd⟩)=some (.value (.bool (a==b))):=by rw[←A a b];unfold execOp dQ;simp only[E,O]
 rw[U];rfl
end
end Go.R
end
noncomputable section
namespace Go.R
open Go.RowKit
def KX(ex:FuncId):bp:=fun f args _=>match args with
 | []=>bif Nat.beq f ex then some (.bool true) else none
 |_=>none
theorem kx_ok{P:Program}{ex:FuncId}(h: ∀w,Calls P ex #[] w fun e w'=>e= .returned (.bool true)/\Below w.heap.size w w'):gk P 0 (KX ex):=by
 intro f args H v A;unfold KX at A;split at A
 ·cases O:Nat.beq f ex with
  |false=>rw[O]at A;cases A
  |true=>
   rw[O]at A
   simp only[cond_true,a00]at A
   subst A
   have:=a07 O
   subst this
   refine⟨rfl,rfl,fun μ E w hc _ _=>?_⟩
   have:E= #[]:=by cases E;simp_all
   subst this
   exact h w
 cases A
end Go.R
end
noncomputable section
namespace Go.R
abbrev Fz:=Nat->Option AObj
abbrev Fp:=List (Nat×AObj)
def Fz.le(F F':Fz):Prop:= ∀b o,F b=some o->F' b=some o
theorem Fz.le_refl(F:Fz):F.le F:=fun _ _ h=>h
theorem Fz.le_trans{A B C:Fz}(h:A.le B)(k:B.le C):A.le C:=fun b o x=>k b o (h b o x)
def Fz.add(F:Fz)(b:Nat)(o:AObj):Fz:=fun j=>bif Nat.beq b j then some o else F j
def Fz.addL(F:Fz):Fp->Fz
 | []=>F
 |(b,o)::p=>(F.addL p).add b o
abbrev in64(n:Int):Prop:= -9223372036854775808<=n/\n<9223372036854775808
structure Base where
 n0:Nat
 W:List Nat
 lg:List Nat
def Base.of(H:Heap)(W:List Nat):Base:=⟨H.next,W,H.log⟩
structure HS(B:Base)(F:Fz)(H:Heap)(L R:List Fp):Prop where
 fz: ∀b o,F b=some o->H.get b=some o/\b<H.next
 own: ∀p,p∈L\/p∈R->∀b o,(b,o)∈p->H.get b=some o/\b<H.next/\F b=none
 nd:((L++R).flatten.map Prod.fst).Nodup
 n0:B.n0<=H.next
 log: ∀b,b∈H.log->b∈B.lg\/B.n0<=b\/b∈B.W
 mine: ∀p,p∈L->∀b o,(b,o)∈p->B.n0<=b\/b∈B.W
theorem f8{α:Type}: ∀(L:List (List α)) (i:Nat) (p:List α),L[i]?=some p->∃A C,L=A++p::C/\∀q,L.set i q=A++q::C
 | [],_,_,h=>by simp at h
 |x::L,0,p,h=>by simp at h;subst h;exact⟨[],L,rfl,fun _=>rfl⟩
 |x::L,i+1,p,h=>by obtain⟨A,C,E,O⟩:=f8 L i p (by simpa using h);exact⟨x::A,C,by rw[E];rfl,fun q=>by rw[List.set_cons_succ,O];rfl⟩
theorem l9{α:Type}(L:List (List α))(i:Nat)(p q:List α)(h:L[i]?=some p): ∃A C,L=A++p::C/\L.set i q=A++q::C:=by obtain⟨A,C,E,O⟩:=f8 L i p h;exact⟨A,C,E,O q⟩
section
variable {B:Base} {F F':Fz} {H H':Heap} {L R:List Fp}
theorem HS.relog(h:HS B F H L R){l:List Nat}(A: ∀b,b∈l->b∈B.lg\/B.n0<=b\/b∈B.W):HS B F {H with log:=l} L R:=⟨h.fz,h.own,h.nd,h.n0,A,h.mine⟩
theorem HS.log0(h:HS B F H L R):HS B F {H with log:=[]} L R:=h.relog fun b hb=>by simp at hb
theorem HS.turn(h:HS B F H L R){i:Nat}{p q:Fp}(hi:L[i]?=some p)(hn:H.next<=H'.next)
  (a4: ∀b,b<H.next->(∀o,(b,o)∉p)->H'.get b=H.get b)
  (hq: ∀b o,(b,o)∈q->H'.get b=some o/\b<H'.next/\(H.next<=b\/∃o',(b,o')∈p)) (bn:(q.map Prod.fst).Nodup)
  (bk: ∀b,b∈H'.log->b∈H.log\/H.next<=b\/∃o,(b,o)∈p):HS B F H' (L.set i q) R:=by
 obtain⟨A,C,e1,e2⟩:=l9 L i p q hi
 have ax:p∈L:=a0q hi
 have O:=h.nd
 rw[e1]at O
 have a5: ∀x,x∈L.set i q\/x∈R->x=q\/((x∈L\/x∈R)/\∀b o o',(b,o)∈x->(b,o')∉p):=by
  intro x E;have key: ∀x,x∈A\/x∈C\/x∈R->∀b o o',(b,o)∈x->(b,o')∉p:=by
   intro x E b o o' hb Y;simp only[a0a,a0t,a0N,a0Q,a0F,a1u,a0e]at O;have Z:b∈p.map Prod.fst:=a0w.2 ⟨_,Y,rfl⟩;have bb:b∈x.map Prod.fst:=a0w.2 ⟨_,hb,rfl⟩;rcases E with E|E|E
   ·have:b∈A.flatten.map Prod.fst:=a0w.2 ⟨(b,o),a0H.2 ⟨x,E,hb⟩,rfl⟩;exact O.2.2 b this b (.inl Z) rfl
   ·have:b∈C.flatten.map Prod.fst:=a0w.2 ⟨(b,o),a0H.2 ⟨x,E,hb⟩,rfl⟩;exact O.2.1.2.2 b Z b (.inl this) rfl
   have:b∈R.flatten.map Prod.fst:=a0w.2 ⟨(b,o),a0H.2 ⟨x,E,hb⟩,rfl⟩;exact O.2.1.2.2 b Z b (.inr this) rfl
  rw[e2]at E;rcases E with E|E
  ·rcases a0e.1 E with E|E
   ·exact .inr ⟨.inl (by rw[e1];exact a0e.2 (.inl E)),key x (.inl E)⟩
   rcases a0n.1 E with rfl|E
   ·exact .inl rfl
   exact .inr ⟨.inl (by rw[e1];exact a0e.2 (.inr (a0c _ E))),key x (.inr (.inl E))⟩
  exact .inr ⟨.inr E,key x (.inr (.inr E))⟩
 have a8: ∀b o,(b,o)∈p->F b=none/\b<H.next:=fun b o hb=>⟨(h.own p (.inl ax) b o hb).2.2,(h.own p (.inl ax) b o hb).2.1⟩
 refine⟨fun b o hb=>?_,fun x E b o hb=>?_,?_,a0m h.n0 hn,fun b hb=>?_,fun x E b o hb=>?_⟩
 ·obtain⟨T,h2⟩:=h.fz b o hb;refine⟨?_,a0X h2 hn⟩;rw[a4 b h2 fun o' ar=>by rw[(a8 b o' ar).1]at hb;cases hb];exact T
 ·rcases a5 x E with rfl|⟨bb,hne⟩
  ·obtain⟨T,h2,U⟩:=hq b o hb;refine⟨T,h2,?_⟩;rcases U with U|⟨o',ar⟩
   ·cases hf:F b with
    |none=>rfl
    |some z=>have:=(h.fz b z hf).2;omega
   exact(a8 b o' ar).1
  obtain⟨T,h2,U⟩:=h.own x bb b o hb;exact⟨by rw[a4 b h2 fun o'=>hne b o o' hb];exact T,a0X h2 hn,U⟩
 ·rw[e2];have a9: ∀x,x∈A\/x∈C\/x∈R->∀b,b∈x.map Prod.fst->b<H.next/\∀o',(b,o')∉p:=by
   intro x E b hb;obtain⟨⟨V,o⟩,Y,rfl⟩:=a0w.1 hb;have bf:x∈L.set i q\/x∈R:=by
    rw[e2];rcases E with E|E|E
    ·exact .inl (a0e.2 (.inl E))
    ·exact .inl (a0e.2 (.inr (a0c _ E)))
    exact .inr E
   have bt:x∈L\/x∈R:=by
    rw[e1];rcases E with E|E|E
    ·exact .inl (a0e.2 (.inl E))
    ·exact .inl (a0e.2 (.inr (a0c _ E)))
    exact .inr E
   refine⟨(h.own x bt V o Y).2.1,fun o' ar=>?_⟩;have an:=O;simp only[a0a,a0t,a0N,a0Q,a0F,a1u,a0e]at an;have Z:V∈p.map Prod.fst:=a0w.2 ⟨_,ar,rfl⟩;rcases E with E|E|E
   ·exact an.2.2 V (a0w.2 ⟨(V,o),a0H.2 ⟨x,E,Y⟩,rfl⟩) V (.inl Z) rfl
   ·exact an.2.1.2.2 V Z V (.inl (a0w.2 ⟨(V,o),a0H.2 ⟨x,E,Y⟩,rfl⟩)) rfl
   exact an.2.1.2.2 V Z V (.inr (a0w.2 ⟨(V,o),a0H.2 ⟨x,E,Y⟩,rfl⟩)) rfl
  have a3: ∀(X:List Fp) b,b∈X.flatten.map Prod.fst->∃x,x∈X/\b∈x.map Prod.fst:=by intro X b hb;obtain⟨y,hy,rfl⟩:=a0w.1 hb;obtain⟨x,E,bw⟩:=a0H.1 hy;exact⟨x,E,a0w.2 ⟨y,bw,rfl⟩⟩
  have ba: ∀b,b∈q.map Prod.fst->H.next<=b\/∃o',(b,o')∈p:=by intro b hb;obtain⟨⟨V,o⟩,Y,rfl⟩:=a0w.1 hb;exact(hq V o Y).2.2
  simp only[a0a,a0t,a0N,a0Q,a0F,a1u,a0e]at O⊢;obtain⟨n1,⟨n2,⟨n3,n4,n5⟩,n6⟩,n7⟩:=O;refine⟨n1,⟨bn,⟨n3,n4,n5⟩,fun a ha b hb a2=>?_⟩,fun a ha b hb a2=>?_⟩
  ·subst a2;have E: ∃x,(x∈A\/x∈C\/x∈R)/\a∈x.map Prod.fst:=by
    rcases hb with hb|hb
    ·obtain⟨x,E,T⟩:=a3 C a hb;exact⟨x,.inr (.inl E),T⟩
    obtain⟨x,E,T⟩:=a3 R a hb;exact⟨x,.inr (.inr E),T⟩
   obtain⟨x,E,T⟩:=E;obtain⟨h2,U⟩:=a9 x E a T;rcases ba a ha with h4|⟨o',h4⟩
   ·omega
   exact U o' h4
  subst a2;rcases hb with hb|hb
  ·obtain⟨x,E,T⟩:=a3 A a ha;obtain⟨h2,U⟩:=a9 x (.inl E) a T;rcases ba a hb with h4|⟨o',h4⟩
   ·omega
   exact U o' h4
  exact n7 a ha a (.inr hb) rfl
 ·rcases bk b hb with T|T|⟨o,T⟩
  ·exact h.log b T
  ·exact .inr (.inl (a0m h.n0 T))
  exact .inr (h.mine p ax b o T)
 have bf:=a5 x (.inl E)
 rcases bf with rfl|⟨_,_⟩
 ·rcases (hq b o hb).2.2 with U|⟨o',U⟩
  ·exact .inl (a0m h.n0 U)
  exact h.mine p ax b o' U
 rw[e2]at E
 rcases a0e.1 E with E|E
 ·exact h.mine x (by rw[e1];exact a0e.2 (.inl E)) b o hb
 rcases a0n.1 E with rfl|E
 ·rcases (hq b o hb).2.2 with U|⟨o',U⟩
  ·exact .inl (a0m h.n0 U)
  exact h.mine p ax b o' U
 exact h.mine x (by rw[e1];exact a0e.2 (.inr (a0c _ E))) b o hb
theorem HS.cons(h:HS B F H L R):HS B F H ([]::L) R:=
 ⟨h.fz,fun p A b o hb=>by
  rcases A with A|A
  ·rcases a0n.1 A with rfl|A
   ·simp at hb
   exact h.own p (.inl A) b o hb
  ·exact h.own p (.inr A) b o hb,by simpa using h.nd,h.n0,h.log,fun p A b o hb=>by
  rcases a0n.1 A with rfl|A
  ·simp at hb
  exact h.mine p A b o hb⟩
theorem HS.snoc(h:HS B F H L R):HS B F H (L++[[]]) R:=
 ⟨h.fz,fun p A b o hb=>by
  rcases A with A|A
  ·rcases a0e.1 A with A|A
   ·exact h.own p (.inl A) b o hb
   simp at A;subst A;simp at hb
  ·exact h.own p (.inr A) b o hb,by simpa using h.nd,h.n0,h.log,fun p A b o hb=>by
  rcases a0e.1 A with A|A
  ·exact h.mine p A b o hb
  simp at A;subst A;simp at hb⟩
theorem HS.push(h:HS B F H L R)(o:AObj):HS B F (H.push o) (L++[[(H.next,o)]]) R:=by
 have A:=(h.snoc).turn (H':=H.push o) (i:=L.length) (p:=[]) (q:=[(H.next,o)]) (by simp) (by simp)
  (fun b hb _=>Heap.get_push_ne _ _ (by omega)) (fun b o' hb=>by
   simp at hb;obtain⟨rfl,rfl⟩:=hb;exact⟨Heap.get_push_same _ _,by simp,.inl (a06 _)⟩) (by simp) (fun b hb=> .inl (by simpa using hb))
 simpa using A
theorem HS.put(h:HS B F H L R){i b:Nat}{o o':AObj}(hi:L[i]?=some [(b,o)]):HS B F (H.put b o') (L.set i [(b,o')]) R:=
 h.turn hi (by simp) (fun c _ A=>Heap.get_put_ne _ _ fun e=>A o (by simp[e])) (fun c E hb=>by
  simp at hb;obtain⟨rfl,rfl⟩:=hb;have:=(h.own _ (.inl (a0q hi)) c o (by simp)).2.1;exact⟨Heap.get_put_same _ _ _,by simpa using this,.inr ⟨o,by simp⟩⟩) (by simp) (fun c hc=>by
  rw[Heap.log_put]at hc;rcases a0n.1 hc with rfl|hc
  ·exact .inr (.inr ⟨o,by simp⟩)
  exact .inl hc)
theorem HS.get(h:HS B F H L R){i b:Nat}{p:Fp}{o:AObj}(hi:L[i]?=some p)(hb:(b,o)∈p):H.get b=some o:=(h.own p (.inl (a0q hi)) b o hb).1
theorem HS.drop(h:HS B F H L R){i:Nat}{p:Fp}(hi:L[i]?=some p):HS B F H (L.set i []) R:=
 h.turn hi (a06 _) (fun _ _ _=>rfl) (fun b o hb=>by simp at hb) (by simp) (fun b hb=> .inl hb)
theorem addL_get{p:Fp}: ∀{b:Nat} {o:AObj},(F.addL p) b=some o->F b=some o\/(b,o)∈p:=by
 induction p with
 |nil=>intro b o h;exact .inl h
 |cons x p ih=>
  obtain⟨A,E⟩:=x
  intro b o h
  simp only[Fz.addL,Fz.add]at h
  cases hb:Nat.beq A b with
  |true=>
   rw[hb]at h;simp only[cond_true,a00]at h;subst h
   have:=a07 hb;subst this
   exact .inr (by simp)
  |false=>
   rw[hb]at h
   rcases ih h with h1|h1
   ·exact .inl h1
   exact .inr (a0c _ h1)
theorem addL_of{p:Fp}: ∀{b:Nat} {o:AObj},(p.map Prod.fst).Nodup->(b,o)∈p->(F.addL p) b=some o:=by
 induction p with
 |nil=>intro b o _ h;simp at h
 |cons x p ih=>
  obtain⟨E,T⟩:=x
  intro b o A h
  simp only[a1k,List.nodup_cons]at A
  simp only[Fz.addL,Fz.add]
  rcases a0n.1 h with e|h
  ·injection e with e1 e2;subst e1 e2;rw[a0S];rfl
  have O:Nat.beq E b=false:=by
   cases hb:Nat.beq E b with
   |false=>rfl
   |true=>have:=a07 hb;subst this;exact absurd (a0w.2 ⟨_,h,rfl⟩) A.1
  rw[O];exact ih A.2 h
theorem addL_le{p:Fp}(h: ∀b o,(b,o)∈p->F b=none):F.le (F.addL p):=by
 induction p with
 |nil=>exact F.le_refl
 |cons x p ih=>
  obtain⟨A,U⟩:=x
  intro b o hb
  have E:=ih (fun b o O=>h b o (a0c _ O)) b o hb
  simp only[Fz.addL,Fz.add]
  cases T:Nat.beq A b with
  |false=>exact E
  |true=>
   have:=a07 T;subst this
   rw[h A U (by simp)]at hb;cases hb
theorem HS.nodup_of(h:HS B F H L R){p:Fp}(E:p∈L):(p.map Prod.fst).Nodup:=by have:=h.nd;obtain⟨A,C,rfl⟩:=List.append_of_mem E;simp only[a0a,a0t,a0N,a0Q,a0F,a1u]at this;exact this.2.1.1
theorem HS.freeze(h:HS B F H L R){i:Nat}{p:Fp}(hi:L[i]?=some p): ∃F',F.le F'/\HS B F' H (L.set i []) R/\∀b o,(b,o)∈p->F' b=some o:=by
 have V:p∈L:=a0q hi;have Y:=addL_le (F:=F) (p:=p) fun b o hb=>(h.own p (.inl V) b o hb).2.2
 have hd:=h.drop hi;have Z:=h.nodup_of V;refine⟨F.addL p,Y,⟨fun b o hb=>?_,fun x E b o hb=>?_,hd.nd,hd.n0,hd.log,hd.mine⟩,fun b o hb=>addL_of Z hb⟩
 ·rcases addL_get hb with O|O
  ·exact h.fz b o O
  have:=h.own p (.inl V) b o O;exact⟨this.1,this.2.1⟩
 obtain⟨O,h2,h3⟩:=hd.own x E b o hb;refine⟨O,h2,?_⟩;cases hq:F.addL p b with
 |none=>rfl
 |some z=>
  exfalso
  rcases addL_get hq with h4|h4
  ·rw[h3]at h4;cases h4
  ·--disjoint
   obtain⟨A,C,e1,e2⟩:=l9 L i p [] hi;have T:=h.nd;rw[e1]at T;simp only[a0a,a0t,a0N,a0Q,a0F,a1u,a0e]at T;have U:b∈p.map Prod.fst:=a0w.2 ⟨_,h4,rfl⟩;rcases E with E|E
   ·rw[e2]at E;rcases a0e.1 E with E|E
    ·exact T.2.2 b (a0w.2 ⟨(b,o),a0H.2 ⟨x,E,hb⟩,rfl⟩) b (.inl U) rfl
    rcases a0n.1 E with rfl|E
    ·simp at hb
    exact T.2.1.2.2 b U b (.inl (a0w.2 ⟨(b,o),a0H.2 ⟨x,E,hb⟩,rfl⟩)) rfl
   exact T.2.1.2.2 b U b (.inr (a0w.2 ⟨(b,o),a0H.2 ⟨x,E,hb⟩,rfl⟩)) rfl
theorem HS.call(h:HS B F H L R):HS (.of H []) F H [] (L++R):=
 ⟨h.fz,fun p A b o hb=>by
  rcases A with A|A
  ·simp at A
  exact h.own p (a0e.1 A) b o hb,by simpa using h.nd,a06 _,fun b hb=> .inl hb,fun p A=>by simp at A⟩
theorem HS.back{M:List Fp}{O:Heap}(h:HS B F H L R)(T:O=H)(k:HS (.of O []) F' H' M (L++R)):HS B F' H' (L++M) R:=by
 subst T;refine⟨k.fz,fun p A b o hb=>k.own p ?_ b o hb,?_,a0m h.n0 k.n0,fun b hb=>?_,fun p A b o hb=>?_⟩
 ·rcases A with A|A
  ·rcases a0e.1 A with A|A
   ·exact .inr (a0e.2 (.inl A))
   exact .inl A
  exact .inr (a0e.2 (.inr A))
 ·have:=k.nd;have E:((L++M++R).flatten.map Prod.fst).Perm ((M++(L++R)).flatten.map Prod.fst):=by simp only[a0N,a0F,a0a];exact a18 _ _ _
  exact E.nodup_iff.2 this
 ·rcases k.log b hb with h1|h1|h1
  ·exact h.log b h1
  ·exact .inr (.inl (a0m h.n0 h1))
  simp[Base.of]at h1
 rcases a0e.1 A with A|A
 ·exact h.mine p A b o hb
 rcases k.mine p A b o hb with h1|h1
 ·exact .inl (a0m h.n0 h1)
 simp[Base.of]at h1
theorem HS.callOwn(h:HS B F H L R){i:Nat}{p:Fp}(hi:L[i]?=some p):HS (.of H (p.map Prod.fst)) F H [p] (L.set i []++R):=by
 obtain⟨A,C,T,U⟩:=l9 L i p [] hi;have V:p∈L:=a0q hi;refine⟨h.fz,fun x E b o hb=>?_,?_,a06 _,fun b hb=> .inl hb,fun x E b o hb=>?_⟩
 ·rcases E with E|E
  ·simp at E;subst E;exact h.own x (.inl V) b o hb
  rw[U]at E;simp only[a0a,a0t,a0e,a0n]at E;rcases E with E|rfl|E|E
  ·exact h.own x (.inl (by rw[T];simp[E])) b o hb
  ·simp at hb
  ·exact h.own x (.inl (by rw[T];simp[E])) b o hb
  exact h.own x (.inr E) b o hb
 ·have:=h.nd;rw[T]at this;rw[U];have O:(([p]++(A++[]::C++R)).flatten.map Prod.fst).Perm ((A++p::C++R).flatten.map Prod.fst):=by simp only[a0N,a0Q,List.flatten_nil,a0p,a0z,a0F,a0a];exact a18 _ _ _
  exact O.nodup_iff.2 this
 simp at E;subst E;exact .inr (a0w.2 ⟨_,hb,rfl⟩)
theorem HS.backOwn{Y:Heap}{W:List Nat}{p q:Fp}{M:List Fp}(h:HS B F H L R){i:Nat}(hi:L[i]?=some p)(hH:Y=H)(hW: ∀b,b∈W->b∈p.map Prod.fst)(k:HS (.of Y W) F' H' (q::M) (L.set i []++R)):HS B F' H' (L.set i q++M) R:=by
 subst hH;obtain⟨A,C,Z,e2⟩:=f8 L i p hi;have ar:p∈L:=a0q hi;have U: ∀b,b∈W->B.n0<=b\/b∈B.W:=fun b hb=>by obtain⟨⟨b',o⟩,al,rfl⟩:=a0w.1 (hW b hb);exact h.mine p ar b' o al
 have an: ∀x,x∈A++q::C++M\/x∈R->x∈q::M\/x∈A++[]::C++R:=by
  intro x E;simp only[a0a,a0t,a0e,a0n]at E⊢;rcases E with(E|E|E|E)|E
  ·exact .inr (.inl E)
  ·exact .inl (.inl E)
  ·exact .inr (.inr (.inr (.inl E)))
  ·exact .inl (.inr E)
  exact .inr (.inr (.inr (.inr E)))
 have V: ∀x,x∈q::M->∀b o,(b,o)∈x->B.n0<=b\/b∈B.W:=fun x E b o hb=>by
  rcases k.mine x E b o hb with O|O
  ·exact .inl (a0m h.n0 O)
  exact U b O
 rw[e2]at k⊢;refine⟨k.fz,fun x E b o hb=>k.own x (an x E) b o hb,?_,a0m h.n0 k.n0,fun b hb=>?_,fun x E b o hb=>?_⟩
 ·have:=k.nd;have T:((A++q::C++M++R).flatten.map Prod.fst).Perm ((q::M++(A++[]::C++R)).flatten.map Prod.fst):=by
   simp only[a0N,a0Q,a0z,a0F,a0a,a0t];have O: ∀(a c m q r:List Nat),(a++(q++(c++(m++r)))).Perm (q++(m++(a++(c++r)))):=by intro a c m q r;refine List.Perm.trans (a18 a q _) (List.Perm.append_left q ?_);refine List.Perm.trans (List.Perm.append_left a (a18 c m r)) ?_;exact a18 a m _
   exact O _ _ _ _ _
  exact T.nodup_iff.2 this
 ·rcases k.log b hb with O|O|O
  ·exact h.log b O
  ·exact .inr (.inl (a0m h.n0 O))
  exact .inr (U b O)
 simp only[a0a,a0t,a0e,a0n]at E;rcases E with E|rfl|E|E
 ·exact h.mine x (by rw[Z];simp[E]) b o hb
 ·exact V x (by simp) b o hb
 ·exact h.mine x (by rw[Z];simp[E]) b o hb
 exact V x (by simp[E]) b o hb
end
end Go.R
end
noncomputable section
namespace Go.R
class Rp(α:Type) where
 sz:Nat
 rep:Fz->List Value->α->Prop
 len: ∀{F:Fz} {cs:List Value} {x:α},rep F cs x->cs.length=sz
 one: ∀{F:Fz} {cs:List Value} {x:α},rep F cs x->allL Value.oneCell' cs=true
 mono: ∀{F F':Fz} {cs:List Value} {x:α},F.le F'->rep F cs x->rep F' cs x
def RL{α:Type} [Rp α](F:Fz):List Value->List α->Prop
 |cs,[]=>cs=[]
 |cs,x::l=> ∃c r,cs=c++r/\Rp.rep F c x/\RL F r l
theorem allL_app{p:Value->Bool}(a b:List Value):allL p (a++b)=(allL p a&&allL p b):=by simp only[mz,a1A]
section
variable {α:Type} [Rp α] {F F':Fz}
theorem RL.length: ∀{l:List α} {cs:List Value},RL F cs l->cs.length=l.length *Rp.sz α
 | [],cs,h=>by simp only[RL]at h;subst h;simp
 |x::l,cs,h=>by obtain⟨c,r,rfl,A,E⟩:=h;rw[a01,Rp.len A,RL.length E,a03,a1w,Nat.add_comm]
theorem RL.mono(A:F.le F'): ∀{l:List α} {cs:List Value},RL F cs l->RL F' cs l
 | [],_,h=>h
 |_::_,_,⟨c,r,e,h1,h2⟩=>⟨c,r,e,Rp.mono A h1,RL.mono A h2⟩
theorem RL.one: ∀{l:List α} {cs:List Value},RL F cs l->allL Value.oneCell' cs=true
 | [],cs,h=>by simp only[RL]at h;subst h;rfl
 |x::l,cs,h=>by obtain⟨c,r,rfl,A,E⟩:=h;rw[allL_app,Rp.one A,RL.one E];rfl
theorem RL.append: ∀{l m:List α} {cs A:List Value},RL F cs l->RL F A m->RL F (cs++A) (l++m)
 | [],_,cs,_,h,k=>by simp only[RL]at h;subst h;exact k
 |_::_,_,_,_,⟨c,r,e,h1,h2⟩,k=>⟨c,_,by rw[e,a0a],h1,RL.append h2 k⟩
theorem RL.take: ∀{l:List α} {cs:List Value} (n:Nat),RL F cs l->RL F (cs.take (n *Rp.sz α)) (l.take n)
 |l,cs,0,h=>by simp[RL]
 | [],cs,n+1,h=>by simp only[RL]at h;subst h;simp[RL]
 |x::l,cs,n+1,h=>by
  obtain⟨c,r,rfl,A,T⟩:=h;refine⟨c,r.take (n *Rp.sz α),?_,A,RL.take n T⟩;rw[List.take_append,Rp.len A];have E:List.take ((n+1) *Rp.sz α) c=c:=a0o (by rw[Rp.len A,a1w];omega);have O:(n+1) *Rp.sz α-Rp.sz α=n *Rp.sz α:=by rw[a1w];omega
  rw[E,O]
theorem RL.drop: ∀{l:List α} {cs:List Value} (n:Nat),RL F cs l->RL F (cs.drop (n *Rp.sz α)) (l.drop n)
 |l,cs,0,h=>by simpa using h
 | [],cs,n+1,h=>by simp only[RL]at h;subst h;simp[RL]
 |x::l,cs,n+1,h=>by
  obtain⟨c,r,rfl,A,T⟩:=h;have:=RL.drop n T;rw[List.drop_append,Rp.len A];have E:List.drop ((n+1) *Rp.sz α) c=[]:=a0T (by rw[Rp.len A,a1w];omega);have O:(n+1) *Rp.sz α-Rp.sz α=n *Rp.sz α:=by rw[a1w];omega
  rw[E,O];exact this
theorem RL.head{l:List α}{x:α}{cs:List Value}(h:RL F cs (x::l)):Rp.rep F (cs.take (Rp.sz α)) x:=by obtain⟨c,r,rfl,A,_⟩:=h;rw[List.take_append,Rp.len A,Nat.sub_self,List.take_zero,a0p,a0o (by rw[Rp.len A];omega)];exact A
theorem RL.at{l:List α}{cs:List Value}{j:Nat}{x:α}(h:RL F cs l)(E:l[j]?=some x):Rp.rep F ((cs.drop (j *Rp.sz α)).take (Rp.sz α)) x:=by
 have A:=h.drop j;have T:=(a0v.1 E).1;have O:l.drop j=x::l.drop (j+1):=by rw[a0G T];congr 1;exact(a0v.1 E).2
 rw[O]at A;exact A.head
theorem splice_eq(cs vs:List Value)(o:Nat)(h:o+vs.length<=cs.length):bu cs o vs=cs.take o++vs++cs.drop (o+vs.length):=by
 apply a1B;intro i;rw[br cs o vs i h];simp only[a0a,List.getElem?_append,a0O,a0x,a0D];have e:min o cs.length=o:=by omega
 rw[e];by_cases A:i<o
 ·rw[if_pos A,if_neg (by omega)];simp[A]
 rw[if_neg A];by_cases E:i<o+vs.length
 ·rw[if_pos (by omega),if_pos (by omega)]
 rw[if_neg (by omega),if_neg (by omega)];congr 1;omega
theorem RL.set{l:List α}{cs c:List Value}{j:Nat}{x:α}(h:RL F cs l)(A:j<l.length)(hc:Rp.rep F c x):RL F (bu cs (j *Rp.sz α) c) (l.set j x):=by
 have E:=h.length;have hb:j *Rp.sz α+Rp.sz α<=cs.length:=by rw[E,←a1w];exact a0y _ A
 rw[splice_eq _ _ _ (by rw[Rp.len hc];exact hb),List.set_eq_take_append_cons_drop,if_pos A,Rp.len hc,a0a];refine(h.take j).append ?_;refine⟨c,_,rfl,hc,?_⟩;have:=h.drop (j+1);rw[a1w]at this;exact this
theorem RL.replicate{z:List Value}{x:α}(h:Rp.rep F z x): ∀n,RL F (cS n z) (List.replicate n x)
 |0=>rfl
 |n+1=>⟨z,cS n z,rfl,h,RL.replicate h n⟩
def Sl(F:Fz)(o:AObj)(off k:Nat)(l:List α):Prop:= ∃cs A E,o= .cells cs A E/\(E=false->off+k *Rp.sz α<=cs.length)/\l.length<=k/\RL F ((cs.drop off).take (l.length *Rp.sz α)) l/\(A=none\/A=some (Rp.sz α))
def Sv(F:Fz)(get:Nat->Option AObj)(v:Value)(l:List α):Prop:=
 (v= .slice none 0 0/\l=[])\/∃b off k o,v= .slice (some ⟨b,off,none⟩) l.length k/\get b=some o/\Sl F o off k l
def SR(F:Fz)(v:Value)(l:List α):Prop:=Sv F F v l
def OS(F:Fz)(v:Value)(l:List α)(p:Fp):Prop:=
 (v= .slice none 0 0/\l=[]/\p=[])\/∃b off k cs A,v= .slice (some ⟨b,off,none⟩) l.length k/\p=[(b,.cells cs A false)]/\Sl F (.cells cs A false) off k l
theorem Sl.mono(Y:F.le F'){o:AObj}{off k:Nat}{l:List α}(h:Sl F o off k l):Sl F' o off k l:=by obtain⟨cs,A,Z,E,O,T,U,V⟩:=h;exact⟨cs,A,Z,E,O,T,U.mono Y,V⟩
theorem SR.mono(A:F.le F'){v:Value}{l:List α}(h:SR F v l):SR F' v l:=by
 rcases h with h|⟨b,off,k,o,h1,h2,h3⟩
 ·exact .inl h
 exact .inr ⟨b,off,k,o,h1,A _ _ h2,h3.mono A⟩
theorem OS.mono(A:F.le F'){v:Value}{l:List α}{p:Fp}(h:OS F v l p):OS F' v l p:=by
 rcases h with h|⟨b,off,k,cs,opn,h1,h2,h3⟩
 ·exact .inl h
 exact .inr ⟨b,off,k,cs,opn,h1,h2,h3.mono A⟩
theorem SR.nil:SR F (.slice none 0 0) ([]:List α):= .inl ⟨rfl,rfl⟩
theorem OS.nil:OS F (.slice none 0 0) ([]:List α) []:= .inl ⟨rfl,rfl,rfl⟩
variable {B:Base} {H:Heap} {L R:List Fp} {v:Value} {l:List α} {p:Fp}
theorem SR.sv(h:SR F v l)(hs:HS B F H L R):Sv F H.get v l:=by
 rcases h with h|⟨b,off,k,o,h1,h2,h3⟩
 ·exact .inl h
 exact .inr ⟨b,off,k,o,h1,(hs.fz b o h2).1,h3⟩
theorem OS.sv(h:OS F v l p)(hs:HS B F H L R){i:Nat}(hi:L[i]?=some p):Sv F H.get v l:=by
 rcases h with⟨A,E,_⟩|⟨b,off,k,cs,T,A,E,O⟩
 ·exact .inl ⟨A,E⟩
 exact .inr ⟨b,off,k,_,A,hs.get hi (by rw[E];simp),O⟩
def sB:Value->Nat
 | .slice (some a) _ _=>a.block
 |_=>0
def sO:Value->Nat
 | .slice (some a) _ _=>a.off
 |_=>0
def HC(get:Nat->Option AObj)(b o:Nat)(cs:List Value):Prop:= ∃all A E,get b=some (.cells all A E)/\(all.drop o).take cs.length=cs
theorem Sv.at{get:Nat->Option AObj}(h:Sv F get v l){j:Nat}{x:α}(A:l[j]?=some x): ∃cs,Rp.rep F cs x/\HC get (sB v) (sO v+j *Rp.sz α) cs:=by
 rcases h with⟨_,rfl⟩|⟨b,off,k,o,rfl,T,cs,O,Y,rfl,Z,h4,U,h6⟩
 ·simp at A
 have V:=(a0v.1 A).1;have E:=U.at A;refine⟨_,E,cs,O,Y,T,?_⟩;rw[Rp.len E];show(cs.drop (off+j *Rp.sz α)).take (Rp.sz α)=(((cs.drop off).take (l.length *Rp.sz α)).drop (j *Rp.sz α)).take (Rp.sz α);rw[a1T,List.take_take,a1y];congr 1;have:Rp.sz α<=l.length *Rp.sz α-j *Rp.sz α:=by have:=a0y (Rp.sz α) (show j+1<=l.length from V);rw[a1w]at this;omega
 omega
theorem HC.get{get:Nat->Option AObj}{b o:Nat}{cs:List Value}(h:HC get b o cs){i:Nat}{v:Value}(A:cs[i]?=some v): ∃all E O,get b=some (.cells all E O)/\all[o+i]?=some v:=by
 obtain⟨all,E,O,T,U⟩:=h;refine⟨all,E,O,T,?_⟩;rw[←U,a0x]at A;split at A
 ·rw[a0D]at A;exact A
 cases A
theorem HC.part{get:Nat->Option AObj}{b o:Nat}{cs:List Value}(h:HC get b o cs){i n:Nat}(V:i+n<=cs.length): ∃all A O,get b=some (.cells all A O)/\(all.drop (o+i)).take n=(cs.drop i).take n/\((cs.drop i).take n).length=n:=by
 obtain⟨all,A,O,T,U⟩:=h;refine⟨all,A,O,T,?_,by rw[a0O,a0V];omega⟩;have E:(((all.drop o).take cs.length).drop i).take n=(cs.drop i).take n:=by rw[U]
 rw[a1T,List.take_take,a1y]at E;rw[show min n (cs.length-i)=n by omega]at E;exact E
theorem HC.same{get:Nat->Option AObj}{b:Nat}{cs:List Value}{A:Option Nat}{E:Bool}(h:get b=some (.cells cs A E)):HC get b 0 cs:=⟨cs,A,E,h,by simp⟩
instance :Rp Int where
 sz:=1
 rep _ cs n:=cs=[.int .i64 n]/\in64 n
 len:=by rintro F cs x ⟨rfl,_⟩;rfl
 one:=by rintro F cs x ⟨rfl,_⟩;rfl
 mono:=by intro F F' cs x _ h;exact h
instance :Rp Bool where
 sz:=1
 rep _ cs n:=cs=[.bool n]
 len:=by rintro F cs x rfl;rfl
 one:=by rintro F cs x rfl;rfl
 mono:=by intro F F' cs x _ h;exact h
structure Str where
 b:List UInt8
 deriving DecidableEq,Inhabited
instance :Rp Str where
 sz:=1
 rep _ cs s:=cs=[.string ⟨⟨s.b⟩⟩]
 len:=by rintro F cs x rfl;rfl
 one:=by rintro F cs x rfl;rfl
 mono:=by intro F F' cs x _ h;exact h
structure U64 where
 n:Int
 deriving DecidableEq,Inhabited
instance :Rp U64 where
 sz:=1
 rep _ cs s:=cs=[.int .u64 s.n]/\0<=s.n/\s.n<18446744073709551616
 len:=by rintro F cs x ⟨rfl,_⟩;rfl
 one:=by rintro F cs x ⟨rfl,_⟩;rfl
 mono:=by intro F F' cs x _ h;exact h
instance :Rp UInt8 where
 sz:=1
 rep _ cs s:=cs=[.int .u8 s.toNat]
 len:=by rintro F cs x rfl;rfl
 one:=by rintro F cs x rfl;rfl
 mono:=by intro F F' cs x _ h;exact h
theorem Sv.shape{get:Nat->Option AObj}{v:Value}{l:List α}(h:Sv F get v l): ∃a k,v= .slice a l.length k:=by
 rcases h with⟨rfl,rfl⟩|⟨b,off,k,o,rfl,_⟩
 ·exact⟨none,0,rfl⟩
 exact⟨_,k,rfl⟩
theorem OS.shape{v:Value}{l:List α}{p:Fp}(h:OS F v l p): ∃a k,v= .slice a l.length k:=by
 rcases h with⟨rfl,rfl,_⟩|⟨b,off,k,cs,A,rfl,_⟩
 ·exact⟨none,0,rfl⟩
 exact⟨_,k,rfl⟩
instance :Rp (List α) where
 sz:=1
 rep F cs l:= ∃a k,cs=[.slice a l.length k]/\SR F (.slice a l.length k) l
 len:=by rintro F cs x ⟨a,k,rfl,_⟩;rfl
 one:=by rintro F cs x ⟨a,k,rfl,h⟩;rfl
 mono:=by rintro F F' cs x hF ⟨a,k,rfl,h⟩;exact⟨a,k,rfl,h.mono hF⟩
end
end Go.R
end
noncomputable section
namespace Go.R
section
variable {α:Type} [Rp α] {P:Program} {ρ:Operand->Value} {d:Option Tmp} {ty:TypeId} {pos:String} {af:Array Edge} {gd:Option (Nat×Bool)} {B:Base} {F:Fz} {H:Heap} {L R:List Fp} {v:Value} {l:List α} {p:Fp}
theorem ap_lenV{x:Operand}{t e:TypeId}(O:ρ x=v)(A:P.underlying t=some (.slice e))(h:Sv F H.get v l):
  AP P ρ ⟨d,.call ⟨.builtin .len, #[x], #[t]⟩,ty,pos,af,gd⟩ H (.val (.int .i64 l.length),H):=by
 refine⟨?_⟩
 obtain⟨a,k,E⟩:=h.shape
 show ovl (aLen P t (ρ x) H) H=_
 rw[O,E]
 unfold aLen
 rw[A];rfl
theorem eT{x:Operand}{t:TypeId}{s:List UInt8}(E:ρ x= .string ⟨⟨s⟩⟩)(A:P.underlying t=some .string):
  AP P ρ ⟨d,.call ⟨.builtin .len, #[x], #[t]⟩,ty,pos,af,gd⟩ H (.val (.int .i64 s.length),H):=by
 refine⟨?_⟩
 show ovl (aLen P t (ρ x) H) H=_
 rw[E]
 unfold aLen
 rw[A]
 show ovl (some (goInt (iA s))) H=_
 rw[bA];rfl
theorem mt{x i:Operand}{t e:TypeId}{Y:IntKind}{j:Int}(U:ρ x=v)(hi:ρ i= .int Y j)(T:P.underlying t=some (.slice e))(V:di P e=some (Rp.sz α))(h:Sv F H.get v l)(E:0<=j:=by first|(dsimp only;omega)|omega)(A:j<l.length:=by first|(dsimp only;omega)|omega):
  AP P ρ ⟨d,.indexAddr t x i,ty,pos,af,gd⟩ H (.val (.pointer (some ⟨sB v,sO v+j.toNat *Rp.sz α,none⟩)),H):=by
 rcases h with⟨_,rfl⟩|⟨b,off,k,o,rfl,h2,cs,Z,ro,rfl,h3,O,h5,h6⟩
 ·simp at A;omega
 exact jd U hi T V E A O
theorem eN{t:TypeId}{x:Operand}{b o o' i:Nat}{cs:List Value}{w:Value}(U:ρ x= .pointer (some ⟨b,o',none⟩))(ha:eJ P t=some false)(hc:HC H.get b o cs)(O:o'=o+i)(T:cs[i]?=some w):
  AP P ρ ⟨d,.load t x,ty,pos,af,gd⟩ H (.val w,H):=by
 subst O
 obtain⟨all,V,Y,A,E⟩:=hc.get T
 exact ap_load1 U ha A E
theorem cV{t:TypeId}{x:Operand}{b o o' i n:Nat}{cs l:List Value}(Y:ρ x= .pointer (some ⟨b,o',none⟩))(ha:eJ P t=some true)(hs:di P t=some n)(hc:HC H.get b o cs)(V:o'=o+i)(U:Nat.ble (i+n) cs.length=true)(A:fN (gy cs i) n=l):
  AP P ρ ⟨d,.load t x,ty,pos,af,gd⟩ H (.val (.agg ⟨l⟩),H):=by
 subst V
 obtain⟨all,Z,ro,E,O,T⟩:=hc.part (a0d U)
 rw[bL,cg]at A
 exact ap_loadN Y ha hs E (O.trans A) (by rw[←A];exact T)
theorem jr{s:TypeId}{x:Operand}{f b o o':Nat}(A:ρ x= .pointer (some ⟨b,o,none⟩))(h:iy P s (.pointer (some ⟨b,o,none⟩)) f=some (.pointer (some ⟨b,o',none⟩))):
  AP P ρ ⟨d,.fieldAddr s x f,ty,pos,af,gd⟩ H (.val (.pointer (some ⟨b,o',none⟩)),H):=by
 refine⟨?_⟩
 show ovl (iy P s (ρ x) f) H=_
 rw[A,h];rfl
theorem ap_fv{t:TypeId}{x:Operand}{f:Nat}{u w:Value}(A:ρ x=u)(h:gZ P t u f=some w):AP P ρ ⟨d,.field t x f,ty,pos,af,gd⟩ H (.val w,H):=by refine⟨?_⟩;show ovl (gZ P t (ρ x) f) H=_;rw[A,h];rfl
theorem ap_ex{x:Operand}{i:Nat}{u w:Value}(A:ρ x=u)(h:gw u i=some w):AP P ρ ⟨d,.extract x i,ty,pos,af,gd⟩ H (.val w,H):=by refine⟨?_⟩;show ovl (gw (ρ x) i) H=_;rw[A,h];rfl
theorem lD{t:TypeId}{A:Array (Nat×Operand)}{ps:Array (Nat×Value)}{z:List Value}{w:Value}(E:A.map (fun p=>(p.1,ρ p.2))=ps)(O:dz P t=some z)(h:au P (Instr.build t ps)=some w):
  AP P ρ ⟨d,.build t A,ty,pos,af,gd⟩ H (.val w,H):=by
 refine⟨?_⟩
 show gP P t (A.map fun p=>(p.1,ρ p.2)) H=_
 rw[E]
 unfold gP
 rw[O]
 show lift P (Instr.build t ps) H=_
 unfold lift
 rw[h]
theorem ap_alloc{e:TypeId}{z:List Value}(A:dz P e=some z):AP P ρ ⟨d,.alloc e,ty,pos,af,gd⟩ H (.val (.pointer (some ⟨H.next,0,none⟩)),H.push (.cells z none false)):=by refine⟨?_⟩;show ew P e H=_;unfold ew;rw[A];rfl
theorem ap_box{e:TypeId}{x:Operand}{cs:List Value}(A:(ρ x).cells.toList=cs):AP P ρ ⟨d,.box e x,ty,pos,af,gd⟩ H (.val (.pointer (some ⟨H.next,0,none⟩)),H.push (.cells cs none false)):=by subst A;exact⟨rfl⟩
theorem jR{b o:Nat}{cs vs:List Value}{A:Option Nat}(O:H.get b=some (.cells cs A false))(T:o+vs.length<=cs.length)(E:allL Value.oneCell' vs=true):H.storeL ⟨b,o,none⟩ vs=some (H.put b (.cells (bu cs o vs) A false)):=by unfold Heap.storeL;have:Nat.ble (Nat.add o (iA vs)) (iA cs)=true:=a0r (by rw[bA,bA];exact T);simp only[O,this,E,a1p,cond_true]
theorem ap_st{t:TypeId}{a x:Operand}{b o n:Nat}{u:Value}{A:List Value}{H1:Heap}(ha:ρ a= .pointer (some ⟨b,o,none⟩))(U:ρ x=u)(T:di P t=some n)(hc:u.cells.toList=A)(O:Nat.beq A.length n=true)(E:H.storeL ⟨b,o,none⟩ A=some H1):
  AP P ρ ⟨d,.store t a x,ty,pos,af,gd⟩ H (.skip,H1):=by
 refine⟨?_⟩
 show gO P t (ρ a) (ρ x) H=_
 rw[ha,U]
 unfold gO
 have:u.cells.size=A.length:=by rw[←hc];simp
 rw[this,T]
 simp only[O,cond_true,hc,E]
 rfl
theorem HS.st(hs:HS B F H L R){i b o:Nat}{cs A E:List Value}(hi:L[i]?=some [(b,.cells cs none false)])(U:Nat.ble (o+A.length) cs.length=true)(O:allL Value.oneCell' A=true)(T:bu cs o A=E):
  ∃H1,H.storeL ⟨b,o,none⟩ A=some H1/\HS B F H1 (L.set i [(b,.cells E none false)]) R:=by
 subst T
 exact⟨_,jR (hs.get hi (a0E.2 rfl)) (a0d U) O,hs.put hi⟩
theorem HS.hc(hs:HS B F H L R){i b:Nat}{cs:List Value}(hi:L[i]?=some [(b,.cells cs none false)]):HC H.get b 0 cs:=HC.same (hs.get hi (a0E.2 rfl))
theorem os_set(h:OS F v l p)(hs:HS B F H L R){i j:Nat}(hi:L[i]?=some p){x x':α}{off:Nat}{A:List Value}(hx:l[j]?=some x)(h1:allL Value.oneCell' A=true)
  (hr: ∀cs,Rp.rep F cs x->off+A.length<=cs.length/\Rp.rep F (bu cs off A) x'):
  ∃H1 p',H.storeL ⟨sB v,sO v+j *Rp.sz α+off,none⟩ A=some H1/\OS F v (l.set j x') p'/\HS B F H1 (L.set i p') R/\∀b cs E,p=[(b,.cells cs E false)]->∃V,p'=[(b,.cells V E false)]:=by
 have hj:=(a0v.1 hx).1
 rcases h with⟨_,rfl,_⟩|⟨b,o,k,cs,E,rfl,rfl,bl,bk,bt,U,Z,h4,h5,h6⟩
 ·simp at hj
 injection U with e1 e2 e3
 subst e1 e2 e3
 replace Z:=Z rfl
 have Y:=h5.at hx
 have ar:=h5.length
 have a4:j *Rp.sz α+Rp.sz α<=l.length *Rp.sz α:=by rw[←a1w];exact a0y _ hj
 have bn:l.length *Rp.sz α<=k *Rp.sz α:=a0y _ h4
 obtain⟨O,g2⟩:=hr _ Y
 have T:=Rp.len Y
 have hb:o+j *Rp.sz α+off+A.length<=cs.length:=by rw[T]at O;omega
 refine⟨_,_,jR (b:=b) (o:=o+j *Rp.sz α+off) (hs.get hi (a0E.2 rfl)) hb h1,.inr ⟨b,o,k,_,E,by rw[List.length_set],rfl,_,_,_,rfl,?_,by rw[List.length_set];exact h4,?_,h6⟩,hs.put hi,?_⟩
 ·intro _;rw[bY _ _ _ hb];exact Z
 rotate_left
 ·intro b' V bf U;simp only[List.cons.injEq,a04,AObj.cells.injEq,and_true]at U;obtain⟨rfl,rfl,rfl⟩:=U;exact⟨_,rfl⟩
 rw[List.length_set]
 have key:((bu cs (o+j *Rp.sz α+off) A).drop o).take (l.length *Rp.sz α)=bu ((cs.drop o).take (l.length *Rp.sz α)) (j *Rp.sz α) (bu ((((cs.drop o).take (l.length *Rp.sz α)).drop (j *Rp.sz α)).take (Rp.sz α)) off A):=by
  have hA:(bu ((((cs.drop o).take (l.length *Rp.sz α)).drop (j *Rp.sz α)).take (Rp.sz α)) off A).length=Rp.sz α:=by rw[bY _ _ _ O,T]
  have hB:((cs.drop o).take (l.length *Rp.sz α)).length=l.length *Rp.sz α:=ar;apply a1B;intro q;rw[br _ _ _ _ (by rw[hA,hB];exact a4),a0x,a0D,br _ _ _ _ hb,hA];rw[T]at O;by_cases c1:q<l.length *Rp.sz α
  ·rw[if_pos c1];by_cases c2:o+j *Rp.sz α+off<=o+q/\o+q<o+j *Rp.sz α+off+A.length
   ·rw[if_pos c2,if_pos (by omega),br _ _ _ _ (by rw[T];exact O),if_pos (by omega)];congr 1;omega
   rw[if_neg c2];by_cases c3:j *Rp.sz α<=q/\q<j *Rp.sz α+Rp.sz α
   ·rw[if_pos c3,br _ _ _ _ (by rw[T];exact O),if_neg (by omega),a0x,if_pos (by omega),a0D,a0x,if_pos (by omega),a0D];congr 1;omega
   rw[if_neg c3,a0x,if_pos c1,a0D]
  rw[if_neg c1,if_neg (by omega),a0x,if_neg c1]
 rw[key]
 exact h5.set hj g2
theorem Sv.first{x:Value}{l2:List α}(h:Sv F H.get x l2):lenA x=some l2.length/\∃new,gb H (Rp.sz α) l2.length x=some new/\RL F new l2:=by
 rcases h with⟨rfl,rfl⟩|⟨b,off,k,o,rfl,E,cs,T,Z,rfl,U,V,A,Y⟩
 ·exact⟨rfl,[],rfl,rfl⟩
 refine⟨rfl,?_⟩;unfold gb;cases hb:Nat.beq l2.length 0 with
 |true=>
  have:=a07 hb
  have e:l2=[]:=a0f this
  subst e
  exact⟨[],rfl,rfl⟩
 |false=>
  refine⟨_,?_,A⟩
  simp only[cond_false]
  unfold Heap.loadN
  have O:=A.length
  simp only[E,bL,cg,bA,O,a0S,cond_true]
theorem os_append(h:OS F v l p)(hs:HS B F H L R){i:Nat}(hi:L[i]?=some p){x:Value}{l2:List α}{new z:List Value}{types:Array TypeId}{st xt e:TypeId}{xd:TypeDesc}{a6:Nat}
  (h0:types[0]?=some st) (h1:types[1]?=some xt) (b6:P.underlying st=some (.slice e)) (b9:P.underlying xt=some xd) (b7: ∀k,xd≠ .int k) (hz:di P e=some (Rp.sz α)) (b1:gg P e=some a6) (ch:dz P e=some z)
  (a9:Nat.beq (iA z) (Rp.sz α)=true) (a7:Nat.ble a6 4096=true) (V:Nat.beq (Rp.sz α) 0=false) (b8:lenA x=some l2.length) (hf:gb H (Rp.sz α) l2.length x=some new) (E:RL F new l2) (a1:l.length+l2.length<=2147483648):
  ∃a k H1 p',fB P types v x H=some (.slice a (l++l2).length k,H1)/\OS F (.slice a (l++l2).length k) (l++l2) p'/\HS B F H1 (L.set i p') R:=by
 have U:L.set i p=L:=by obtain⟨A,C,e1,e2⟩:=f8 L i p hi;rw[e2 p,←e1]
 have a2:=E.one
 have O:=E.length
 have co:0<Rp.sz α:=by
  rcases a1o (Rp.sz α) with hq|hq
  ·rw[hq]at V;cases V
  exact hq
 have c6: ∀(Y:Option (Value×Heap)),(match xd with| .int _=>none|_=>Y)=Y:=by intro Y;cases xd<;>first|rfl|exact absurd rfl (b7 _)
 unfold fB
 simp only[h0,h1,b6,b9,hz,b1,ch,b8,hf]
 rcases h with⟨rfl,rfl,rfl⟩|⟨b,o,k,cs,Z,rfl,rfl,c9,c8,dk,he,h3,h4,h5,h6⟩
 ·cases hm:Nat.beq l2.length 0 with
  |true=>
   have:l2=[]:=a0f (a07 hm)
   subst this
   exact⟨none,0,H,[],rfl,.nil,by rw[U];exact hs⟩
  |false=>
   have ax:Nat.ble l2.length 2147483648=true:=a0r (by simp at a1;omega)
   simp only[cond_false,a9,ax,a7,V,a1D,a1p,cond_true]
   refine⟨_,_,_,[(H.next,.cells new (some (Rp.sz α)) false)],rfl,.inr ⟨_,0,_,_,_,rfl,rfl,_,_,_,rfl,?_,by simp,?_,.inr rfl⟩,?_⟩
   ·intro _;show 0+l2.length *Rp.sz α<=new.length;rw[O];omega
   ·rw[a1f,a0z,←O,a0W];exact E
   refine hs.turn hi (H':=aJ H new (some (Rp.sz α))) (by simp[aJ]) (fun b hb _=>Heap.get_push_ne _ _ (by omega)) (fun b o hb=>?_) (by simp) (fun b hb=> .inl (by simpa[aJ] using hb))
   simp at hb;obtain⟨rfl,rfl⟩:=hb
   exact⟨Heap.get_push_same _ _,by simp[aJ],.inl (a06 _)⟩
 injection he with e1 e2 e3
 subst e1 e2 e3
 replace h3:=h3 rfl
 have hg:=hs.get hi (b:=b) (o:= .cells cs Z false) (by simp)
 simp only[hg]
 cases hk:Nat.ble (l.length+l2.length) k with
 |true=>
  have a8:=a0d hk
  simp only[cond_true]
  cases hm:Nat.beq l2.length 0 with
  |true=>
   have:l2=[]:=a0f (a07 hm)
   subst this
   simp only[cond_true,a0p]
   exact⟨_,_,_,_,rfl,.inr ⟨b,o,k,cs,Z,rfl,rfl,_,_,_,rfl,fun _=>h3,h4,h5,h6⟩,by rw[U];exact hs⟩
  |false=>
   simp only[cond_false]
   have b2:(l.length+l2.length) *Rp.sz α<=k *Rp.sz α:=a0y _ a8
   have hb:o+l.length *Rp.sz α+new.length<=cs.length:=by rw[O];rw[a0U]at b2;omega
   rw[jR hg hb a2]
   simp only
   refine⟨some ⟨b,o,none⟩,k,_,[(b,.cells (bu cs (o+l.length *Rp.sz α) new) Z false)],by rw[a01],.inr ⟨b,o,k,_,Z,rfl,rfl,_,_,_,rfl,?_,by rw[a01];exact a8,?_,h6⟩,hs.put hi⟩
   ·intro _;rw[bY _ _ _ hb];exact h3
   have key:((bu cs (o+l.length *Rp.sz α) new).drop o).take ((l++l2).length *Rp.sz α)=(cs.drop o).take (l.length *Rp.sz α)++new:=by
    have b3:=h5.length;apply a1B;intro q;rw[a0x,a0D,br _ _ _ _ hb,a01,a0U,List.getElem?_append,b3];by_cases c1:q<l.length *Rp.sz α
    ·rw[if_pos (by omega),if_neg (by omega),if_pos c1,a0x,if_pos c1,a0D]
    rw[if_neg c1];by_cases c2:q<l.length *Rp.sz α+l2.length *Rp.sz α
    ·rw[if_pos c2,if_pos (by rw[O];omega)];congr 1;omega
    rw[if_neg c2,a1g (by rw[O];omega)]
   rw[key]
   exact h5.append E
 |false=>
  simp only[cond_false]
  have ax:Nat.ble (l.length+l2.length) 2147483648=true:=a0r a1
  have b5:Nat.ble l.length k=true:=a0r h4
  simp only[a9,ax,a7,V,b5,a1D,a1p,cond_true]
  have bt:gb H (Rp.sz α) l.length (.slice (some ⟨b,o,none⟩) l.length k)=some ((cs.drop o).take (l.length *Rp.sz α)):=by
   unfold gb;cases hb:Nat.beq l.length 0 with
   |true=>
    have:=a07 hb
    simp[this]
   |false=>
    simp only[cond_false]
    unfold Heap.loadN
    have hl:=h5.length
    simp only[hg,bL,cg,bA,hl,a0S,cond_true]
  rw[bt]
  simp only[dF]
  have an:=h5.append E
  have T:=an.length
  have ar: ∀(k':Nat) (bb:Nat),k'=(l++l2).length->OS F (.slice (some ⟨bb,0,none⟩) (l++l2).length k') (l++l2) [(bb,.cells ((cs.drop o).take (l.length *Rp.sz α)++new) (some (Rp.sz α)) false)]:=by rintro k' bb rfl;refine .inr ⟨bb,0,_,_,_,rfl,rfl,_,_,_,rfl,fun _=>(by rw[T];omega),a06 _,?_,.inr rfl⟩;rw[a1f,←T,a0W];exact an
  rcases h6 with rfl|rfl
  ·simp only;refine⟨some ⟨H.next,0,none⟩,l.length+l2.length,_,_,by rw[a01],ar _ _ (by rw[a01]),?_⟩;refine hs.turn hi (by simp[aJ]) (fun b hb _=>Heap.get_push_ne _ _ (by omega)) (fun b o hb=>?_) (by simp) (fun b hb=> .inl (by simpa[aJ] using hb));simp at hb;obtain⟨rfl,rfl⟩:=hb;exact⟨Heap.get_push_same _ _,by simp[aJ],.inl (a06 _)⟩
  simp only[a0S,a1p,a2,cond_true]
  refine⟨some ⟨H.next,0,none⟩,l.length+l2.length,_,_,by rw[a01],ar _ _ (by rw[a01]),?_⟩
  refine hs.turn hi (by simp[aJ]) (fun c hb b4=>?_) (fun c o hb=>?_) (by simp) (fun c hb=>?_)
  ·show((H.put b .dead).push _).get c=_;rw[Heap.get_push_ne _ _ (by simp;omega),Heap.get_put_ne _ _ fun e=>b4 (.cells cs (some (Rp.sz α)) false) (by simp[e])]
  ·simp at hb;obtain⟨rfl,rfl⟩:=hb;exact⟨Heap.get_push_same (H.put b .dead) _,by simp[aJ],.inl (a06 _)⟩
  simp only[aJ,Heap.log_push,Heap.log_put]at hb
  rcases a0n.1 hb with rfl|hb
  ·exact .inr (.inr ⟨.cells cs (some (Rp.sz α)) false,by simp⟩)
  exact .inl hb
end
end Go.R
end
noncomputable section
set_option linter.unusedVariables false
namespace Go.R
section
variable {P:Program} {G:Nat} {cf:ck} {ops:Array Oper}
theorem jx{s A:St}{d:Option Tmp}{v:Value}(h:s.put d v=some A):A.size=s.size:=by
 unfold St.put at h;cases d with
 |none=>simp only[a00]at h;rw[←h]
 |some d=>
  cases hb:Nat.ble (d+1) s.size with
  |true=>simp only[hb,cond_true,a00]at h;rw[←h]
  |false=>simp only[hb,cond_false]at h;cases h
theorem step_size{o:Oper}{s O:St}(h:step P G cf ops o s=some O):O.size=s.size:=by
 unfold step at h;cases E:aW ops o s.tmps with
 |false=>simp only[E,cond_false]at h;exact jx h
 |true=>
  simp only[E,cond_true]at h
  cases A:o.op.operands.toList.all (bg G) with
  |false=>rw[A]at h;cases h
  |true=>
   rw[A]at h
   simp only[cond_true]at h
   split at h
   ·have:=jx h;exact this
   ·have:=jx h;exact this
   ·split at h
    ·have:=jx h;exact this
    cases h
   cases h
theorem jU: ∀(l:List Oper) (s A:St),fC P G cf ops l s=some A->A.size=s.size
 | [],_,_,h=>by rw[iG]at h;simp only[a00]at h;rw[←h]
 |o::l,s,A,h=>by
  rw[bP]at h;split at h
  ·rename_i t E;rw[jU l _ _ h,step_size E]
  cases h
theorem iW: ∀(l:List Oper) (i:Nat) (fs:List (Nat×Inf)) (s s':St),bd P G cf ops i fs l s=some s'->s'.size=s.size
 | [],_,_,_,_,h=>by unfold bd at h;simp only[a00]at h;rw[←h]
 |o::l,i,fs,s,s',h=>by
  unfold bd at h;split at h
  ·rename_i t f A;cases E:bU (cj ops) i f fs with
   |false=>rw[E]at h;cases h
   |true=>
    rw[E]at h
    rw[iW l _ _ _ _ h]
    unfold gG at A
    split at A
    ·rename_i T O;simp only[a00,a04]at A;rw[←A.1];have:=step_size O;exact this
    cases A
  cases h
theorem region_size{A:Bool}{s O:St}(h:bF P G cf ops A s=some O):O.size=s.size:=by
 unfold bF at h;cases A with
 |false=>exact jU _ _ _ h
 |true=>
  simp only[cond_true]at h
  cases E:jV ops&&P.follows .mixedOrders with
  |false=>rw[E]at h;cases h
  |true=>rw[E]at h;exact iW _ _ _ _ _ h
def SizeOK(ex:Code->St->Option (Ex×St)):Prop:= ∀c s e A,ex c s=some (e,A)->A.size=s.size
theorem execC_size{ex:Code->St->Option (Ex×St)}(Z:SizeOK ex):SizeOK (eF P G ex cf):=by
 intro c;have V: ∀{r:Option (Ex×St)} {k:St->Option (Ex×St)} {n:Nat} {e:Ex} {A:St},(∀e s,r=some (e,s)->s.size=n)->(∀s e A,s.size=n->k s=some (e,A)->A.size=n)->gf r k=some (e,A)->A.size=n:=by
  intro r k n e A hr hk h;cases O:r with
  |none=>rw[O]at h;cases h
  |some y=>
   obtain⟨U,T⟩:=y
   have E:=hr U T O
   rw[O]at h
   cases U with
   |normal=>exact hk T e A E h
   |exit i=>simp only[gf,a00,a04]at h;rw[←h.2];exact E
   |ret=>simp only[gf,a00,a04]at h;rw[←h.2];exact E
 induction c with
 |skip=>intro s e A h;rw[li]at h;simp only[a00,a04]at h;rw[←h.2]
 |region id ops draw=>
  intro s e A h
  rw[ge]at h
  cases O:bF P G cf ops draw s with
  |none=>rw[O]at h;cases h
  |some t=>
   rw[O]at h
   simp only[dK,a00,a04]at h
   rw[←h.2];exact region_size O
 |seq a b iha ihb=>
  intro s e A h
  rw[ke]at h
  exact V (fun e T E=>iha s e T E) (fun T e A E Y=>(ihb T e A Y).trans E) h
 |cond c t e iht ihe=>
  intro s e A h
  rw[iN]at h
  cases O:bg G c with
  |false=>rw[O]at h;cases h
  |true=>
   rw[O]at h
   simp only[cond_true]at h
   unfold ln at h
   split at h
   ·rename_i b hb;cases b with
    |true=>exact iht s _ A h
    |false=>exact ihe s _ A h
   cases h
 |block id b ih=>
  intro s e A h
  rw[gV]at h
  cases O:eF P G ex cf b s with
  |none=>rw[O]at h;cases h
  |some y=>
   obtain⟨U,T⟩:=y
   have E:=ih s U T O
   rw[O]at h
   cases U with
   |normal=>simp only[cO,a00,a04]at h;rw[←h.2];exact E
   |exit i=>
    unfold cO at h
    cases hb:Nat.beq i id with
    |true=>simp only[hb,cond_true,a00,a04]at h;rw[←h.2];exact E
    |false=>simp only[hb,cond_false,a00,a04]at h;rw[←h.2];exact E
   |ret=>simp only[cO,a00,a04]at h;rw[←h.2];exact E
 |loop b ih=>
  intro s e A h
  rw[iM]at h
  exact V (fun e T E=>ih s e T E) (fun T e A E Y=>(Z _ T e A Y).trans E) h
 |exit id=>intro s e A h;rw[lj]at h;simp only[a00,a04]at h;rw[←h.2]
 |ret=>intro s e A h;rw[execC_ret]at h;simp only[a00,a04]at h;rw[←h.2]
 |_=>intro s e A h;cases h
theorem exec_size{K:bp}: ∀n,SizeOK (lm P G K n)
 |0=>fun c s e A h=>by cases h
 |n+1=>fun c=>execC_size (exec_size n) c
end
section
variable {P:Program} {G:Nat} {K:bp} {sz:Nat} {Q Q1:Ex->Fn->Heap->Prop} {c:Code} {k:List Fr} {f:Fn} {H:Heap}
theorem wk_cut(h1:WK P G K sz c [] f H Q1)(h2: ∀A H',Q1 .normal A H'->WK P G K sz .skip k A H' Q)(h3: ∀i A H',Q1 (.exit i) A H'->WK P G K sz (.exit i) k A H' Q)(h4: ∀A H',Q1 .ret A H'->Q .ret A H'):
  WK P G K sz c k f H Q:=⟨fun t ht=>by
 obtain⟨E,e,s1,hx,hq⟩:=h1.out t ht
 have U:lm P G K (E+1) c ⟨t,sz,H⟩=some (e,s1):=hx
 have a1:=exec_size _ _ _ _ _ U
 obtain⟨V,O,H1⟩:=s1
 have ar:O=sz:=a1
 subst ar
 cases e with
 |ret=>exact⟨E,.ret,_,by rw[U];exact jv k,h4 _ _ hq⟩
 |normal=>
  obtain⟨T,e,s',Z,h6⟩:=(h2 _ _ hq).out V rfl
  refine⟨Nat.max E T,e,s',?_,h6⟩
  refine dM (a1n (a0Z E T)) k _ _ (fun x Y=>?_) _ Z
  have:x=(.normal,⟨V,O,H1⟩):=by have:some (Ex.normal,(⟨V,O,H1⟩:St))=some x:=Y;exact(Option.some.inj this).symm
  subst this
  exact io (a1n (a1t E T)) _ _ _ U
 |exit i=>
  obtain⟨T,e,s',Z,h6⟩:=(h3 i _ _ hq).out V rfl
  refine⟨Nat.max E T,e,s',?_,h6⟩
  refine dM (a1n (a0Z E T)) k _ _ (fun x Y=>?_) _ Z
  have:x=(.exit i,⟨V,O,H1⟩):=by have:some (Ex.exit i,(⟨V,O,H1⟩:St))=some x:=Y;exact(Option.some.inj this).symm
  subst this
  exact io (a1n (a1t E T)) _ _ _ U⟩
def inR(lo hi:Nat)(ex:List Nat)(j:Nat):Bool:=(Nat.ble lo j&&Nat.ble j hi)||memB j ex
def hav(lo hi:Nat)(ex:List Nat)(g f:Fn):Fn:=fun j=>bif inR lo hi ex j then g j else f j
structure Leaves(lo hi:Nat)(ex:List Nat)(f f':Fn):Prop where
 out: ∀j,inR lo hi ex j=false->f' j=f j
theorem Leaves.refl{lo hi:Nat}{ex:List Nat}{f:Fn}:Leaves lo hi ex f f:=⟨fun _ _=>rfl⟩
theorem Leaves.upd{lo hi:Nat}{ex:List Nat}{f E:Fn}{i:Nat}{v:Value}(O:inR lo hi ex i=true)(h:Leaves lo hi ex f E):Leaves lo hi ex f (upd E i v):=⟨fun j A=>by
 unfold Go.R.upd;cases hb:Nat.beq i j with
 |true=>have:=a07 hb;subst this;rw[O]at A;cases A
 |false=>exact h.out j A⟩
theorem Leaves.eq{lo hi:Nat}{ex:List Nat}{f A:Fn}(h:Leaves lo hi ex f A):A=hav lo hi ex A f:=by
 funext j;unfold hav;cases hb:inR lo hi ex j with
 |true=>rfl
 |false=>exact h.out j hb
theorem ff{id:Nat}{ops:Array Oper}{E:Bool}(lo hi:Nat)(ex:List Nat)(l:List (Nat×Value))(O:Heap->Prop)
  (T:WK P G K sz (.region id ops E) [] f H fun e A H'=>e= .normal/\O H'/\Leaves lo hi ex f A/\aN A l)
  (U: ∀g H',O H'->WK P G K sz .skip k (kC (hav lo hi ex g f) l) H' Q):WK P G K sz (.region id ops E) k f H Q:=by
 refine wk_cut T ?_ ?_ ?_
 ·rintro A H' ⟨_,hH,hl,ha⟩;have:=U A H' hH;rw[←hl.eq,hN ha]at this;exact this
 ·rintro i A H' ⟨h,_⟩;cases h
 rintro A H' ⟨h,_⟩;cases h
end
inductive ID where
 |v
 |a
 |r
 |l (b:Nat)
 |x (W:List Nat)
 |q (S:Nat->Prop)
 |n (B:Nat)
def ID.fits:ID->Inf->Prop
 | .v,g=>g= .v
 | .a,g=> ∃b,g= .a b
 | .r,g=>gh g=true
 | .l b,g=>g= .l b
 | .x W,g=> ∃w,g= .x w/\∀b,b∈w->b∈W
 | .q S,g=>g= .v\/∃b,g= .l b/\S b
 | .n B,g=> ∃b,g= .a b/\B<=b
def ID.nilW:List Nat->Prop
 | []=>True
 |_=>False
def cD:ID->ID->Prop
 | .v,_=>True
 |_,.v=>True
 | .q S,.x W=> ∀b,b∈W->¬S b
 | .x W,.q S=> ∀b,b∈W->¬S b
 | .l b,.x W=>b∉W
 | .x W,.l b=>b∉W
 | .x W,.x U=>ID.nilW W/\ID.nilW U
 | .n B,.x W=> ∀b,b∈W->b<B
 | .x _,.n _=>True
 | .a,.x W=>ID.nilW W
 | .r,.x W=>ID.nilW W
 | .x _,.a=>True
 | .x W,.r=>ID.nilW W
 |_,_=>True
theorem eo{b:Nat}: ∀{l:List Nat},b∉l->memB b l=false
 | [],_=>rfl
 |c::l,h=>by
  simp only[a0n,not_or]at h;unfold memB;have:Nat.beq b c=false:=by
   cases hb:Nat.beq b c with
   |false=>rfl
   |true=>exact absurd (a07 hb) h.1
  rw[this,eo h.2];rfl
theorem bC: ∀{d:ID} {g:Inf},d.fits g->(∀W,d≠ .x W)->gh g=true
 | .v,_,h,_=>by subst h;rfl
 | .a,_,⟨_,h⟩,_=>by subst h;rfl
 | .r,_,h,_=>h
 | .l _,_,h,_=>by subst h;rfl
 | .x W,_,_,h=>absurd rfl (h W)
 | .q _,_,h,_=>by rcases h with rfl|⟨_,rfl,_⟩<;>rfl
 | .n _,_,h,_=>by obtain⟨_,rfl,_⟩:=h;rfl
theorem eB{W:List Nat}{g:Inf}(h:ID.nilW W)(A:ID.fits (.x W) g):gh g=true:=by
 obtain⟨w,rfl,E⟩:=A;cases W with
 |nil=>
  cases w with
  |nil=>rfl
  |cons a t=>have:=E a (by simp);simp at this
 |cons _ _=>exact absurd h id
theorem compat_of{d e:ID}{f g:Inf}(hd:d.fits f)(A:e.fits g)(h:cD d e):ea f g=true:=by
 have key:gh f=true->gh g=true->ea f g=true:=mr;cases d with
 |v=>rw[show f= .v from hd];rfl
 |a=>
  cases e with
  |x W=>exact key (bC hd (by intro W h;cases h)) (eB h A)
  |v=>rw[show g= .v from A];cases f<;>rfl
  |_=>exact key (bC hd (by intro W h;cases h)) (bC A (by intro W h;cases h))
 |r=>
  cases e with
  |x W=>exact key (bC hd (by intro W h;cases h)) (eB h A)
  |v=>rw[show g= .v from A];cases f<;>rfl
  |_=>exact key (bC hd (by intro W h;cases h)) (bC A (by intro W h;cases h))
 |l b=>
  cases e with
  |x W=>
   obtain⟨w,rfl,E⟩:=A
   rw[show f= .l b from hd]
   show(!memB b w)=true
   rw[eo fun hb=>h (E b hb)];rfl
  |v=>rw[show g= .v from A];cases f<;>rfl
  |_=>exact key (bC hd (by intro W h;cases h)) (bC A (by intro W h;cases h))
 |x W=>
  cases e with
  |v=>rw[show g= .v from A];cases f<;>rfl
  |a=>obtain⟨b,rfl⟩:=A;obtain⟨w,rfl,_⟩:=hd;rfl
  |n B=>obtain⟨b,rfl,_⟩:=A;obtain⟨w,rfl,_⟩:=hd;rfl
  |r=>exact key (eB h hd) A
  |q S=>
   obtain⟨w,rfl,E⟩:=hd
   rcases A with rfl|⟨b,rfl,hb⟩
   ·rfl
   show(!memB b w)=true
   rw[eo fun O=>h b (E b O) hb];rfl
  |l b=>
   obtain⟨w,rfl,E⟩:=hd
   rw[show g= .l b from A]
   show(!memB b w)=true
   rw[eo fun hb=>h (E b hb)];rfl
  |x U=>exact key (eB h.1 hd) (eB h.2 A)
 |q S=>
  cases e with
  |x W=>
   obtain⟨w,rfl,E⟩:=A
   rcases hd with rfl|⟨b,rfl,hb⟩
   ·rfl
   show(!memB b w)=true
   rw[eo fun O=>h b (E b O) hb];rfl
  |v=>rw[show g= .v from A];cases f<;>rfl
  |_=>exact key (bC hd (by intro W h;cases h)) (bC A (by intro W h;cases h))
 |n B=>
  cases e with
  |x W=>
   obtain⟨w,rfl,E⟩:=A
   obtain⟨b,rfl,hb⟩:=hd
   show(!memB b w)=true
   rw[eo fun O=>absurd (h b (E b O)) (Nat.not_lt_of_le hb)];rfl
  |v=>rw[show g= .v from A];cases f<;>rfl
  |_=>exact key (bC hd (by intro W h;cases h)) (bC A (by intro W h;cases h))
def FsD:List (Nat×Inf)->List (Nat×ID)->Prop
 | [],[]=>True
 |(j,g)::fs,(i,d)::D=>j=i/\d.fits g/\FsD fs D
 |_,_=>False
def okD(ops:Array Oper)(i:Nat)(d:ID):List (Nat×ID)->Prop
 | []=>True
 |(j,e)::D=>(aZ (cj ops) j i=true\/cD e d)/\okD ops i d D
theorem dH{ops:Array Oper}{i:Nat}{d:ID}{f:Inf}(A:d.fits f): ∀{fs:List (Nat×Inf)} {D:List (Nat×ID)},FsD fs D->okD ops i d D->bU (cj ops) i f fs=true
 | [],[],_,_=>rfl
 |(j,g)::fs,(_,e)::D,⟨rfl,h2,h3⟩,⟨h4,h5⟩=>by
  unfold bU;rw[dH A h3 h5,a10];rcases h4 with h4|h4
  ·rw[h4];rfl
  rw[compat_of h2 A h4,Bool.or_true]
 | [],_::_,h,_=>absurd h id
 |_::_,[],h,_=>absurd h id
section
variable {P:Program} {G:Nat} {K:bp} {sz:Nat} {Q:Ex->Fn->Heap->Prop} {ops:Array Oper} {D:List (Nat×ID)} {i:Nat} {os:List Oper} {k:List Fr} {f:Fn} {H H1:Heap} {v:Value}
 {d:Tmp} {op:Op} {ty:TypeId} {pos:String} {af:Array Edge}
structure WF2(P:Program)(G:Nat)(K:bp)(sz:Nat)(ops:Array Oper)(D:List (Nat×ID))(i:Nat)(os:List Oper)(k:List Fr)(f:Fn)(H:Heap)(Q:Ex->Fn->Heap->Prop):Prop where
 out: ∀t fs,cy t=f->FsD fs D->∃n e s',runK P G K (n+1) k (dK (bd P G (call P G K n) ops i fs os ⟨t,sz,H⟩))=some (e,s')/\Q e (cy s'.tmps) s'.heap
theorem aS{id:Nat}(O:(jV ops&&P.follows .mixedOrders)=true)(h:WF2 P G K sz ops [] 0 ops.toList k f H Q):WK P G K sz (.region id ops true) k f H Q:=⟨fun t T=>by
 obtain⟨n,e,U,A,E⟩:=h.out t [] T trivial;refine⟨n,e,U,?_,E⟩;have:lm P G K (n+1) (.region id ops true) ⟨t,sz,H⟩=dK (bd P G (call P G K n) ops 0 [] ops.toList ⟨t,sz,H⟩):=by show dK (bF P G (call P G K n) ops true ⟨t,sz,H⟩)=_;unfold bF;simp only[cond_true,O]
 rw[this];exact A⟩
theorem bR(h:WK P G K sz .skip k f H Q):WF2 P G K sz ops D i [] k f H Q:=⟨fun t fs O _=>by
 obtain⟨n,e,T,A,E⟩:=h.out t O;exact⟨n,e,T,by unfold bd;exact A,E⟩⟩
def Did(ops:Array Oper)(f:Fn)(o:Oper)(n:Nat)(log:List Nat)(d:ID):Prop:= ∀t sz H,cy t=f->d.fits (dV ops o ⟨t,sz,H⟩ n log)
theorem did_v{o:Oper}{n:Nat}{log:List Nat}(h:aT o.op=true):Did ops f o n log .v:=fun _ _ _ _=>infOf_value h
theorem jp{o:Oper}{n:Nat}{log:List Nat}(E:o.guard=none)(A:aT o.op=false)(h:dU o.op=true):Did ops f o n log .a:=fun t sz H _=>by unfold dV aW;simp only[E,a1q,A,Bool.or_self,cond_false,h,cond_true];exact⟨_,rfl⟩
theorem did_n{o:Oper}{n:Nat}{log:List Nat}(E:o.guard=none)(A:aT o.op=false)(h:dU o.op=true):Did ops f o n log (.n n):=fun t sz H _=>by unfold dV aW;simp only[E,a1q,A,Bool.or_self,cond_false,h,cond_true];exact⟨_,rfl,a06 _⟩
theorem ej{dd:Option Tmp}{lt:TypeId}{a:Operand}{n b o:Nat}{log:List Nat}(ha:dx f a= .pointer (some ⟨b,o,none⟩)):Did ops f ⟨dd,.load lt a,ty,pos,af,none⟩ n log (.l b):=fun t sz H A=>by
 have:cW t a= .pointer (some ⟨b,o,none⟩):=by rw[eO,A];exact ha
 unfold dV aW;simp only[a1q,a0Y,cond_false,dU,aT,this];rfl
theorem gt{n b:Nat}{l:List Nat}(h:b∈dy n l):b∈l/\b<n:=by
 induction l with
 |nil=>simp[dy]at h
 |cons c l ih=>
  unfold dy at h
  cases hb:Nat.ble n c with
  |true=>
   rw[hb]at h
   have:=ih h
   exact⟨a0c _ this.1,this.2⟩
  |false=>
   rw[hb]at h
   rcases a0n.1 h with rfl|h
   ·refine⟨a0i ..,?_⟩;rcases a0k b n with h1|h1
    ·exact h1
    rw[a0r h1]at hb;cases hb
   have:=ih h
   exact⟨a0c _ this.1,this.2⟩
theorem did_r{o:Oper}{n:Nat}{log:List Nat}(h: ∀b,b∈log->n<=b):Did ops f o n log .r:=fun t sz H _=>infOf_benign (below_nil h)
theorem did_len{dd:Option Tmp}{x:Operand}{ts:Array TypeId}{n k m:Nat}{a:Option Addr}{log:List Nat}(E:dx f x= .slice a k m):Did ops f ⟨dd,.call ⟨.builtin .len, #[x],ts⟩,ty,pos,af,none⟩ n log .v:=fun t sz H A=>by
 have:cW t x= .slice a k m:=by rw[eO,A];exact E
 unfold dV aW;simp only[a1q,a0Y,cond_false,dU,aT];show ID.fits .v (match eW (cW t) [x] with| [.slice _ _ _]=>Inf.v| [.string _]=> .v|_=> .x (dy n log));show ID.fits .v (match [cW t x] with| [.slice _ _ _]=>Inf.v| [.string _]=> .v|_=> .x (dy n log));rw[this];rfl
def fV:Op->Bool
 | .load _ _| .slice _ _ _ _ _| .call ⟨.builtin .len,_,_⟩=>false
 |o=> !aT o&& !dU o
theorem e8{o:Oper}{n:Nat}{log:List Nat}{W:List Nat}(U:o.guard=none)(A:fV o.op=true)(h: ∀b,b∈log->n<=b\/b∈W):Did ops f o n log (.x W):=fun t sz H _=>by
 have O:aT o.op=false/\dU o.op=false:=by
  unfold fV at A;split at A
  ·cases A
  ·cases A
  ·cases A
  simpa using A
 refine⟨dy n log,?_,fun b hb=>?_⟩
 ·unfold dV aW;simp only[U,a1q,O.1,O.2,Bool.or_self,cond_false];split
  ·rename_i E;rw[E]at A;cases A
  ·rename_i E;rw[E]at A;cases A
  ·rename_i E;rw[E]at A;cases A
  rfl
 obtain⟨T,V⟩:=gt hb;rcases h b T with h3|h3
 ·omega
 exact h3
theorem wf_val{id:ID}(ha:AP P (dx f) ⟨some d,op,ty,pos,af,none⟩ {H with log:=[]} (.val v,H1))(ho:op.operands.toList.all (bg G)=true)(hd:Nat.ble (d+1) sz=true)
  (O:Did ops f ⟨some d,op,ty,pos,af,none⟩ H.next H1.log id) (T:okD ops i id D)
  (h: ∀l,(∀b,b∈l->b∈H1.log\/b∈H.log)->WF2 P G K sz ops ((i,id)::D) (i+1) os k (upd f d v) {H1 with log:=l} Q):WF2 P G K sz ops D i (⟨some d,op,ty,pos,af,none⟩::os) k f H Q:=⟨fun t fs E A=>by
 obtain⟨t',U,V⟩:=lN (P:=P) (G:=G) (ops:=ops) (t:=t) (sz:=sz) (o:=⟨some d,op,ty,pos,af,none⟩) rfl ho (by rw[E];exact ha.eq) hd
 have hi:=O t sz H E
 obtain⟨n,e,s',Y,Z⟩:=(h (dy H.next H1.log++H.log) (fun b hb=>by
  rcases a0e.1 hb with hb|hb
  ·exact .inl (gt hb).1
  exact .inr hb)).out t' ((i,dV ops ⟨some d,op,ty,pos,af,none⟩ ⟨t,sz,H⟩ H.next H1.log)::fs) (by rw[V,E];rfl) ⟨rfl,hi,A⟩
 refine⟨n,e,s',?_,Z⟩
 unfold bd gG
 rw[U]
 simp only[dH hi A T,cond_true]
 exact Y⟩
theorem aV{id:ID}(ha:AP P (dx f) ⟨some d,op,ty,pos,af,none⟩ {H with log:=[]} (.val v,{H with log:=[]}))(ho:op.operands.toList.all (bg G)=true)(hd:Nat.ble (d+1) sz=true)
  (O:Did ops f ⟨some d,op,ty,pos,af,none⟩ H.next [] id) (T:okD ops i id D)
  (h:WF2 P G K sz ops ((i,id)::D) (i+1) os k (upd f d v) H Q):WF2 P G K sz ops D i (⟨some d,op,ty,pos,af,none⟩::os) k f H Q:=⟨fun t fs E A=>by
 obtain⟨t',U,V⟩:=lN (P:=P) (G:=G) (ops:=ops) (t:=t) (sz:=sz) (o:=⟨some d,op,ty,pos,af,none⟩) rfl ho (by rw[E];exact ha.eq) hd
 have hi:=O t sz H E
 obtain⟨n,e,s',Y,Z⟩:=h.out t' ((i,dV ops ⟨some d,op,ty,pos,af,none⟩ ⟨t,sz,H⟩ H.next [])::fs) (by rw[V,E];rfl) ⟨rfl,hi,A⟩
 refine⟨n,e,s',?_,Z⟩
 unfold bd gG
 rw[U]
 simp only[dH hi A T,cond_true,dy,a0z]
 exact Y⟩
theorem wf_skip{id:ID}(ha:AP P (dx f) ⟨none,op,ty,pos,af,none⟩ {H with log:=[]} (.skip,H1))(ho:op.operands.toList.all (bg G)=true)
  (O:Did ops f ⟨none,op,ty,pos,af,none⟩ H.next H1.log id) (T:okD ops i id D)
  (h: ∀l,(∀b,b∈l->b∈H1.log\/b∈H.log)->WF2 P G K sz ops ((i,id)::D) (i+1) os k f {H1 with log:=l} Q):WF2 P G K sz ops D i (⟨none,op,ty,pos,af,none⟩::os) k f H Q:=⟨fun t fs E A=>by
 obtain⟨t',U,V⟩:=step_skip (P:=P) (G:=G) (ops:=ops) (t:=t) (sz:=sz) (o:=⟨none,op,ty,pos,af,none⟩) rfl ho (by rw[E];exact ha.eq) rfl
 have hi:=O t sz H E
 obtain⟨n,e,s',Y,Z⟩:=(h (dy H.next H1.log++H.log) (fun b hb=>by
  rcases a0e.1 hb with hb|hb
  ·exact .inl (gt hb).1
  exact .inr hb)).out t' ((i,dV ops ⟨none,op,ty,pos,af,none⟩ ⟨t,sz,H⟩ H.next H1.log)::fs) (by rw[V,E];rfl) ⟨rfl,hi,A⟩
 refine⟨n,e,s',?_,Z⟩
 unfold bd gG
 rw[U]
 simp only[dH hi A T,cond_true]
 exact Y⟩
theorem bc{W:List Nat}{g:FuncId}{args:List Value}{R:Value->Heap->Prop}(ha:AP P (dx f) ⟨some d,op,ty,pos,af,none⟩ {H with log:=[]} (.enter g args,{H with log:=[]}))(ho:op.operands.toList.all (bg G)=true)(hd:Nat.ble (d+1) sz=true)(hk:fV op=true)
  (hc:C P G K g args {H with log:=[]} R) (ar:okD ops i (.x W) D)
  (h: ∀v A,R v A->(∀b,b∈A.log->H.next<=b\/b∈W)/\∀l,(∀b,b∈l->b∈A.log\/b∈H.log)->WF2 P G K sz ops ((i,.x W)::D) (i+1) os k (upd f d v) {A with log:=l} Q):WF2 P G K sz ops D i (⟨some d,op,ty,pos,af,none⟩::os) k f H Q:=⟨fun t fs Z U=>by
 obtain⟨O,v,A,an,hr⟩:=hc.out
 obtain⟨V,h0⟩:=h v A hr
 obtain⟨t',h1,h2⟩:=iX (s:=⟨t,sz,A⟩) (d:=some d) (v:=v) hd
 have hi:=e8 (ops:=ops) (f:=f) (o:=⟨some d,op,ty,pos,af,none⟩) rfl hk V t sz H Z
 obtain⟨E,e,s',h3,h4⟩:=(h0 (dy H.next A.log++H.log) (fun b hb=>by
  rcases a0e.1 hb with hb|hb
  ·exact .inl (gt hb).1
  exact .inr hb)).out t' ((i,dV ops ⟨some d,op,ty,pos,af,none⟩ ⟨t,sz,H⟩ H.next A.log)::fs) (by rw[h2,Z];rfl) ⟨rfl,hi,U⟩
 refine⟨Nat.max O E,e,s',?_,h4⟩
 have ax:step P G (call P G K (Nat.max O E)) ops ⟨some d,op,ty,pos,af,none⟩ ⟨t,sz,{H with log:=[]}⟩=some ⟨t',sz,A⟩:=by unfold step aW;simp only[cond_true,ho,eO,Z,ha.eq,e9 (a1t O E) _ _ _ _ an];exact h1
 unfold bd gG
 rw[ax]
 simp only[dH hi U ar,cond_true]
 refine dM (a1n (a0Z O E)) k _ _ (fun x T=>?_) _ h3
 cases Y:bd P G (call P G K E) ops (i+1) ((i,dV ops ⟨some d,op,ty,pos,af,none⟩ ⟨t,sz,H⟩ H.next A.log)::fs) os ⟨t',sz,{A with log:=dy H.next A.log++H.log}⟩ with
 |none=>rw[Y]at T;cases T
 |some y=>
  have:=eK (e9 (P:=P) (G:=G) (K:=K) (a0Z O E)) _ _ _ _ _ Y
  rw[Y]at T
  rw[this];exact T⟩
theorem inf_guard{t:Tr Value}{v want:Bool}{j:Nat}{dd:Option Tmp}(O:cy t=f)(U:cn ops f j=some v)(T:v=want)(sz:Nat)(H:Heap)(n:Nat)(log:List Nat):
  dV ops ⟨dd,op,ty,pos,af,some (j,want)⟩ ⟨t,sz,H⟩ n log=dV ops ⟨dd,op,ty,pos,af,none⟩ ⟨t,sz,H⟩ n log:=by
 have A:aW ops ⟨dd,op,ty,pos,af,some (j,want)⟩ t=true:=by rw[hL O U _ rfl,T];cases want<;>rfl
 have E:aW ops ⟨dd,op,ty,pos,af,none⟩ t=true:=rfl
 unfold dV
 simp only[A,E]
theorem eu{v want:Bool}{j:Nat}{dd:Option Tmp}(V:cn ops f j=some v)(U:v=want)(h:WF2 P G K sz ops D i (⟨dd,op,ty,pos,af,none⟩::os) k f H Q):WF2 P G K sz ops D i (⟨dd,op,ty,pos,af,some (j,want)⟩::os) k f H Q:=⟨fun t fs E O=>by
 obtain⟨n,e,Z,A,Y⟩:=h.out t fs E O;refine⟨n,e,Z,?_,Y⟩;unfold bd gG at A⊢;rw[kQ E V U];cases T:step P G (call P G K n) ops ⟨dd,op,ty,pos,af,none⟩ ⟨t,sz,{H with log:=[]}⟩ with
 |none=>rw[T]at A;exact A
 |some s1=>
  rw[T]at A
  simp only[inf_guard E V U]
  exact A⟩
theorem jI{want:Bool}{j:Nat}(hw: ∀t,cy t=f->aW ops ⟨some d,op,ty,pos,af,some (j,want)⟩ t=false)(hd:Nat.ble (d+1) sz=true)
  (h:WF2 P G K sz ops ((i,.v)::D) (i+1) os k (upd f d undef) H Q):WF2 P G K sz ops D i (⟨some d,op,ty,pos,af,some (j,want)⟩::os) k f H Q:=⟨fun t fs T E=>by
 obtain⟨U,Z,h4⟩:=iX (s:=⟨t,sz,{H with log:=[]}⟩) (d:=some d) (v:=undef) hd
 have A:=hw t T
 have hi:dV ops ⟨some d,op,ty,pos,af,some (j,want)⟩ ⟨t,sz,H⟩ H.next []= .v:=by unfold dV;simp only[A,a1D,a1J,cond_true]
 obtain⟨n,e,s',V,Y⟩:=h.out U ((i,.v)::fs) (by rw[h4,T];rfl) ⟨rfl,rfl,E⟩
 refine⟨n,e,s',?_,Y⟩
 have O:step P G (call P G K n) ops ⟨some d,op,ty,pos,af,some (j,want)⟩ ⟨t,sz,{H with log:=[]}⟩=some ⟨U,sz,{H with log:=[]}⟩:=by unfold step;simp only[A,cond_false];exact Z
 have hc:bU (cj ops) i .v fs=true:=je fun j g _=>by cases g<;>simp[ea]
 unfold bd gG
 rw[O]
 simp only[hi,hc,cond_true,dy,a0z]
 exact V⟩
theorem cH{v want:Bool}{j:Nat}(O:cn ops f j=some v)(E:v= !want)(hd:Nat.ble (d+1) sz=true)(h:WF2 P G K sz ops ((i,.v)::D) (i+1) os k (upd f d undef) H Q):
  WF2 P G K sz ops D i (⟨some d,op,ty,pos,af,some (j,want)⟩::os) k f H Q:=
 jI (fun t A=>by rw[hL A O _ rfl,E];cases want<;>rfl) hd h
theorem wf_gn{want:Bool}{j:Nat}(E:cn ops f j=none)(hd:Nat.ble (d+1) sz=true)(h:WF2 P G K sz ops ((i,.v)::D) (i+1) os k (upd f d undef) H Q):
  WF2 P G K sz ops D i (⟨some d,op,ty,pos,af,some (j,want)⟩::os) k f H Q:=
 jI (fun t A=>by
  unfold aW;have:kK ops t j=none:=by rw[←E,←A];rfl
  simp only[this];cases want<;>rfl) hd h
theorem wf_gsT{v:Bool}{j:Nat}(A:cn ops f j=some v)(hd:Nat.ble (d+1) sz=true)(E:v=true->WF2 P G K sz ops D i (⟨some d,op,ty,pos,af,none⟩::os) k f H Q)(O:v=false->WF2 P G K sz ops ((i,.v)::D) (i+1) os k (upd f d undef) H Q):
  WF2 P G K sz ops D i (⟨some d,op,ty,pos,af,some (j,true)⟩::os) k f H Q:=by
 cases v with
 |true=>exact eu A rfl (E rfl)
 |false=>exact cH A rfl hd (O rfl)
theorem wf_gsF{v:Bool}{j:Nat}(A:cn ops f j=some v)(hd:Nat.ble (d+1) sz=true)(E:v=false->WF2 P G K sz ops D i (⟨some d,op,ty,pos,af,none⟩::os) k f H Q)(O:v=true->WF2 P G K sz ops ((i,.v)::D) (i+1) os k (upd f d undef) H Q):
  WF2 P G K sz ops D i (⟨some d,op,ty,pos,af,some (j,false)⟩::os) k f H Q:=by
 cases v with
 |true=>exact cH A rfl hd (O rfl)
 |false=>exact eu A rfl (E rfl)
end
end Go.R
end
noncomputable section
namespace Go.R
theorem iD{n:Int}(h:in64 n):IntKind.i64.wrap n=n:=by
 have e:IntKind.i64.wrap n=if(true&&decide (n%(2^64:Int)>=(2^63:Int))) then n%(2^64:Int)-(2^64:Int) else n%(2^64:Int):=rfl
 rw[e];obtain⟨E,O⟩:=h;by_cases A:0<=n
 ·rw[Int.emod_eq_of_lt A (by omega)];have:decide (n>=(2^63:Int))=false:=decide_eq_false (by omega);rw[this];rfl
 have:n%(2^64:Int)=n+2^64:=by omega
 rw[this];have:decide (n+2^64>=(2^63:Int))=true:=decide_eq_true (by omega);rw[this];simp only[a1p,if_true];omega
theorem lK{n:Int}(h:0<=n/\n<18446744073709551616):IntKind.u64.wrap n=n:=by show n%(2^64:Int)=n;exact Int.emod_eq_of_lt h.1 (by omega)
theorem w_u8{n:Int}(h:0<=n/\n<256):IntKind.u8.wrap n=n:=by show n%(2^8:Int)=n;exact Int.emod_eq_of_lt h.1 (by omega)
theorem fG(b:UInt8):(b.toNat:Int)<256:=by have:=UInt8.toNat_lt b;omega
section
variable {α:Type} [Rp α] {P:Program} {ρ:Operand->Value} {d:Option Tmp} {ty:TypeId} {pos:String} {af:Array Edge} {gd:Option (Nat×Bool)} {B:Base} {F:Fz} {H:Heap} {L R:List Fp} {v:Value} {l:List α} {p:Fp}
variable {t yt:TypeId} {x y:Operand} {k:IntKind} {a b c:Int}
theorem cN(k:IntKind):fD k k=true:=by cases k<;>rfl
theorem fF(E:ρ x= .int k a)(O:ρ y= .int k b)(A:k.wrap (a+b)=c):AP P ρ ⟨d,.binOp .add t x y yt,ty,pos,af,gd⟩ H (.val (.int k c),H):=
 ir E O (by subst A;show(bif fD k k then _ else none:Option Value)=_;rw[cN];rfl)
theorem ap_sub(E:ρ x= .int k a)(O:ρ y= .int k b)(A:k.wrap (a-b)=c):AP P ρ ⟨d,.binOp .sub t x y yt,ty,pos,af,gd⟩ H (.val (.int k c),H):=
 ir E O (by subst A;show(bif fD k k then _ else none:Option Value)=_;rw[cN];rfl)
theorem ap_mul(E:ρ x= .int k a)(O:ρ y= .int k b)(A:k.wrap (a *b)=c):AP P ρ ⟨d,.binOp .mul t x y yt,ty,pos,af,gd⟩ H (.val (.int k c),H):=
 ir E O (by subst A;show(bif fD k k then _ else none:Option Value)=_;rw[cN];rfl)
theorem ap_div(E:ρ x= .int k a)(O:ρ y= .int k b)(hb:b≠0)(A:k.wrap (a.tdiv b)=c):AP P ρ ⟨d,.binOp .quo t x y yt,ty,pos,af,gd⟩ H (.val (.int k c),H):=by subst A;exact ap_quo E O (cN k) (by simpa using hb)
theorem ap_mod(E:ρ x= .int k a)(O:ρ y= .int k b)(hb:b≠0)(A:a.tmod b=c):AP P ρ ⟨d,.binOp .rem t x y yt,ty,pos,af,gd⟩ H (.val (.int k c),H):=by subst A;exact ap_rem E O (cN k) (by simpa using hb)
theorem ap_cv{s:TypeId}{A:IntKind}{u:TypeDesc}(T:ρ x= .int k a)(hs:P.underlying s=some u)(E:P.underlying t=some (.int A))(O:A.wrap a=c):
  AP P ρ ⟨d,.convert s t x,ty,pos,af,gd⟩ H (.val (.int A c),H):=by subst O;exact ap_conv T hs E
theorem ap_ng(E:ρ x= .int k a)(A:k.wrap (0-a)=c):AP P ρ ⟨d,.unOp .neg t x,ty,pos,af,gd⟩ H (.val (.int k c),H):=by subst A;exact ap_neg E
theorem cz{op:BinOp}{r:Bool}(E:ρ x= .int k a)(O:ρ y= .int k b)(A:lb op k a b=some (.bool r))(hs:ka op=false):AP P ρ ⟨d,.binOp op t x y yt,ty,pos,af,gd⟩ H (.val (.bool r),H):=
 ir E O (by rw[hs,cN];exact A)
variable {s u:List UInt8}
theorem eU{i:Operand}{E:IntKind}{j:Int}{A:UInt8}(U:ρ x= .string ⟨⟨s⟩⟩)(hi:ρ i= .int E j)(T:P.underlying t=some .string)(O:0<=j)(hc:s[j.toNat]?=some A):
  AP P ρ ⟨d,.index t x i,ty,pos,af,gd⟩ H (.val (.int .u8 A.toNat),H):=by
 refine⟨?_⟩
 obtain⟨m,rfl⟩:=a0M O
 show ku P t (ρ x) (ρ i) H=_
 rw[U,hi]
 show ovl (strAt P t ⟨⟨s⟩⟩ (.int E (Int.ofNat m))) H=_
 unfold strAt
 rw[T]
 show ovl (match nth s m with|some b=>some (.int .u8 b.toNat)|none=>none) H=_
 rw[hY]
 have:s[m]?=some A:=hc
 rw[this];rfl
theorem ap_eqS(A:ρ x= .string ⟨⟨s⟩⟩)(E:ρ y= .string ⟨⟨u⟩⟩):AP P ρ ⟨d,.binOp .eql t x y yt,ty,pos,af,gd⟩ H (.val (.bool (s==u)),H):=ap_str A E rfl
theorem ap_neS(A:ρ x= .string ⟨⟨s⟩⟩)(E:ρ y= .string ⟨⟨u⟩⟩):AP P ρ ⟨d,.binOp .neq t x y yt,ty,pos,af,gd⟩ H (.val (.bool (s !=u)),H):=ap_str A E rfl
theorem ap_leS(A:ρ x= .string ⟨⟨s⟩⟩)(E:ρ y= .string ⟨⟨u⟩⟩):AP P ρ ⟨d,.binOp .leq t x y yt,ty,pos,af,gd⟩ H (.val (.bool (Op.bytesLess s u||s==u)),H):=ap_str A E rfl
theorem ap_ltS(A:ρ x= .string ⟨⟨s⟩⟩)(E:ρ y= .string ⟨⟨u⟩⟩):AP P ρ ⟨d,.binOp .lss t x y yt,ty,pos,af,gd⟩ H (.val (.bool (Op.bytesLess s u)),H):=ap_str A E rfl
theorem dG(E:ρ x= .string ⟨⟨s⟩⟩)(O:ρ y= .string ⟨⟨u⟩⟩)(A:s.length+u.length<=1099511627776):AP P ρ ⟨d,.binOp .add t x y yt,ty,pos,af,gd⟩ H (.val (.string ⟨⟨s++u⟩⟩),H):=
 ap_str E O (by
  show(bif Nat.ble (iA (jD s u)) 1099511627776 then some (Value.string ⟨⟨jD s u⟩⟩) else none)=_;rw[dF,bA,a01,a0r A];rfl)
def cutAt(n:Nat)(lo hi:Option Value)(i j:Nat):Prop:=bnds n n lo hi=some (i,j)
theorem mo{n k i j:Nat}{lo hi:Option Value}(E:bQ n hi=some j)(O:bQ 0 lo=some i)(A:i<=j)(T:j<=k):bnds n k lo hi=some (i,j):=by unfold bnds;simp only[E,O,a0r A,a0r T,a1p,cond_true]
theorem optN{d:Nat}{E:IntKind}{j:Int}(A:0<=j):bQ d (some (.int E j))=some j.toNat:=by obtain⟨m,rfl⟩:=a0M A;rfl
theorem optN0{d:Nat}:bQ d none=some d:=rfl
theorem ap_slS{lo hi:Option Operand}{i j:Nat}(V:ρ x= .string ⟨⟨s⟩⟩)(U:P.underlying t=some .string)(E:bQ s.length (hi.map ρ)=some j)(O:bQ 0 (lo.map ρ)=some i)(A:i<=j)(T:j<=s.length):
  AP P ρ ⟨d,.slice t x lo hi none,ty,pos,af,gd⟩ H (.val (.string ⟨⟨(s.drop i).take (j-i)⟩⟩),H):=by
 refine⟨?_⟩
 show ovl (be P t (ρ x) (lo.map ρ) (hi.map ρ) (Option.map ρ none) H) H=_
 rw[V]
 unfold be
 simp only[a1F,U]
 show ovl (match bnds (iA s) (iA s) (lo.map ρ) (hi.map ρ) with|some (l,r)=>some (.string ⟨⟨fN (gy s l) (r-l)⟩⟩)|none=>none) H=_
 rw[bA,mo E O A T]
 simp only[bL,cg];rfl
theorem Sl_cut{F:Fz}{o:AObj}{off k i j:Nat}{l:List α}(h:Sl F o off k l)(an:i<=j)(Z:j<=l.length):Sl F o (off+i *Rp.sz α) (k-i) ((l.take j).drop i):=by
 obtain⟨cs,U,ro,rfl,E,h2,O,V⟩:=h;have hl:=O.length;have A:((l.take j).drop i).length=j-i:=by simp;omega
 refine⟨cs,U,ro,rfl,fun T=>?_,by rw[A];omega,?_,V⟩
 ·replace E:=E T;have:i *Rp.sz α+(k-i) *Rp.sz α=k *Rp.sz α:=by rw[←a0U];congr 1;omega
  omega
 have Y:=(O.take j).drop i;have e:((cs.drop (off+i *Rp.sz α)).take (((l.take j).drop i).length *Rp.sz α))=(((cs.drop off).take (l.length *Rp.sz α)).take (j *Rp.sz α)).drop (i *Rp.sz α):=by rw[A,List.take_take,a1T,a1y];congr 1;have:j *Rp.sz α<=l.length *Rp.sz α:=a0y _ Z;rw[Nat.min_eq_left this,Nat.sub_mul]
 rw[e];exact Y
theorem Sl_at0{F:Fz}{o:AObj}{off k:Nat}{l:List α}(h:Sl F o off k l):Sl F o off 0 ([]:List α):=by obtain⟨cs,E,U,rfl,O,V,Y,T⟩:=h;exact⟨cs,E,U,rfl,fun A=>(by have:=O A;omega),a06 _,by simp[RL],T⟩
theorem cut_val{lo hi:Option Operand}{t e:TypeId}{i j off k V:Nat}{o:AObj}(hx:ρ x= .slice (some ⟨V,off,none⟩) l.length k)(ht:P.underlying t=some (.slice e))(hz:di P e=some (Rp.sz α))(hb:H.get V=some o)(h:Sl F o off k l)
  (h1:bQ l.length (hi.map ρ)=some j) (h2:bQ 0 (lo.map ρ)=some i) (Y:i<=j) (hj:j<=l.length):
  ∃T k',AP P ρ ⟨d,.slice t x lo hi none,ty,pos,af,gd⟩ H (.val (.slice (some ⟨V,T,none⟩) ((l.take j).drop i).length k'),H)/\Sl F o T k' ((l.take j).drop i):=by
 obtain⟨cs,Z,ro,rfl,g1,g2,g3,g4⟩:=h
 have A:((l.take j).drop i).length=j-i:=by simp;omega
 have O:=Sl_cut (F:=F) (o:= .cells cs Z ro) ⟨cs,Z,ro,rfl,g1,g2,g3,g4⟩ Y hj
 have U: ∀w,be P t (.slice (some ⟨V,off,none⟩) l.length k) (lo.map ρ) (hi.map ρ) none H=some w->AP P ρ ⟨d,.slice t x lo hi none,ty,pos,af,gd⟩ H (.val w,H):=by intro w hw;refine⟨?_⟩;show ovl (be P t (ρ x) (lo.map ρ) (hi.map ρ) (Option.map ρ none) H) H=_;rw[hx,a1F,hw];rfl
 have E:=mo (n:=l.length) (k:=k) h1 h2 Y (a0m hj g2)
 rcases g4 with rfl|rfl
 ·cases hk:Nat.beq k i with
  |true=>
   have a6:=a07 hk
   have e0:(l.take j).drop i=[]:=a0f (by rw[A];omega)
   refine⟨off,k-i,U _ ?_,?_⟩
   ·unfold be;simp only[ht,E,hz,hb,hk,cond_true,A]
   rw[e0,a6,Nat.sub_self]
   exact Sl_at0 (k:=k) (l:=l) ⟨cs,none,ro,rfl,g1,g2,g3,.inl rfl⟩
  |false=>
   refine⟨off+i *Rp.sz α,k-i,U _ ?_,O⟩
   unfold be
   simp only[ht,E,hz,hb,hk,cond_false,A]
 refine⟨off+i *Rp.sz α,k-i,U _ ?_,O⟩
 unfold be
 simp only[ht,E,hz,hb,a0S,cond_true,A]
theorem nil_cut{lo hi:Option Operand}{t e:TypeId}{i j:Nat}{sz:Nat}(Y:ρ x= .slice none 0 0)(V:P.underlying t=some (.slice e))(Z:di P e=some sz)(O:bQ 0 (hi.map ρ)=some j)(T:bQ 0 (lo.map ρ)=some i)(E:i<=j)(U:j<=0):
  AP P ρ ⟨d,.slice t x lo hi none,ty,pos,af,gd⟩ H (.val (.slice none 0 0),H):=by
 refine⟨?_⟩
 show ovl (be P t (ρ x) (lo.map ρ) (hi.map ρ) (Option.map ρ none) H) H=_
 rw[Y]
 unfold be
 have A:=mo (n:=0) (k:=0) O T E U
 simp only[a1F,V,A,Z,Option.isSome_some,cond_true]
 rfl
theorem sr_cut{lo hi:Option Operand}{t e:TypeId}{i j:Nat}(h:SR F v l)(hs:HS B F H L R)(Z:ρ x=v)(Y:P.underlying t=some (.slice e))(hz:di P e=some (Rp.sz α))
  (T:bQ l.length (hi.map ρ)=some j) (U:bQ 0 (lo.map ρ)=some i) (A:i<=j) (V:j<=l.length):
  ∃a k,AP P ρ ⟨d,.slice t x lo hi none,ty,pos,af,gd⟩ H (.val (.slice a ((l.take j).drop i).length k),H)/\SR F (.slice a ((l.take j).drop i).length k) ((l.take j).drop i):=by
 rcases h with⟨rfl,rfl⟩|⟨b,off,k,o,rfl,O,g2⟩
 ·have e0:(([]:List α).take j).drop i=[]:=by simp
  rw[e0];exact⟨none,0,nil_cut Z Y hz T U A (by simpa using V),SR.nil⟩
 obtain⟨E,k',h3,h4⟩:=cut_val Z Y hz (hs.fz b o O).1 g2 T U A V
 exact⟨_,k',h3,.inr ⟨b,E,k',o,rfl,O,h4⟩⟩
theorem os_lit{t:TypeId}{n:Nat}{z:List Value}{A:Array (Nat×Operand)}{cells:List Value}(hs:HS B F H L R)(hi:eX P t=some (Rp.sz α,z))(V:Nat.ble (n *Rp.sz α) 16777216=true)
  (T:Instr.fill (fun i=>some (i *Rp.sz α,Rp.sz α)) ⟨cS n z⟩ (eW (fun p=>(p.1,ρ p.2)) A.toList)=some ⟨cells⟩) (E:RL F cells l) (U:l.length=n):
  ∃a H1 O,AP P ρ ⟨d,.buildSlice t n A,ty,pos,af,gd⟩ H (.val (.slice a n n),H1)/\OS F (.slice a n n) l O/\HS B F H1 (L++[O]) R/\∀b,b∈H1.log->b∈H.log:=by
 subst U
 refine⟨_,_,[(H.next,.cells cells none false)],mu hi V T,?_,hs.push _,fun b hb=>by simpa using hb⟩
 have:=E.length
 exact .inr ⟨H.next,0,l.length,cells,none,rfl,rfl,_,_,_,rfl,fun _=>(by omega),a06 _,by rw[a1f,←this,a0W];exact E,.inl rfl⟩
theorem ap_app{A E:Operand}{st O:TypeId}{u w:Value}{H1:Heap}(U:ρ A=v)(V:ρ E=u)(T:fB P #[st,O] v u H=some (w,H1)):AP P ρ ⟨d,.call ⟨.builtin .append, #[A,E], #[st,O]⟩,ty,pos,af,gd⟩ H (.val w,H1):=by refine⟨?_⟩;show ovh (fB P #[st,O] (ρ A) (ρ E) H)=_;rw[U,V,T];rfl
theorem os_app{s0 x0:Operand}{st e:TypeId}{u:Value}{l2:List α}{q E:Nat}{z:List Value}(h:OS F v l p)(hs:HS B F H L R)(hq:L[q]?=some p)(hx:ρ s0=v)(hy:ρ x0=u)(hu:Sv F H.get u l2)(V:P.underlying st=some (.slice e))
  (hz:di P e=some (Rp.sz α)) (U:gg P e=some E) (al:dz P e=some z) (Z:Nat.beq (iA z) (Rp.sz α)=true) (T:Nat.ble E 4096=true) (Y:Nat.beq (Rp.sz α) 0=false) (O:l.length+l2.length<=2147483648):
  ∃a k H1 A,AP P ρ ⟨d,.call ⟨.builtin .append, #[s0,x0], #[st,st]⟩,ty,pos,af,gd⟩ H (.val (.slice a (l++l2).length k),H1)/\OS F (.slice a (l++l2).length k) (l++l2) A/\HS B F H1 (L.set q A) R:=by
 obtain⟨h1,new,h2,h3⟩:=hu.first
 obtain⟨a,k,H1,A,h4,h5,h6⟩:=os_append (types:= #[st,st]) h hs hq (x:=u) rfl rfl V V (by intro k hk;cases hk) hz U al Z T Y h1 h2 h3 O
 exact⟨a,k,H1,A,ap_app hx hy h4,h5,h6⟩
theorem os_st{t:TypeId}{a0 U:Operand}{j q off n b o:Nat}{w:Value}{y V:α}{A:List Value}(h:OS F v l p)(hs:HS B F H L R)(hq:L[q]?=some p)(ha:ρ a0= .pointer (some ⟨b,o,none⟩))(hb:b=sB v)(ho:o=sO v+j *Rp.sz α+off)(hx:ρ U=w)(hn:di P t=some n)(hc:w.cells.toList=A)(hl:Nat.beq A.length n=true)
  (hy:l[j]?=some y) (Y:allL Value.oneCell' A=true) (hr: ∀cs,Rp.rep F cs y->off+A.length<=cs.length/\Rp.rep F (bu cs off A) V):
  ∃H1 E,AP P ρ ⟨d,.store t a0 U,ty,pos,af,gd⟩ H (.skip,H1)/\OS F v (l.set j V) E/\HS B F H1 (L.set q E) R/\∀b cs O,p=[(b,.cells cs O false)]->∃T,E=[(b,.cells T O false)]:=by
 subst hb ho
 obtain⟨H1,E,Z,h3,h4,h5⟩:=os_set h hs hq hy Y hr
 exact⟨H1,E,ap_st ha hx hn hc hl Z,h3,h4,h5⟩
end
end Go.R
end
noncomputable section
namespace Go.R
theorem agN{f:Fn}:aN f []:=trivial
theorem agC{f:Fn}{i:Nat}{v:Value}{l:List (Nat×Value)}(h:f i=v)(t:aN f l):aN f ((i,v)::l):=⟨h,t⟩
theorem kG{ops:Array Oper}{i:Nat}: ∀D,okD ops i .v D
 | []=>trivial
 |(_,e)::D=>⟨.inr (by cases e<;>trivial),kG D⟩
structure Rs where
 v:Value
 H:Heap
 p:Fp
section
variable {P:Program} {G:Nat} {K:bp} {sz:Nat} {Q:Ex->Fn->Heap->Prop} {ops:Array Oper} {D:List (Nat×ID)} {i:Nat} {os:List Oper} {k:List Fr} {f:Fn} {H H1:Heap} {v:Value}
 {d:Tmp} {op:Op} {ty:TypeId} {pos:String} {af:Array Edge} {Φ:Rs->Prop}
theorem aw(ha: ∃r:Rs,AP P (dx f) ⟨some d,op,ty,pos,af,none⟩ H (.val r.v,r.H)/\Φ r)(O:op.operands.toList.all (bg G)=true)(hd:Nat.ble (d+1) sz=true)
  (h: ∀v H1 p,Φ ⟨v,H1,p⟩->WO P G K sz ops os k (upd f d v) H1 Q):WO P G K sz ops (⟨some d,op,ty,pos,af,none⟩::os) k f H Q:=by
 obtain⟨⟨v,H1,p⟩,A,E⟩:=ha
 exact ak A O hd (h v H1 p E)
theorem ay(ha: ∃r:Rs,AP P (dx f) ⟨none,op,ty,pos,af,none⟩ H (.skip,r.H)/\Φ r)(O:op.operands.toList.all (bg G)=true)
  (h: ∀v H1 p,Φ ⟨v,H1,p⟩->WO P G K sz ops os k f H1 Q):WO P G K sz ops (⟨none,op,ty,pos,af,none⟩::os) k f H Q:=by
 obtain⟨⟨v,H1,p⟩,A,E⟩:=ha
 exact wo_skip A O (h v H1 p E)
theorem eR{id:ID}(ha: ∃r:Rs,AP P (dx f) ⟨some d,op,ty,pos,af,none⟩ {H with log:=[]} (.val r.v,r.H)/\Φ r)(U:op.operands.toList.all (bg G)=true)(hd:Nat.ble (d+1) sz=true)
  (E: ∀v H1 p,Φ ⟨v,H1,p⟩->Did ops f ⟨some d,op,ty,pos,af,none⟩ H.next H1.log id) (O:okD ops i id D)
  (h: ∀v H1 p,Φ ⟨v,H1,p⟩->∀l,(∀b,b∈l->b∈H1.log\/b∈H.log)->WF2 P G K sz ops ((i,id)::D) (i+1) os k (upd f d v) {H1 with log:=l} Q):
  WF2 P G K sz ops D i (⟨some d,op,ty,pos,af,none⟩::os) k f H Q:=by
 obtain⟨⟨v,H1,p⟩,T,A⟩:=ha
 exact wf_val T U hd (E v H1 p A) O (h v H1 p A)
theorem iC{id:ID}(ha: ∃r:Rs,AP P (dx f) ⟨none,op,ty,pos,af,none⟩ {H with log:=[]} (.skip,r.H)/\Φ r)(U:op.operands.toList.all (bg G)=true)
  (E: ∀v H1 p,Φ ⟨v,H1,p⟩->Did ops f ⟨none,op,ty,pos,af,none⟩ H.next H1.log id) (O:okD ops i id D)
  (h: ∀v H1 p,Φ ⟨v,H1,p⟩->∀l,(∀b,b∈l->b∈H1.log\/b∈H.log)->WF2 P G K sz ops ((i,id)::D) (i+1) os k f {H1 with log:=l} Q):
  WF2 P G K sz ops D i (⟨none,op,ty,pos,af,none⟩::os) k f H Q:=by
 obtain⟨⟨v,H1,p⟩,T,A⟩:=ha
 exact wf_skip T U (E v H1 p A) O (h v H1 p A)
end
section
variable {α:Type} [Rp α] {P:Program} {ρ:Operand->Value} {d:Option Tmp} {ty:TypeId} {pos:String} {af:Array Edge} {gd:Option (Nat×Bool)} {B:Base} {F:Fz} {H:Heap} {L R:List Fp} {v:Value} {l:List α} {p:Fp}
def Wr(H H1:Heap)(W:List Nat):Prop:= ∀b,b∈H1.log->b∈H.log\/H.next<=b\/b∈W
theorem Wr.did{H1:Heap}{W:List Nat}(h:Wr {H with log:=[]} H1 W): ∀b,b∈H1.log->H.next<=b\/b∈W:=fun b hb=>by
 rcases h b hb with h|h|h
 ·simp at h
 ·exact .inl h
 exact .inr h
theorem Wr.nil{H1:Heap}(h: ∀b,b∈H1.log->b∈H.log):Wr H H1 []:=fun b hb=> .inl (h b hb)
theorem HS.lg{B:Base}{F E:Fz}{A H1:Heap}{L O R T:List Fp}(h:HS B F H1 L R)(U:HS B E A O T){l:List Nat}(V: ∀b,b∈l->b∈H1.log\/b∈A.log):HS B F {H1 with log:=l} L R:=
 h.relog fun b hb=>by
  rcases V b hb with h1|h1
  ·exact h.log b h1
  exact U.log b h1
theorem aH{e:TypeId}{z:List Value}(hs:HS B F H L R)(A:dz P e=some z):
  ∃r:Rs,AP P ρ ⟨d,.alloc e,ty,pos,af,gd⟩ H (.val r.v,r.H)/\(∃b,r.v= .pointer (some ⟨b,0,none⟩)/\HS B F r.H (L++[[(b,.cells z none false)]]) R/\Wr H r.H []):=
 ⟨⟨_,_,[]⟩,ap_alloc A,_,rfl,hs.push _,.nil fun b hb=>by simpa using hb⟩
theorem bX{e:TypeId}{x:Operand}{u:Value}{cs:List Value}(hs:HS B F H L R)(A:ρ x=u)(hc:u.cells.toList=cs):
  ∃r:Rs,AP P ρ ⟨d,.box e x,ty,pos,af,gd⟩ H (.val r.v,r.H)/\(∃b,r.v= .pointer (some ⟨b,0,none⟩)/\HS B F r.H (L++[[(b,.cells cs none false)]]) R/\Wr H r.H []):=
 ⟨⟨_,_,[]⟩,ap_box (by rw[A];exact hc),_,rfl,hs.push _,.nil fun b hb=>by simpa using hb⟩
theorem aM{t:TypeId}{n:Nat}{z:List Value}{A:Array (Nat×Operand)}{ps:List (Nat×Value)}{cells:List Value}(l:List α)(hs:HS B F H L R)(O:eW (fun p=>(p.1,ρ p.2)) A.toList=ps)(hi:eX P t=some (Rp.sz α,z))(hn:Nat.ble (n *Rp.sz α) 16777216=true)
  (Z:Instr.fill (fun i=>some (i *Rp.sz α,Rp.sz α)) ⟨cS n z⟩ ps=some ⟨cells⟩) (hr:RL F cells l) (E:l.length=n):
  ∃r:Rs,AP P ρ ⟨d,.buildSlice t n A,ty,pos,af,gd⟩ H (.val r.v,r.H)/\(∃a k,r.v= .slice a l.length k/\OS F (.slice a l.length k) l r.p/\HS B F r.H (L++[r.p]) R/\Wr H r.H []):=by
 subst O
 obtain⟨a,H1,p',T,U,V,Y⟩:=os_lit (d:=d) (ty:=ty) (pos:=pos) (af:=af) (gd:=gd) hs hi hn Z hr E
 exact⟨⟨_,H1,p'⟩,T,a,n,by rw[E],by rw[E];exact U,V,.nil Y⟩
theorem rs_cut{x:Operand}{lo hi:Option Operand}{t e:TypeId}{i j:Nat}(h:SR F v l)(hs:HS B F H L R)(Z:ρ x=v)(Y:P.underlying t=some (.slice e))(hz:di P e=some (Rp.sz α))
  (T:bQ l.length (hi.map ρ)=some j) (U:bQ 0 (lo.map ρ)=some i) (A:i<=j) (V:j<=l.length):
  ∃r:Rs,AP P ρ ⟨d,.slice t x lo hi none,ty,pos,af,gd⟩ H (.val r.v,r.H)/\(∃a k,r.v= .slice a ((l.take j).drop i).length k/\r.H=H/\SR F (.slice a ((l.take j).drop i).length k) ((l.take j).drop i)):=by
 obtain⟨a,k,E,O⟩:=sr_cut (d:=d) (ty:=ty) (pos:=pos) (af:=af) (gd:=gd) h hs Z Y hz T U A V
 exact⟨⟨_,H,[]⟩,E,a,k,rfl,rfl,O⟩
theorem dX{s0 x0:Operand}{st e:TypeId}{u:Value}{l2:List α}{q A:Nat}{z:List Value}(h:OS F v l p)(hs:HS B F H L R)(V:L[q]?=some p)(hx:ρ s0=v)(hy:ρ x0=u)(hu:Sv F H.get u l2)(ht:P.underlying st=some (.slice e))
  (hz:di P e=some (Rp.sz α)) (U:gg P e=some A) (al:dz P e=some z) (Z:Nat.beq (iA z) (Rp.sz α)=true) (T:Nat.ble A 4096=true) (Y:Nat.beq (Rp.sz α) 0=false) (E:l.length+l2.length<=2147483648):
  ∃r:Rs,AP P ρ ⟨d,.call ⟨.builtin .append, #[s0,x0], #[st,st]⟩,ty,pos,af,gd⟩ H (.val r.v,r.H)/\(∃a k,r.v= .slice a (l++l2).length k/\OS F (.slice a (l++l2).length k) (l++l2) r.p/\HS B F r.H (L.set q r.p) R/\Wr H r.H (p.map Prod.fst)):=by
 have hc:=hs.callOwn V
 obtain⟨a,k,H1,p',h1,h2,O⟩:=os_app (d:=d) (ty:=ty) (pos:=pos) (af:=af) (gd:=gd) (q:=0) h hc rfl hx hy hu ht hz U al Z T Y E
 have h4:=hs.backOwn (M:=[]) V rfl (fun b hb=>hb) O
 exact⟨⟨_,H1,p'⟩,h1,a,k,rfl,h2,by simpa using h4,fun b hb=>O.log b hb⟩
theorem am{t:TypeId}{a0 V:Operand}{q n b o:Nat}{w:Value}{A cs E:List Value}(hs:HS B F H L R)(U:L[q]?=some [(b,.cells cs none false)])(ha:ρ a0= .pointer (some ⟨b,o,none⟩))(hx:ρ V=w)(hn:di P t=some n)(hc:w.cells.toList=A)(hl:Nat.beq A.length n=true)
  (hb:Nat.ble (o+A.length) cs.length=true) (Z:allL Value.oneCell' A=true) (he:bu cs o A=E):
  ∃r:Rs,AP P ρ ⟨d,.store t a0 V,ty,pos,af,gd⟩ H (.skip,r.H)/\(HS B F r.H (L.set q [(b,.cells E none false)]) R/\Wr H r.H [b]):=by
 have T:=hs.callOwn U
 obtain⟨H1,Y,O⟩:=T.st (i:=0) rfl hb Z he
 have h4:=hs.backOwn (M:=[]) U rfl (fun b hb=>hb) O
 exact⟨⟨.bool true,H1,[]⟩,ap_st ha hx hn hc hl Y,by simpa using h4,fun b hb=>O.log b hb⟩
end
theorem flat_sub{β:Type}{A L:List (List β)}(h:List.Sublist A L):List.Sublist A.flatten L.flatten:=by
 induction h with
 |slnil=>exact List.Sublist.refl _
 |cons a _ ih=>rw[a0Q];exact ih.trans (List.sublist_append_right _ _)
 |cons_cons a _ ih=>rw[a0Q,a0Q];exact(List.Sublist.refl a).append ih
theorem HS.sub{B:Base}{F:Fz}{H:Heap}{L O R:List Fp}(h:HS B F H L R)(A:List.Sublist O L):HS B F H O R:=
 ⟨h.fz,fun p E b o hb=>h.own p (E.imp (fun x=>A.subset x) id) b o hb,((flat_sub (A.append (List.Sublist.refl R))).map _).nodup h.nd,h.n0,h.log,fun p E=>h.mine p (A.subset E)⟩
theorem HS.forget{B:Base}{F:Fz}{H:Heap}{L R:List Fp}(h:HS B F H L R):HS B F H [] R:=h.sub (List.nil_sublist _)
theorem HS.only{B:Base}{F:Fz}{H:Heap}{L R:List Fp}{p:Fp}(h:HS B F H L R){i:Nat}(hi:L[i]?=some p):HS B F H [p] R:=h.sub (List.singleton_sublist.2 (a0q hi))
theorem HS.thaw{B:Base}{F V F2:Fz}{H H':Heap}{L R:List Fp}{i:Nat}{p:Fp}(h:HS B F H L R)(hi:L[i]?=some p)(hF:F.le V)(hp: ∀b o,(b,o)∈p->V b=some o)(T:V.le F2)(k:HS B F2 H' (L.set i []) R):HS B F H' L R:=by
 obtain⟨A,C,e1,e2⟩:=f8 L i p hi;refine⟨fun b o hb=>k.fz b o (T _ _ (hF _ _ hb)),fun x E b o hb=>?_,h.nd,k.n0,k.log,h.mine⟩;have O:=(h.own x E b o hb).2.2;by_cases U:x=p
 ·subst U;obtain⟨Y,Z⟩:=k.fz b o (T _ _ (hp b o hb));exact⟨Y,Z,O⟩
 have hk:x∈L.set i []\/x∈R:=by
  rcases E with E|E
  ·left;rw[e2];rw[e1]at E;rcases a0e.1 E with E|E
   ·exact a0e.2 (.inl E)
   rcases a0n.1 E with E|E
   ·exact absurd E U
   exact a0e.2 (.inr (a0c _ E))
  exact .inr E
 obtain⟨Y,Z,_⟩:=k.own x hk b o hb;exact⟨Y,Z,O⟩
section
variable {α:Type} [Rp α] {F:Fz} {B:Base} {H:Heap} {L R:List Fp} {v:Value} {l:List α} {p:Fp}
theorem OS.frz(h:OS F v l p)(hs:HS B F H L R){i:Nat}(hi:L[i]?=some p): ∃F',F.le F'/\HS B F' H (L.set i []) R/\SR F' v l/\∀b o,(b,o)∈p->F' b=some o:=by
 obtain⟨F',O,U,T⟩:=hs.freeze hi;refine⟨F',O,U,?_,T⟩;rcases h with⟨A,E,_⟩|⟨b,off,k,cs,Y,A,E,V⟩
 ·exact .inl ⟨A,E⟩
 exact .inr ⟨b,off,k,_,A,T b _ (by rw[E];simp),V.mono O⟩
end
theorem bo{β:Type}{l:List β}{j:Nat}{x:β}(h:j<l.length):l[j]?=some (l.getD j x):=by rw[a09,a08 h];rfl
theorem BS:(∀a b:Bool,((a&&b)=true)=(a=true/\b=true))/\(∀a b:Bool,((a||b)=true)=(a=true\/b=true))/\(∀a b:Bool,((a&&b)=false)=(a=true->b=false))/\(∀a b:Bool,((a||b)=false)=(a=false/\b=false))/\
  (∀a:Bool,((!a)=true)=(a=false))/\(∀a:Bool,((!a)=false)=(a=true))/\(∀(q:Prop) [Decidable q],(decide q=true)=q)/\(∀(q:Prop) [Decidable q],(decide q=false)= ¬q)/\
  (∀a b:Int,((a==b)=true)=(a=b))/\(∀a b:Int,((a==b)=false)=(a≠b))/\(∀a b:Int,((a !=b)=true)=(a≠b))/\(∀a b:Int,((a !=b)=false)=(a=b))/\
  (∀a b:List UInt8,((a==b)=true)=(a=b))/\(∀a b:List UInt8,((a==b)=false)=(a≠b))/\(∀a b:List UInt8,((a !=b)=true)=(a≠b))/\(∀a b:List UInt8,((a !=b)=false)=(a=b))/\
  (∀a b:Bool,((a==b)=true)=(a=b))/\(∀a b:Bool,((a==b)=false)=(a≠b))/\(∀a b:Bool,((a !=b)=true)=(a≠b))/\(∀a b:Bool,((a !=b)=false)=(a=b)):=by
 refine⟨?_,?_,?_,?_,?_,?_,?_,?_,?_,?_,?_,?_,?_,?_,?_,?_,?_,?_,?_,?_⟩<;>intros<;>simp
theorem BT:(∀a:Bool,(true&&a)=a)/\(∀a:Bool,(false&&a)=false)/\(∀a:Bool,(a&&true)=a)/\(∀a:Bool,(a&&false)=false)/\(∀a:Bool,(true||a)=true)/\(∀a:Bool,(false||a)=a)/\(∀a:Bool,(a||true)=true)/\(∀a:Bool,(a||false)=a)/\(!true)=false/\(!false)=true:=by simp
theorem Lr{lo hi:Nat}{ex:List Nat}{f:Fn}:Leaves lo hi ex f f:= .refl
theorem Lu{lo hi:Nat}{ex:List Nat}{f A:Fn}{i:Nat}{v:Value}(E:inR lo hi ex i=true)(h:Leaves lo hi ex f A):Leaves lo hi ex f (upd A i v):= .upd E h
section
variable {P:Program} {G:Nat} {K:bp} {sz:Nat} {Q:Ex->Fn->Heap->Prop} {ops:Array Oper} {D:List (Nat×ID)} {i:Nat} {os:List Oper} {k:List Fr} {f:Fn} {H H1:Heap} {d:Tmp} {ty:TypeId} {pos:String} {af:Array Edge} {x:Operand}
theorem wm(v:Value)(E:dx f x=v)(A:(Op.move x).operands.toList.all (bg G)=true)(hd:Nat.ble (d+1) sz=true)(h:WO P G K sz ops os k (upd f d v) H Q):WO P G K sz ops (⟨some d,.move x,ty,pos,af,none⟩::os) k f H Q:=ak (ap_move E) A hd h
theorem wa(v:Value)(E:dx f x=v)(A:(Op.assign x).operands.toList.all (bg G)=true)(hd:Nat.ble (d+1) sz=true)(h:WO P G K sz ops os k (upd f d v) H Q):WO P G K sz ops (⟨some d,.assign x,ty,pos,af,none⟩::os) k f H Q:=ak (kp E) A hd h
theorem fm(v:Value)(E:dx f x=v)(A:(Op.move x).operands.toList.all (bg G)=true)(hd:Nat.ble (d+1) sz=true)(h:WF2 P G K sz ops ((i,.v)::D) (i+1) os k (upd f d v) H Q):WF2 P G K sz ops D i (⟨some d,.move x,ty,pos,af,none⟩::os) k f H Q:=aV (ap_move E) A hd (did_v rfl) (kG _) h
theorem fa(v:Value)(E:dx f x=v)(A:(Op.assign x).operands.toList.all (bg G)=true)(hd:Nat.ble (d+1) sz=true)(h:WF2 P G K sz ops ((i,.v)::D) (i+1) os k (upd f d v) H Q):WF2 P G K sz ops D i (⟨some d,.assign x,ty,pos,af,none⟩::os) k f H Q:=aV (kp E) A hd (did_v rfl) (kG _) h
end
end Go.R
end
noncomputable section
set_option linter.unusedVariables false
namespace Go.R
section
variable {P:Program} {G:Nat} {K:bp} {sz:Nat} {Q:Ex->Fn->Heap->Prop} {ops:Array Oper} {D:List (Nat×ID)} {i:Nat} {os:List Oper} {k:List Fr} {f:Fn} {H:Heap} {v:Value}
 {d:Tmp} {op:Op} {ty:TypeId} {pos:String} {af:Array Edge}
def cB:ID->ID->Bool
 | .v,_=>true
 |_,.v=>true
 |_,.x _=>false
 | .x _,.a=>true
 | .x _,_=>false
 |_,_=>true
theorem cB_ok{e d:ID}(h:cB e d=true):cD e d:=by cases e<;>cases d<;>first|exact trivial|cases h
def okB(ops:Array Oper)(i:Nat)(d:ID):List (Nat×ID)->Bool
 | []=>true
 |(j,e)::D=>(cB e d||aZ (cj ops) j i)&&okB ops i d D
theorem kb: ∀{D:List (Nat×ID)} {e:ID},okB ops i e D=true->okD ops i e D
 | [],_,_=>trivial
 |(j,g)::D,e,h=>by unfold okB at h;rw[a02,a0P]at h;exact⟨h.1.elim (fun h=> .inr (cB_ok h)) .inl,kb h.2⟩
theorem wfv(ha:AP P (dx f) ⟨some d,op,ty,pos,af,none⟩ {H with log:=[]} (.val v,{H with log:=[]}))
  (h:WF2 P G K sz ops ((i,.v)::D) (i+1) os k (upd f d v) H Q) (E:aT op=true:=by rfl) (A:op.operands.toList.all (bg G)=true:=by rfl) (hd:Nat.ble (d+1) sz=true:=by rfl):WF2 P G K sz ops D i (⟨some d,op,ty,pos,af,none⟩::os) k f H Q:=aV ha A hd (did_v E) (kG _) h
end
end Go.R
end
noncomputable section
set_option linter.unusedVariables false
namespace Go.R
open Go
section
variable {I J:Int->Value->Prop} {es:List (Value×Value)}
def TabI(I:Int->Value->Prop)(es:List (Value×Value)):Prop:= ∀e,e∈es->∃k,e.1= .int .i64 k/\I k e.2
end
section
variable {P:Program} {ρ:Operand->Value} {d:Option Tmp} {ty:TypeId} {pos:String} {af:Array Edge} {gd:Option (Nat×Bool)} {B:Base} {F:Fz} {H:Heap} {L R:List Fp} {I:Int->Value->Prop} {es:List (Value×Value)}
end
end Go.R
end
