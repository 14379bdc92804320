/-
 Symbolic runs over the evaluator: heaps with owners, what cells stand for, one lemma for each kind of operation. No condition beyond those that each statement names.
-/
import Derived.Test.YtknafdcgpaejlaaDoorZERB
noncomputable section
set_option linter.unusedVariables false
set_option linter.unusedSimpArgs false
namespace Go.R
abbrev Fn:=Nat->Value
def upd(f:Fn)(i:Nat)(v:Value):Fn:=fun j=>bif Nat.beq i j then v else f j
def updO(f:Fn)(d:Option Tmp)(v:Value):Fn:=match d with
 |some d=>upd f d v
 |none=>f
def lc(f:Fn):List (Nat×Value)->Fn
 | []=>f
 |(i,v)::l=>upd (lc f l) i v
def az(f:Fn):List (Nat×Value)->Prop
 | []=>True
 |(i,v)::l=>f i=v/\az f l
def dq(f:Fn):Operand->Value
 | .tmp t=>f t
 | .const v=>v
 | .global g=> .pointer (some ⟨g,0,none⟩)
 | .func i=> .func (.func i) #[] #[]
def argF(l:List Value):Fn:=fun j=>l.getD j undef
theorem upd_self(f:Fn){i:Nat}{v:Value}(h:f i=v):upd f i v=f:=by
 funext j;unfold upd;cases hb:Nat.beq i j with
 |true=>have:=a07 hb;subst this;exact h.symm
 |false=>rfl
theorem gH{f:Fn}: ∀{l:List (Nat×Value)},az f l->lc f l=f
 | [],_=>rfl
 |(i,v)::l,h=>by unfold lc;rw[gH h.2];exact upd_self f h.1
theorem lget_lset_fn(t:Tr Value)(d:Nat)(v:Value):cG (lset t d v)=upd (cG t) d v:=by
 funext j;rw[fA];unfold upd;by_cases h:d=j
 ·subst h;rw[if_pos rfl,a0Z];rfl
 rw[if_neg h];cases hb:Nat.beq d j with
 |true=>exact absurd (a07 hb) h
 |false=>rfl
theorem dK(t:Tr Value):cS t=dq (cG t):=by funext x;cases x<;>rfl
theorem argTmps_fn(args:List Value):cG (eC 0 args .nil)=argF args:=by
 funext j;rw[gB];unfold argF;by_cases h:j<args.length
 ·rw[if_pos (by omega)];rfl
 rw[if_neg (by omega),a01,a0Q (by omega)];rfl
inductive Fr where
 |seq (b:Code)
 |block (id:Nat)
section
variable {P:Program} {G:Nat} {K:bN} {sz:Nat} {Q:Ex->Fn->Heap->Prop}
def runK(P:Program)(G:Nat)(K:bN)(n:Nat):List Fr->Option (Ex×St)->Option (Ex×St)
 | [],r=>r
 | .seq b::k,r=>runK P G K n k (fD r (kL P G K n b))
 | .block id::k,r=>runK P G K n k (cQ id r)
theorem dg{n m:Nat}(h:n<=m): ∀(k:List Fr) (r r':Option (Ex×St)),(∀x,r=some x->r'=some x)->∀x,runK P G K n k r=some x->runK P G K m k r'=some x
 | [],r,r',hr,x,hx=>hr x hx
 | .seq b::k,r,r',hr,x,hx=>dg h k _ _ (fun _ hy=>fQ hr (fun s y hy=>gX h b s y hy) hy) x hx
 | .block id::k,r,r',hr,x,hx=>dg h k _ _ (fun _ hy=>iL hr hy) x hx
structure WK(P:Program)(G:Nat)(K:bN)(sz:Nat)(c:Code)(k:List Fr)(f:Fn)(H:Heap)(Q:Ex->Fn->Heap->Prop):Prop where
 out: ∀t,cG t=f->∃n e s',runK P G K (n+1) k (kL P G K (n+1) c ⟨t,sz,H⟩)=some (e,s')/\Q e (cG s'.tmps) s'.heap
structure WO(P:Program)(G:Nat)(K:bN)(sz:Nat)(ops:Array Oper)(os:List Oper)(k:List Fr)(f:Fn)(H:Heap)(Q:Ex->Fn->Heap->Prop):Prop where
 out: ∀t,cG t=f->∃n e s',runK P G K (n+1) k (dJ (fl P G (call P G K n) ops os ⟨t,sz,H⟩))=some (e,s')/\Q e (cG s'.tmps) s'.heap
structure C(P:Program)(G:Nat)(K:bN)(f:FuncId)(args:List Value)(H:Heap)(R:Value->Heap->Prop):Prop where
 out: ∃n v H',call P G K n f args H=some (v,H')/\R v H'
theorem C.mono{f:FuncId}{args:List Value}{H:Heap}{R R':Value->Heap->Prop}(h:C P G K f args H R)(hr: ∀v H',R v H'->R' v H'):C P G K f args H R':=by obtain⟨n,v,H',h1,h2⟩:=h.out;exact⟨n,v,H',h1,hr _ _ h2⟩
variable {c:Code} {k:List Fr} {f:Fn} {H:Heap}
theorem be(h:Q .normal f H):WK P G K sz .skip [] f H Q:=⟨fun t ht=>⟨0,.normal,⟨t,sz,H⟩,rfl,by rw[ht];exact h⟩⟩
theorem wk_skip_seq{b:Code}(h:WK P G K sz b k f H Q):WK P G K sz .skip (.seq b::k) f H Q:=⟨h.out⟩
theorem kX{id:Nat}(h:WK P G K sz .skip k f H Q):WK P G K sz .skip (.block id::k) f H Q:=⟨h.out⟩
theorem wk_seq{a b:Code}(h:WK P G K sz a (.seq b::k) f H Q):WK P G K sz (.seq a b) k f H Q:=⟨h.out⟩
theorem wk_block{id:Nat}{b:Code}(h:WK P G K sz b (.block id::k) f H Q):WK P G K sz (.block id b) k f H Q:=⟨h.out⟩
theorem wk_loop{b:Code}(h:WK P G K sz b (.seq (.loop b)::k) f H Q):WK P G K sz (.loop b) k f H Q:=⟨fun t ht=>by
 obtain⟨n,e,s',h1,h2⟩:=h.out t ht;refine⟨n+1,e,s',?_,h2⟩;refine dg (Nat.le_succ (n+1)) k _ _ (fun x hx=>?_) _ h1;show fD (kL P G K (n+2) b ⟨t,sz,H⟩) (kL P G K (n+1) (.loop b))=some x;exact fQ (fun y hy=>gW _ _ _ _ hy) (fun _ _ hy=>hy) hx⟩
theorem wk_exit_seq{id:Nat}{b:Code}(h:WK P G K sz (.exit id) k f H Q):WK P G K sz (.exit id) (.seq b::k) f H Q:=⟨h.out⟩
theorem kY{id:Nat}(h:WK P G K sz .skip k f H Q):WK P G K sz (.exit id) (.block id::k) f H Q:=⟨fun t ht=>by
 obtain⟨n,e,s',h1,h2⟩:=h.out t ht;refine⟨n,e,s',?_,h2⟩;show runK P G K (n+1) k (cQ id (some (.exit id,⟨t,sz,H⟩)))=_;unfold cQ;simp only[a0Z,cond_true];exact h1⟩
theorem iV{id id':Nat}(hne:Nat.beq id id'=false)(h:WK P G K sz (.exit id) k f H Q):WK P G K sz (.exit id) (.block id'::k) f H Q:=⟨fun t ht=>by
 obtain⟨n,e,s',h1,h2⟩:=h.out t ht;refine⟨n,e,s',?_,h2⟩;show runK P G K (n+1) k (cQ id' (some (.exit id,⟨t,sz,H⟩)))=_;unfold cQ;simp only[hne,cond_false];exact h1⟩
theorem i9{n:Nat}{s:St}: ∀k:List Fr,runK P G K n k (some (.ret,s))=some (.ret,s)
 | []=>rfl
 | .seq _::k=>i9 k
 | .block _::k=>i9 k
theorem aj(h:Q .ret f H):WK P G K sz .ret k f H Q:=⟨fun t ht=>⟨0,.ret,⟨t,sz,H⟩,i9 k,by rw[ht];exact h⟩⟩
theorem wk_cond{x:Operand}{a b:Code}{v:Bool}(hx:dq f x= .bool v)(ho:bB G x=true)(ht:v=true->WK P G K sz a k f H Q)(he:v=false->WK P G K sz b k f H Q):WK P G K sz (.cond x a b) k f H Q:=⟨fun t hf=>by
 have hcond: ∀n,kL P G K (n+1) (.cond x a b) ⟨t,sz,H⟩=bif v then kL P G K (n+1) a ⟨t,sz,H⟩ else kL P G K (n+1) b ⟨t,sz,H⟩:=by intro n;show(bif bB G x then kM (cS t x) _ _ else none)=_;rw[ho,dK,hf,hx];rfl
 cases v with
 |true=>
  obtain⟨n,e,s',h1,h2⟩:=(ht rfl).out t hf
  exact⟨n,e,s',by rw[hcond];exact h1,h2⟩
 |false=>
  obtain⟨n,e,s',h1,h2⟩:=(he rfl).out t hf
  exact⟨n,e,s',by rw[hcond];exact h1,h2⟩⟩
theorem wk_true{x:Operand}{a b:Code}{v:Bool}(hx:dq f x= .bool v)(hv:v=true)(ho:bB G x=true)(h:WK P G K sz a k f H Q):WK P G K sz (.cond x a b) k f H Q:=
 wk_cond hx ho (fun _=>h) (fun e=>by rw[hv]at e;cases e)
theorem aa{id:Nat}{ops:Array Oper}(h:WO P G K sz ops ops.toList k f H Q):WK P G K sz (.region id ops false) k f H Q:=⟨h.out⟩
theorem ge{ops:Array Oper}(h:WK P G K sz .skip k f H Q):WO P G K sz ops [] k f H Q:=⟨h.out⟩
theorem ak(l:List (Nat×Value))(hl:az f l)(h: ∀g,WK P G K sz c k (lc g l) H Q):WK P G K sz c k f H Q:=by have:=h f;rwa [gH hl]at this
structure AP(P:Program)(ρ:Operand->Value)(o:Oper)(H:Heap)(r:AN×Heap):Prop where
 eq:aop P ρ o H=some r
def dstOK(d:Option Tmp)(sz:Nat):Bool:=match d with
 |some d=>Nat.ble (d+1) sz
 |none=>true
theorem gL{s:St}{d:Option Tmp}{v:Value}(hd:dstOK d s.size=true): ∃t',s.put d v=some {s with tmps:=t'}/\cG t'=updO (cG s.tmps) d v:=by
 unfold St.put;cases d with
 |none=>exact⟨s.tmps,rfl,rfl⟩
 |some d=>
  have hd':Nat.ble (d+1) s.size=true:=hd
  simp only[hd',cond_true]
  exact⟨lset s.tmps d v,rfl,lget_lset_fn _ _ _⟩
section
variable {ops:Array Oper} {o:Oper} {os:List Oper} {v:Value} {H1:Heap}
theorem lm{t:Tr Value}(hg:o.guard=none)(ho:o.op.operands.toList.all (bB G)=true)(ha:aop P (dq (cG t)) o H=some (.val v,H1))(hd:dstOK o.dst sz=true):
  ∃t',(∀cf,step P G cf ops o ⟨t,sz,H⟩=some ⟨t',sz,H1⟩)/\cG t'=updO (cG t) o.dst v:=by
 obtain⟨t',h1,h2⟩:=gL (s:=⟨t,sz,H1⟩) (v:=v) hd
 refine⟨t',fun cf=>?_,h2⟩
 unfold step bf
 simp only[hg,cond_true,ho,dK,ha]
 exact h1
theorem step_skip{t:Tr Value}(hg:o.guard=none)(ho:o.op.operands.toList.all (bB G)=true)(ha:aop P (dq (cG t)) o H=some (.skip,H1))(hd:dstOK o.dst sz=true):
  ∃t',(∀cf,step P G cf ops o ⟨t,sz,H⟩=some ⟨t',sz,H1⟩)/\cG t'=updO (cG t) o.dst undef:=by
 obtain⟨t',h1,h2⟩:=gL (s:=⟨t,sz,H1⟩) (v:=undef) hd
 refine⟨t',fun cf=>?_,h2⟩
 unfold step bf
 simp only[hg,cond_true,ho,dK,ha]
 exact h1
theorem bD{d:Tmp}{op:Op}{ty:TypeId}{pos:String}{af:Array Edge}(ha:AP P (dq f) ⟨some d,op,ty,pos,af,none⟩ H (.val v,H1))(ho:op.operands.toList.all (bB G)=true)(hd:Nat.ble (d+1) sz=true)
  (h:WO P G K sz ops os k (upd f d v) H1 Q):WO P G K sz ops (⟨some d,op,ty,pos,af,none⟩::os) k f H Q:=⟨fun t ht=>by
 obtain⟨t',h1,h2⟩:=lm (P:=P) (G:=G) (ops:=ops) (t:=t) (o:=⟨some d,op,ty,pos,af,none⟩) rfl ho (by rw[ht];exact ha.eq) hd
 obtain⟨n,e,s',h3,h4⟩:=h.out t' (by rw[h2,ht];rfl)
 refine⟨n,e,s',?_,h4⟩
 rw[bZ,h1]
 exact h3⟩
theorem wo_skip{op:Op}{ty:TypeId}{pos:String}{af:Array Edge}(ha:AP P (dq f) ⟨none,op,ty,pos,af,none⟩ H (.skip,H1))(ho:op.operands.toList.all (bB G)=true)
  (h:WO P G K sz ops os k f H1 Q):WO P G K sz ops (⟨none,op,ty,pos,af,none⟩::os) k f H Q:=⟨fun t ht=>by
 obtain⟨t',h1,h2⟩:=step_skip (P:=P) (G:=G) (ops:=ops) (t:=t) (sz:=sz) (o:=⟨none,op,ty,pos,af,none⟩) rfl ho (by rw[ht];exact ha.eq) rfl
 obtain⟨n,e,s',h3,h4⟩:=h.out t' (by rw[h2,ht];rfl)
 refine⟨n,e,s',?_,h4⟩
 rw[bZ,h1]
 exact h3⟩
theorem wo_callG{d:Option Tmp}{op:Op}{ty:TypeId}{pos:String}{af:Array Edge}{g:FuncId}{args:List Value}{R:Value->Heap->Prop}(ha:AP P (dq f) ⟨d,op,ty,pos,af,none⟩ H (.enter g args,H1))(ho:op.operands.toList.all (bB G)=true)(hd:dstOK d sz=true)
  (hc:C P G K g args H1 R) (h: ∀v H2,R v H2->WO P G K sz ops os k (updO f d v) H2 Q):WO P G K sz ops (⟨d,op,ty,pos,af,none⟩::os) k f H Q:=⟨fun t ht=>by
 obtain⟨n1,v,H2,hc1,hr⟩:=hc.out
 have h0:=h v H2 hr
 obtain⟨t',h1,h2⟩:=gL (s:=⟨t,sz,H2⟩) (v:=v) hd
 obtain⟨n2,e,s',h3,h4⟩:=h0.out t' (by rw[h2,ht])
 refine⟨Nat.max n1 n2,e,s',?_,h4⟩
 have hst:step P G (call P G K (Nat.max n1 n2)) ops ⟨d,op,ty,pos,af,none⟩ ⟨t,sz,H⟩=some ⟨t',sz,H2⟩:=by unfold step bf;simp only[cond_true,ho,dK,ht,ha.eq,dQ (a1H n1 n2) _ _ _ _ hc1];exact h1
 rw[bZ,hst]
 refine dg (a1p (a1a n1 n2)) k _ _ (fun x hx=>?_) _ h3
 simp only
 cases hq:fl P G (call P G K n2) ops os ⟨t',sz,H2⟩ with
 |none=>rw[hq]at hx;cases hx
 |some y=>rw[gi (dQ (a1a n1 n2)) _ _ _ hq];rw[hq]at hx;exact hx⟩
theorem aI{d:Tmp}{op:Op}{ty:TypeId}{pos:String}{af:Array Edge}{g:FuncId}{args:List Value}{R:Value->Heap->Prop}(ha:AP P (dq f) ⟨some d,op,ty,pos,af,none⟩ H (.enter g args,H1))(ho:op.operands.toList.all (bB G)=true)(hd:Nat.ble (d+1) sz=true)
  (hc:C P G K g args H1 R) (h: ∀v H2,R v H2->WO P G K sz ops os k (upd f d v) H2 Q):WO P G K sz ops (⟨some d,op,ty,pos,af,none⟩::os) k f H Q:=wo_callG ha ho hd hc h
end
theorem ah{b:Code}(I:Nat->Fn->Heap->Prop)(m:Nat)(h0:I m f H)
  (step: ∀m f H,I m f H->(∀m' f' H',m'<m->I m' f' H'->WK P G K sz (.loop b) k f' H' Q)->WK P G K sz b (.seq (.loop b)::k) f H Q):WK P G K sz (.loop b) k f H Q:=by
 have key: ∀n m,m<=n->∀f H,I m f H->WK P G K sz (.loop b) k f H Q:=by
  intro n;induction n with
  |zero=>
   intro m hm f H hI
   refine wk_loop (step m f H hI fun m' f' H' hlt _=>?_)
   omega
  |succ n ih=>
   intro m hm f H hI
   exact wk_loop (step m f H hI fun m' f' H' hlt hI'=>ih m' (by omega) f' H' hI')
 exact key m m (a09 _) f H h0
def cg(P:Program)(f:Fn)(H:Heap):List ResultVar->Option (List Value)
 | []=>some []
 | .tmp t::rs=>
  match cg P f H rs with
  |some l=>some (f t::l)
  |none=>none
 | .cell a t::rs=>
  match f a with
  | .pointer (some p)=>
   match H.loadV P t p,cg P f H rs with
   |some v,some l=>some (v::l)
   |_,_=>none
  |_=>none
theorem gm(s:St): ∀rs,cE P s rs=cg P (cG s.tmps) s.heap rs
 | []=>rfl
 | .tmp t::rs=>by unfold cE cg;rw[gm s rs];cases cg P (cG s.tmps) s.heap rs<;>rfl
 | .cell a t::rs=>by
  unfold cE cg;cases cG s.tmps a with
  |pointer p=>cases p with
   |none=>rfl
   |some p=>simp only[gm s rs];cases s.heap.loadV P t p<;>cases cg P (cG s.tmps) s.heap rs<;>rfl
  |_=>rfl
theorem aE{fi:FuncId}{fn:Func}{args:List Value}{R:Value->Heap->Prop}(hfn:P.funcs[fi]?=some fn)(hc:fn.body=some c)(hK:K fi args H=none)
  (h:WK P G K (Nat.max args.length fn.ntmps) c [] (argF args) H fun e f' H'=>(e= .normal\/e= .ret)/\∃l,cg P f' H' fn.results.toList=some l/\R (d4 l) H'):C P G K fi args H R:=by
 obtain⟨n,e,s',h1,he,l,hl,hr⟩:=h.out (eC 0 args .nil) (argTmps_fn args)
 refine⟨n+1,d4 l,s'.heap,?_,hr⟩
 show ka K (lK P (kL P G K (n+1))) fi args H=_
 have h1':kL P G K (n+1) c ⟨eC 0 args .nil,Nat.max args.length fn.ntmps,H⟩=some (e,s'):=h1
 unfold ka lK
 rw[hK]
 simp only[hfn,hc,h1']
 rw[←gm]at hl
 rcases he with rfl|rfl
 ·simp only[hl]
 simp only[hl]
end
end Go.R
end
noncomputable section
namespace Go.R
section
variable {P:Program} {ρ:Operand->Value} {d:Option Tmp} {ty:TypeId} {pos:String} {af:Array Edge} {gd:Option (Nat×Bool)} {H:Heap}
theorem ap_move{x:Operand}{v:Value}(h:ρ x=v):AP P ρ ⟨d,.move x,ty,pos,af,gd⟩ H (.val v,H):=by subst h;exact⟨rfl⟩
theorem j3{x:Operand}{v:Value}(h:ρ x=v):AP P ρ ⟨d,.assign x,ty,pos,af,gd⟩ H (.val v,H):=by subst h;exact⟨rfl⟩
theorem iQ{op:BinOp}{t yt:TypeId}{x y:Operand}{k k':IntKind}{a b:Int}{v:Value}(hx:ρ x= .int k a)(hy:ρ y= .int k' b)
  (hv:(bif jO op then shBin op k a b else bif gQ k k' then kF op k a b else none)=some v):AP P ρ ⟨d,.binOp op t x y yt,ty,pos,af,gd⟩ H (.val v,H):=by
 refine⟨?_⟩
 show aBin P ρ _ op t (ρ x) y H=_
 rw[hx]
 show binInt op k a (ρ y) H=_
 rw[hy]
 show ovl _ H=_
 rw[hv];rfl
theorem ap_str{op:BinOp}{t yt:TypeId}{x y:Operand}{a b:ByteArray}{v:Value}(hx:ρ x= .string a)(hy:ρ y= .string b)(hv:strOp op a b=some v):
  AP P ρ ⟨d,.binOp op t x y yt,ty,pos,af,gd⟩ H (.val v,H):=by
 refine⟨?_⟩
 show aBin P ρ _ op t (ρ x) y H=_
 rw[hx]
 show binStr op a (ρ y) H=_
 rw[hy]
 show ovl _ H=_
 rw[hv];rfl
theorem ap_not{t:TypeId}{x:Operand}{b:Bool}(hx:ρ x= .bool b):AP P ρ ⟨d,.unOp .not t x,ty,pos,af,gd⟩ H (.val (.bool (!b)),H):=by refine⟨?_⟩;show aUn P ρ _ .not (ρ x) H=_;rw[hx];rfl
theorem ap_conv{s t:TypeId}{x:Operand}{k k':IntKind}{n:Int}(hx:ρ x= .int k n){u:TypeDesc}(hs:P.underlying s=some u)(ht:P.underlying t=some (.int k')):
  AP P ρ ⟨d,.convert s t x,ty,pos,af,gd⟩ H (.val (.int k' (k'.wrap n)),H):=by
 refine⟨?_⟩
 show ff P ρ _ s t (ρ x) H=_
 rw[hx]
 show ovl (lF P s t n) H=_
 unfold lF
 rw[hs,ht];rfl
theorem ap_neg{t:TypeId}{x:Operand}{k:IntKind}{n:Int}(hx:ρ x= .int k n):AP P ρ ⟨d,.unOp .neg t x,ty,pos,af,gd⟩ H (.val (.int k (k.wrap (0-n))),H):=by
 refine⟨?_⟩;show aUn P ρ _ .neg (ρ x) H=_;rw[hx];show bw P ρ _ H=_;unfold bw;have h1:((Op.unOp .neg t x).operands.toList.all fun x=>gF (ρ x))=true:=by simp[Op.operands,hx,gF,noA0]
 simp only[h1,cond_true];show(match aB P (execOp ρ ⟨d,.unOp .neg t x,ty,pos,af,gd⟩) with|some (.value v)=>bif noA2 v then some (AN.val v,H) else none|_=>none)=_;have h2:aB P (execOp ρ ⟨d,.unOp .neg t x,ty,pos,af,gd⟩)=some (.value (.int k (k.wrap (0-n)))):=by unfold execOp;simp only[hx];rfl
 rw[h2];rfl
theorem ap_cpl{t:TypeId}{x:Operand}{k:IntKind}{n:Int}(hx:ρ x= .int k n):AP P ρ ⟨d,.unOp .xor t x,ty,pos,af,gd⟩ H (.val (.int k (bits .xor k (if k.signed then-1 else k.max) n)),H):=by
 refine⟨?_⟩;show aUn P ρ _ .xor (ρ x) H=_;rw[hx];show bw P ρ _ H=_;unfold bw;have h1:((Op.unOp .xor t x).operands.toList.all fun x=>gF (ρ x))=true:=by simp[Op.operands,hx,gF,noA0]
 simp only[h1,cond_true];have h2:aB P (execOp ρ ⟨d,.unOp .xor t x,ty,pos,af,gd⟩)=some (.value (.int k (bits .xor k (if k.signed then-1 else k.max) n))):=by unfold execOp;simp only[hx];rfl
 rw[h2];rfl
theorem ap_quo{t yt:TypeId}{x y:Operand}{k k':IntKind}{a b:Int}(hx:ρ x= .int k a)(hy:ρ y= .int k' b)(hk:gQ k k'=true)(hb:(b==0)=false):
  AP P ρ ⟨d,.binOp .quo t x y yt,ty,pos,af,gd⟩ H (.val (.int k (k.wrap (a.tdiv b))),H):=
 iQ hx hy (by show(bif gQ k k' then(bif b==0 then none else some (.int k (k.wrap (a.tdiv b)))) else none:Option Value)=_;rw[hk,hb];rfl)
theorem ap_shl{t yt:TypeId}{x y:Operand}{k k':IntKind}{a b:Int}(hx:ρ x= .int k a)(hy:ρ y= .int k' b)(hb:0<=b):
  AP P ρ ⟨d,.binOp .shl t x y yt,ty,pos,af,gd⟩ H (.val (.int k (k.wrap (a*2^(Nat.min b.toNat k.bits)))),H):=by
 refine⟨?_⟩
 obtain⟨n,rfl⟩:=a16 hb
 exact(iQ hx hy rfl).eq
theorem ap_shr{t yt:TypeId}{x y:Operand}{k k':IntKind}{a b:Int}(hx:ρ x= .int k a)(hy:ρ y= .int k' b)(hb:0<=b):
  AP P ρ ⟨d,.binOp .shr t x y yt,ty,pos,af,gd⟩ H (.val (.int k (a.fdiv (2^(Nat.min b.toNat k.bits)))),H):=by
 refine⟨?_⟩
 obtain⟨n,rfl⟩:=a16 hb
 exact(iQ hx hy rfl).eq
theorem lQ{t:TypeId}{n sz:Nat}{z:List Value}{parts:Array (Nat×Operand)}{cells:Array Value}(hs:eH P t=some (sz,z))(hn:Nat.ble (n*sz) 16777216=true)
  (hf:Instr.fill (fun i=>some (i*sz,sz)) ⟨cz n z⟩ (eQ (fun p=>(p.1,ρ p.2)) parts.toList)=some cells):
  AP P ρ ⟨d,.buildSlice t n parts,ty,pos,af,gd⟩ H (.val (.slice (some ⟨H.next,0,none⟩) n n),H.push (.cells cells.toList none false)):=by
 refine⟨?_⟩
 show bK P t n (eQ (fun p=>(p.1,ρ p.2)) parts.toList) H=_
 unfold bK
 rw[hs]
 simp only[hn,cond_true,hf]
 rfl
theorem iR{t e:TypeId}{x i:Operand}{b o n k sz:Nat}{ki:IntKind}{j:Int}(hx:ρ x= .slice (some ⟨b,o,none⟩) n k)(hi:ρ i= .int ki j)(ht:P.underlying t=some (.slice e))(hs:dw P e=some sz)
  (h0:0<=j) (hj:j<n) (hn:n<=k):AP P ρ ⟨d,.indexAddr t x i,ty,pos,af,gd⟩ H (.val (.pointer (some ⟨b,o+j.toNat*sz,none⟩)),H):=by
 refine⟨?_⟩
 obtain⟨m,rfl⟩:=a16 h0
 show ovl (cW P t (ρ x) (ρ i)) H=_
 rw[hx,hi]
 unfold cW
 rw[ht]
 show ovl (match dw P e with|some sz=>bif Nat.ble (m+1) n&&Nat.ble n k then some (.pointer (some ⟨b,o+m*sz,none⟩)) else none|none=>none) H=_
 rw[hs]
 have h1:Nat.ble (m+1) n=true:=a0v (by omega)
 have h2:Nat.ble n k=true:=a0v hn
 simp only[h1,h2,a1j,cond_true]
 rfl
theorem ap_load1{t:TypeId}{x:Operand}{b o:Nat}{cs:List Value}{opn:Option Nat}{ro:Bool}{v:Value}(hx:ρ x= .pointer (some ⟨b,o,none⟩))(ha:gc P t=some false)(hg:H.get b=some (.cells cs opn ro))(hv:cs[o]?=some v):
  AP P ρ ⟨d,.load t x,ty,pos,af,gd⟩ H (.val v,H):=by
 refine⟨?_⟩
 show dX P t (ρ x) H=_
 rw[hx]
 show ovl (H.loadV P t ⟨b,o,none⟩) H=_
 unfold Heap.loadV
 rw[ha]
 simp only
 unfold Heap.cellAt
 simp only[hg,gO,hv]
 rfl
theorem ap_loadN{t:TypeId}{x:Operand}{b o n:Nat}{cs l:List Value}{opn:Option Nat}{ro:Bool}(hx:ρ x= .pointer (some ⟨b,o,none⟩))(ha:gc P t=some true)(hs:dw P t=some n)(hg:H.get b=some (.cells cs opn ro))(hl:(cs.drop o).take n=l)(hn:l.length=n):
  AP P ρ ⟨d,.load t x,ty,pos,af,gd⟩ H (.val (.agg ⟨l⟩),H):=by
 refine⟨?_⟩
 show dX P t (ρ x) H=_
 rw[hx]
 show ovl (H.loadV P t ⟨b,o,none⟩) H=_
 unfold Heap.loadV
 rw[ha]
 simp only[hs]
 unfold Heap.loadN
 simp only[hg,ce,ct,bT,hl,hn,a0Z,cond_true]
 rfl
structure Keeps(H H':Heap):Prop where
 next:H.next<=H'.next
 get: ∀b,b<H.next->H'.get b=H.get b
 log: ∃d,H'.log=d++H.log/\∀b,b∈d->H.next<=b
theorem appL_nil(l:List Value):appL l []=l:=by rw[dF];simp
theorem am{args:Array Operand}{ats:Array TypeId}{i:FuncId}{fn:Func}{f:Fn}{l:List Value}(hf:P.funcs[i]?=some fn)(hb:(fn.body.isSome&& !(fn.name== "runtime.NumGoroutine"))=true)(hl:eQ (dq f) args.toList=l):
  AP P (dq f) ⟨d,.call ⟨.value (.func i),args,ats⟩,ty,pos,af,gd⟩ H (.enter i l,H):=by
 refine⟨?_⟩
 show eZ (fg P (.func (.func i) #[] #[]) (eQ (dq f) args.toList)) H=_
 unfold fg
 simp only[hf,hb,cond_true,hl]
 show eZ (some (.enter i (appL [] (appL l [])))) H=_
 rw[appL_nil]
 rfl
end
end Go.R
end
noncomputable section
namespace Go.R
def fF:Inf->Bool
 | .x w=>isNilL w
 |_=>true
def vkAt(ops:Array Oper)(j:Nat):Bool:=match ops[j]? with
 |some o=>aY o.op
 |none=>false
def FsOK(ops:Array Oper)(wr:List Nat)(i:Nat)(fs:List (Nat×Inf)):Prop:= ∀j g,(j,g)∈fs->j<i/\(fF g=true\/j∈wr)/\(vkAt ops j=true->g= .v)
theorem lO: ∀{f g:Inf},fF f=true->fF g=true->dZ f g=true
 | .v,_,_,_=>rfl
 | .a b,.v,_,_=>rfl
 | .a b,.a c,_,_=>rfl
 | .a b,.l c,_,_=>rfl
 | .a b,.x w,_,h=>by cases w with
  |nil=>rfl
  |cons _ _=>cases h
 | .l b,.v,_,_=>rfl
 | .l b,.a c,_,_=>rfl
 | .l b,.l c,_,_=>rfl
 | .l b,.x w,_,h=>by cases w with
  |nil=>rfl
  |cons _ _=>cases h
 | .x w,.v,_,_=>rfl
 | .x w,.a c,_,_=>rfl
 | .x w,.l c,h,_=>by cases w with
  |nil=>rfl
  |cons _ _=>cases h
 | .x w,.x u,h,h'=>by simp only[fF]at h h';simp only[dZ,h,h',a1j]
theorem below_nil{n:Nat}: ∀{l:List Nat},(∀b,b∈l->n<=b)->cY n l=[]
 | [],_=>rfl
 |c::l,h=>by have h1:Nat.ble n c=true:=a0v (h c (a0p ..));unfold cY;rw[h1];exact below_nil fun b hb=>h b (a0g _ hb)
theorem infOf_benign{ops:Array Oper}{o:Oper}{s:St}{n:Nat}{log:List Nat}(h:cY n log=[]):fF (dA ops o s n log)=true:=by
 unfold dA;rw[h];cases (!bf ops o s.tmps||aY o.op) with
 |true=>rfl
 |false=>
  simp only[cond_false]
  cases dU o.op with
  |true=>rfl
  |false=>
   simp only[cond_false]
   split
   ·split<;>rfl
   ·split<;>rfl
   ·split<;>rfl
   rfl
theorem infOf_value{ops:Array Oper}{o:Oper}{s:St}{n:Nat}{log:List Nat}(h:aY o.op=true):dA ops o s n log= .v:=by unfold dA;rw[h,Bool.or_true];rfl
theorem iS{l:List Nat}{i:Nat}{f:Inf}: ∀{fs:List (Nat×Inf)},(∀j g,(j,g)∈fs->(bo l j i||dZ g f)=true)->cb l i f fs=true
 | [],_=>rfl
 |(j,g)::fs,h=>by unfold cb;rw[h j g (a0p ..),iS fun j g hm=>h j g (a0g _ hm)];rfl
section
variable {P:Program} {G:Nat} {K:bN} {sz:Nat} {Q:Ex->Fn->Heap->Prop} {ops:Array Oper} {wr:List Nat} {i:Nat} {os:List Oper} {k:List Fr} {f:Fn} {H H1:Heap} {v:Value}
 {d:Tmp} {op:Op} {ty:TypeId} {pos:String} {af:Array Edge}
structure WD(P:Program)(G:Nat)(K:bN)(sz:Nat)(ops:Array Oper)(wr:List Nat)(i:Nat)(os:List Oper)(k:List Fr)(f:Fn)(H:Heap)(Q:Ex->Fn->Heap->Prop):Prop where
 out: ∀t fs,cG t=f->FsOK ops wr i fs->∃n e s',runK P G K (n+1) k (dJ (bn P G (call P G K n) ops i fs os ⟨t,sz,H⟩))=some (e,s')/\Q e (cG s'.tmps) s'.heap
end
end Go.R
end
noncomputable section
namespace Go.R
def cr(ops:Array Oper)(f:Fn)(j:Nat):Option Bool:=
 match (ops[j]?).bind (·.dst) with
 |some d=>
  match f d with
  | .bool b=>some b
  |_=>none
 |none=>none
theorem aop_guard{P:Program}{ρ:Operand->Value}{d:Option Tmp}{op:Op}{ty:TypeId}{pos:String}{af:Array Edge}(g g':Option (Nat×Bool))(H:Heap):
  aop P ρ ⟨d,op,ty,pos,af,g⟩ H=aop P ρ ⟨d,op,ty,pos,af,g'⟩ H:=by
 cases op<;>rfl
section
variable {P:Program} {G:Nat} {K:bN} {sz:Nat} {Q:Ex->Fn->Heap->Prop} {ops:Array Oper} {wr:List Nat} {i j:Nat} {os:List Oper} {k:List Fr} {f:Fn} {H H1:Heap} {v want:Bool}
 {d:Option Tmp} {op:Op} {ty:TypeId} {pos:String} {af:Array Edge}
theorem gG{t:Tr Value}(ht:cG t=f)(hy:cr ops f j=some v)(o:Oper)(hg:o.guard=some (j,want)):bf ops o t=(v==want):=by
 unfold bf;rw[hg];have:ke ops t j=some v:=by rw[←hy,←ht];rfl
 simp only[this];cases v<;>cases want<;>rfl
theorem kp{cf:cn}{t:Tr Value}(ht:cG t=f)(hy:cr ops f j=some v)(hv:v=want):
  step P G cf ops ⟨d,op,ty,pos,af,some (j,want)⟩ ⟨t,sz,H⟩=step P G cf ops ⟨d,op,ty,pos,af,none⟩ ⟨t,sz,H⟩:=by
 unfold step
 rw[gG ht hy _ rfl,hv]
 have h1:(want==want)=true:=by cases want<;>rfl
 have h2:bf ops ⟨d,op,ty,pos,af,none⟩ t=true:=rfl
 simp only[h1,h2,cond_true,aop_guard (some (j,want)) none]
theorem ln{cf:cn}{t:Tr Value}(ht:cG t=f)(hy:cr ops f j=some v)(hv:v= !want):
  step P G cf ops ⟨d,op,ty,pos,af,some (j,want)⟩ ⟨t,sz,H⟩=St.put ⟨t,sz,H⟩ d undef:=by
 unfold step
 rw[gG ht hy _ rfl,hv]
 have h1:((!want)==want)=false:=by cases want<;>rfl
 simp only[h1,cond_false]
theorem ev(hy:cr ops f j=some v)(hv:v=want)(h:WO P G K sz ops (⟨d,op,ty,pos,af,none⟩::os) k f H Q):WO P G K sz ops (⟨d,op,ty,pos,af,some (j,want)⟩::os) k f H Q:=⟨fun t ht=>by
 obtain⟨n,e,s',h1,h2⟩:=h.out t ht;refine⟨n,e,s',?_,h2⟩;rw[bZ]at h1⊢;rw[kp ht hy hv];exact h1⟩
theorem wo_gf{d:Tmp}(hy:cr ops f j=some v)(hv:v= !want)(hd:Nat.ble (d+1) sz=true)(h:WO P G K sz ops os k (upd f d undef) H Q):WO P G K sz ops (⟨some d,op,ty,pos,af,some (j,want)⟩::os) k f H Q:=⟨fun t ht=>by
 obtain⟨t',h3,h4⟩:=gL (s:=⟨t,sz,H⟩) (d:=some d) (v:=undef) hd;obtain⟨n,e,s',h1,h2⟩:=h.out t' (by rw[h4,ht];rfl);refine⟨n,e,s',?_,h2⟩;rw[bZ,ln ht hy hv,h3];exact h1⟩
theorem jo{d:Tmp}(hy:cr ops f j=some v)(hv:v=false)(hd:Nat.ble (d+1) sz=true)(h:WO P G K sz ops os k (upd f d undef) H Q):WO P G K sz ops (⟨some d,op,ty,pos,af,some (j,true)⟩::os) k f H Q:=wo_gf hy hv hd h
theorem wo_gf0{d:Tmp}(hy:cr ops f j=some v)(hv:v=true)(hd:Nat.ble (d+1) sz=true)(h:WO P G K sz ops os k (upd f d undef) H Q):WO P G K sz ops (⟨some d,op,ty,pos,af,some (j,false)⟩::os) k f H Q:=wo_gf hy hv hd h
theorem wo_gn{d:Tmp}(hy:cr ops f j=none)(hd:Nat.ble (d+1) sz=true)(h:WO P G K sz ops os k (upd f d undef) H Q):WO P G K sz ops (⟨some d,op,ty,pos,af,some (j,want)⟩::os) k f H Q:=⟨fun t ht=>by
 obtain⟨t',h3,h4⟩:=gL (s:=⟨t,sz,H⟩) (d:=some d) (v:=undef) hd;obtain⟨n,e,s',h1,h2⟩:=h.out t' (by rw[h4,ht];rfl);refine⟨n,e,s',?_,h2⟩;have hw:bf ops ⟨some d,op,ty,pos,af,some (j,want)⟩ t=false:=by
  unfold bf;have:ke ops t j=none:=by rw[←hy,←ht];rfl
  simp only[this];cases want<;>rfl
 have hst:step P G (call P G K n) ops ⟨some d,op,ty,pos,af,some (j,want)⟩ ⟨t,sz,H⟩=St.put ⟨t,sz,H⟩ (some d) undef:=by unfold step;simp only[hw,cond_false]
 rw[bZ,hst,h3];exact h1⟩
theorem wo_gsT{d:Tmp}(hy:cr ops f j=some v)(hd:Nat.ble (d+1) sz=true)(h1:v=true->WO P G K sz ops (⟨some d,op,ty,pos,af,none⟩::os) k f H Q)(h2:v=false->WO P G K sz ops os k (upd f d undef) H Q):
  WO P G K sz ops (⟨some d,op,ty,pos,af,some (j,true)⟩::os) k f H Q:=by
 cases v with
 |true=>exact ev hy rfl (h1 rfl)
 |false=>exact wo_gf hy rfl hd (h2 rfl)
theorem wo_gsF{d:Tmp}(hy:cr ops f j=some v)(hd:Nat.ble (d+1) sz=true)(h1:v=false->WO P G K sz ops (⟨some d,op,ty,pos,af,none⟩::os) k f H Q)(h2:v=true->WO P G K sz ops os k (upd f d undef) H Q):
  WO P G K sz ops (⟨some d,op,ty,pos,af,some (j,false)⟩::os) k f H Q:=by
 cases v with
 |true=>exact wo_gf hy rfl hd (h2 rfl)
 |false=>exact ev hy rfl (h1 rfl)
end
section
variable {P:Program} {ρ:Operand->Value} {d:Option Tmp} {ty:TypeId} {pos:String} {af:Array Edge} {gd:Option (Nat×Bool)} {H:Heap}
theorem d8{c a b:Operand}{t:Bool}{v:Value}(hc:ρ c= .bool t)(ht:t=true)(hv:ρ a=v):AP P ρ ⟨d,.pick c a b,ty,pos,af,gd⟩ H (.val v,H):=by refine⟨?_⟩;show fw ρ c a b H=_;unfold fw;rw[hc,ht,←hv];rfl
theorem fV{c a b:Operand}{t:Bool}{v:Value}(hc:ρ c= .bool t)(ht:t=false)(hv:ρ b=v):AP P ρ ⟨d,.pick c a b,ty,pos,af,gd⟩ H (.val v,H):=by refine⟨?_⟩;show fw ρ c a b H=_;unfold fw;rw[hc,ht,←hv];rfl
def dR(op:BinOp)(t:TypeId)(x y:Operand)(a b:Bool):Sem Next:=
 ((eqGuard op t x y (.bool a) (.bool b))>>=fun _=>binOp op t (.bool a) (.bool b))>>=fun r=>Pure.pure (Next.value r)
theorem ap_boolEq{t yt:TypeId}{x y:Operand}{a b:Bool}(hx:ρ x= .bool a)(hy:ρ y= .bool b)(hrun: ∀a b:Bool,aB P (dR .eql t x y a b)=some (.value (.bool (a==b)))):AP P ρ ⟨d,.binOp .eql t x y yt,ty,pos,af,gd⟩ H (.val (.bool (a==b)),H):=by
 refine⟨?_⟩;show aBin P ρ _ .eql t (ρ x) y H=_;rw[hx];show bw P ρ _ H=_;unfold bw;have h1:((Op.binOp .eql t x y yt).operands.toList.all fun x=>gF (ρ x))=true:=by simp[Op.operands,hx,hy,gF,noA0]
 simp only[h1,cond_true];have h2:aB P (execOp ρ ⟨d,.binOp .eql t x y yt,ty,pos,af,gd⟩)=some (.value (.bool (a==b))):=by rw[←hrun a b];unfold execOp dR;simp only[hx,hy]
 rw[h2];rfl
end
end Go.R
end
noncomputable section
namespace Go.R
open Go.RowKit
def KX(ex:FuncId):bN:=fun f args _=>match args with
 | []=>bif Nat.beq f ex then some (.bool true) else none
 |_=>none
end Go.R
end
noncomputable section
namespace Go.R
abbrev Fz:=Nat->Option AObj
abbrev Fp:=List (Nat×AObj)
def Fz.le(F F':Fz):Prop:= ∀b o,F b=some o->F' b=some o
theorem Fz.le_refl(F:Fz):F.le F:=fun _ _ h=>h
theorem Fz.le_trans{A B C:Fz}(h:A.le B)(k:B.le C):A.le C:=fun b o x=>k b o (h b o x)
def Fz.add(F:Fz)(b:Nat)(o:AObj):Fz:=fun j=>bif Nat.beq b j then some o else F j
def Fz.addL(F:Fz):Fp->Fz
 | []=>F
 |(b,o)::p=>(F.addL p).add b o
abbrev in64(n:Int):Prop:= -9223372036854775808<=n/\n<9223372036854775808
structure Base where
 n0:Nat
 W:List Nat
 lg:List Nat
def Base.of(H:Heap)(W:List Nat):Base:=⟨H.next,W,H.log⟩
structure HS(B:Base)(F:Fz)(H:Heap)(L R:List Fp):Prop where
 fz: ∀b o,F b=some o->H.get b=some o/\b<H.next
 own: ∀p,p∈L\/p∈R->∀b o,(b,o)∈p->H.get b=some o/\b<H.next/\F b=none
 nd:((L++R).flatten.map Prod.fst).Nodup
 n0:B.n0<=H.next
 log: ∀b,b∈H.log->b∈B.lg\/B.n0<=b\/b∈B.W
 mine: ∀p,p∈L->∀b o,(b,o)∈p->B.n0<=b\/b∈B.W
theorem eM{α:Type}: ∀(L:List (List α)) (i:Nat) (p:List α),L[i]?=some p->∃A C,L=A++p::C/\∀q,L.set i q=A++q::C
 | [],_,_,h=>by simp at h
 |x::L,0,p,h=>by simp at h;subst h;exact⟨[],L,rfl,fun _=>rfl⟩
 |x::L,i+1,p,h=>by obtain⟨A,C,h1,h2⟩:=eM L i p (by simpa using h);exact⟨x::A,C,by rw[h1];rfl,fun q=>by rw[a1U,h2];rfl⟩
theorem gV{α:Type}(L:List (List α))(i:Nat)(p q:List α)(h:L[i]?=some p): ∃A C,L=A++p::C/\L.set i q=A++q::C:=by obtain⟨A,C,h1,h2⟩:=eM L i p h;exact⟨A,C,h1,h2 q⟩
section
variable {B:Base} {F F':Fz} {H H':Heap} {L R:List Fp}
theorem HS.relog(h:HS B F H L R){l:List Nat}(hl: ∀b,b∈l->b∈B.lg\/B.n0<=b\/b∈B.W):HS B F {H with log:=l} L R:=⟨h.fz,h.own,h.nd,h.n0,hl,h.mine⟩
theorem HS.log0(h:HS B F H L R):HS B F {H with log:=[]} L R:=h.relog fun b hb=>by simp at hb
theorem HS.turn(h:HS B F H L R){i:Nat}{p q:Fp}(hi:L[i]?=some p)(hn:H.next<=H'.next)
  (hget: ∀b,b<H.next->(∀o,(b,o)∉p)->H'.get b=H.get b)
  (hq: ∀b o,(b,o)∈q->H'.get b=some o/\b<H'.next/\(H.next<=b\/∃o',(b,o')∈p)) (hnd:(q.map Prod.fst).Nodup)
  (hlog: ∀b,b∈H'.log->b∈H.log\/H.next<=b\/∃o,(b,o)∈p):HS B F H' (L.set i q) R:=by
 obtain⟨A,C,e1,e2⟩:=gV L i p q hi
 have hpL:p∈L:=a0k hi
 have hnodup:=h.nd
 rw[e1]at hnodup
 have hmem: ∀x,x∈L.set i q\/x∈R->x=q\/((x∈L\/x∈R)/\∀b o o',(b,o)∈x->(b,o')∉p):=by
  intro x hx;have key: ∀x,x∈A\/x∈C\/x∈R->∀b o o',(b,o)∈x->(b,o')∉p:=by
   intro x hx b o o' hb hb';simp only[a0l,a0P,a0M,a0L,a0Y,a1h,a08]at hnodup;have hp':b∈p.map Prod.fst:=a0r.2 ⟨_,hb',rfl⟩;have hx':b∈x.map Prod.fst:=a0r.2 ⟨_,hb,rfl⟩;rcases hx with hx|hx|hx
   ·have:b∈A.flatten.map Prod.fst:=a0r.2 ⟨(b,o),a0N.2 ⟨x,hx,hb⟩,rfl⟩;exact hnodup.2.2 b this b (.inl hp') rfl
   ·have:b∈C.flatten.map Prod.fst:=a0r.2 ⟨(b,o),a0N.2 ⟨x,hx,hb⟩,rfl⟩;exact hnodup.2.1.2.2 b hp' b (.inl this) rfl
   have:b∈R.flatten.map Prod.fst:=a0r.2 ⟨(b,o),a0N.2 ⟨x,hx,hb⟩,rfl⟩;exact hnodup.2.1.2.2 b hp' b (.inr this) rfl
  rw[e2]at hx;rcases hx with hx|hx
  ·rcases a08.1 hx with hx|hx
   ·exact .inr ⟨.inl (by rw[e1];exact a08.2 (.inl hx)),key x (.inl hx)⟩
   rcases a0n.1 hx with rfl|hx
   ·exact .inl rfl
   exact .inr ⟨.inl (by rw[e1];exact a08.2 (.inr (a0g _ hx))),key x (.inr (.inl hx))⟩
  exact .inr ⟨.inr hx,key x (.inr (.inr hx))⟩
 have hFp: ∀b o,(b,o)∈p->F b=none/\b<H.next:=fun b o hb=>⟨(h.own p (.inl hpL) b o hb).2.2,(h.own p (.inl hpL) b o hb).2.1⟩
 refine⟨fun b o hb=>?_,fun x hx b o hb=>?_,?_,a0c h.n0 hn,fun b hb=>?_,fun x hx b o hb=>?_⟩
 ·obtain⟨h1,h2⟩:=h.fz b o hb;refine⟨?_,a0V h2 hn⟩;rw[hget b h2 fun o' ho'=>by rw[(hFp b o' ho').1]at hb;cases hb];exact h1
 ·rcases hmem x hx with rfl|⟨hx',hne⟩
  ·obtain⟨h1,h2,h3⟩:=hq b o hb;refine⟨h1,h2,?_⟩;rcases h3 with h3|⟨o',ho'⟩
   ·cases hf:F b with
    |none=>rfl
    |some z=>have:=(h.fz b z hf).2;omega
   exact(hFp b o' ho').1
  obtain⟨h1,h2,h3⟩:=h.own x hx' b o hb;exact⟨by rw[hget b h2 fun o'=>hne b o o' hb];exact h1,a0V h2 hn,h3⟩
 ·rw[e2];have hlt: ∀x,x∈A\/x∈C\/x∈R->∀b,b∈x.map Prod.fst->b<H.next/\∀o',(b,o')∉p:=by
   intro x hx b hb;obtain⟨⟨b',o⟩,hb',rfl⟩:=a0r.1 hb;have hx2:x∈L.set i q\/x∈R:=by
    rw[e2];rcases hx with hx|hx|hx
    ·exact .inl (a08.2 (.inl hx))
    ·exact .inl (a08.2 (.inr (a0g _ hx)))
    exact .inr hx
   have hxL:x∈L\/x∈R:=by
    rw[e1];rcases hx with hx|hx|hx
    ·exact .inl (a08.2 (.inl hx))
    ·exact .inl (a08.2 (.inr (a0g _ hx)))
    exact .inr hx
   refine⟨(h.own x hxL b' o hb').2.1,fun o' ho'=>?_⟩;have hnd2:=hnodup;simp only[a0l,a0P,a0M,a0L,a0Y,a1h,a08]at hnd2;have hp':b'∈p.map Prod.fst:=a0r.2 ⟨_,ho',rfl⟩;rcases hx with hx|hx|hx
   ·exact hnd2.2.2 b' (a0r.2 ⟨(b',o),a0N.2 ⟨x,hx,hb'⟩,rfl⟩) b' (.inl hp') rfl
   ·exact hnd2.2.1.2.2 b' hp' b' (.inl (a0r.2 ⟨(b',o),a0N.2 ⟨x,hx,hb'⟩,rfl⟩)) rfl
   exact hnd2.2.1.2.2 b' hp' b' (.inr (a0r.2 ⟨(b',o),a0N.2 ⟨x,hx,hb'⟩,rfl⟩)) rfl
  have hfl: ∀(X:List Fp) b,b∈X.flatten.map Prod.fst->∃x,x∈X/\b∈x.map Prod.fst:=by intro X b hb;obtain⟨y,hy,rfl⟩:=a0r.1 hb;obtain⟨x,hx,hyx⟩:=a0N.1 hy;exact⟨x,hx,a0r.2 ⟨y,hyx,rfl⟩⟩
  have hqf: ∀b,b∈q.map Prod.fst->H.next<=b\/∃o',(b,o')∈p:=by intro b hb;obtain⟨⟨b',o⟩,hb',rfl⟩:=a0r.1 hb;exact(hq b' o hb').2.2
  simp only[a0l,a0P,a0M,a0L,a0Y,a1h,a08]at hnodup⊢;obtain⟨n1,⟨n2,⟨n3,n4,n5⟩,n6⟩,n7⟩:=hnodup;refine⟨n1,⟨hnd,⟨n3,n4,n5⟩,fun a ha b hb hab=>?_⟩,fun a ha b hb hab=>?_⟩
  ·subst hab;have hx: ∃x,(x∈A\/x∈C\/x∈R)/\a∈x.map Prod.fst:=by
    rcases hb with hb|hb
    ·obtain⟨x,hx,h1⟩:=hfl C a hb;exact⟨x,.inr (.inl hx),h1⟩
    obtain⟨x,hx,h1⟩:=hfl R a hb;exact⟨x,.inr (.inr hx),h1⟩
   obtain⟨x,hx,h1⟩:=hx;obtain⟨h2,h3⟩:=hlt x hx a h1;rcases hqf a ha with h4|⟨o',h4⟩
   ·omega
   exact h3 o' h4
  subst hab;rcases hb with hb|hb
  ·obtain⟨x,hx,h1⟩:=hfl A a ha;obtain⟨h2,h3⟩:=hlt x (.inl hx) a h1;rcases hqf a hb with h4|⟨o',h4⟩
   ·omega
   exact h3 o' h4
  exact n7 a ha a (.inr hb) rfl
 ·rcases hlog b hb with h1|h1|⟨o,h1⟩
  ·exact h.log b h1
  ·exact .inr (.inl (a0c h.n0 h1))
  exact .inr (h.mine p hpL b o h1)
 have hx2:=hmem x (.inl hx)
 rcases hx2 with rfl|⟨_,_⟩
 ·rcases (hq b o hb).2.2 with h3|⟨o',h3⟩
  ·exact .inl (a0c h.n0 h3)
  exact h.mine p hpL b o' h3
 rw[e2]at hx
 rcases a08.1 hx with hx|hx
 ·exact h.mine x (by rw[e1];exact a08.2 (.inl hx)) b o hb
 rcases a0n.1 hx with rfl|hx
 ·rcases (hq b o hb).2.2 with h3|⟨o',h3⟩
  ·exact .inl (a0c h.n0 h3)
  exact h.mine p hpL b o' h3
 exact h.mine x (by rw[e1];exact a08.2 (.inr (a0g _ hx))) b o hb
theorem HS.cons(h:HS B F H L R):HS B F H ([]::L) R:=
 ⟨h.fz,fun p hp b o hb=>by
  rcases hp with hp|hp
  ·rcases a0n.1 hp with rfl|hp
   ·simp at hb
   exact h.own p (.inl hp) b o hb
  ·exact h.own p (.inr hp) b o hb,by simpa using h.nd,h.n0,h.log,fun p hp b o hb=>by
  rcases a0n.1 hp with rfl|hp
  ·simp at hb
  exact h.mine p hp b o hb⟩
theorem HS.snoc(h:HS B F H L R):HS B F H (L++[[]]) R:=
 ⟨h.fz,fun p hp b o hb=>by
  rcases hp with hp|hp
  ·rcases a08.1 hp with hp|hp
   ·exact h.own p (.inl hp) b o hb
   simp at hp;subst hp;simp at hb
  ·exact h.own p (.inr hp) b o hb,by simpa using h.nd,h.n0,h.log,fun p hp b o hb=>by
  rcases a08.1 hp with hp|hp
  ·exact h.mine p hp b o hb
  simp at hp;subst hp;simp at hb⟩
theorem HS.push(h:HS B F H L R)(o:AObj):HS B F (H.push o) (L++[[(H.next,o)]]) R:=by
 have h1:=(h.snoc).turn (H':=H.push o) (i:=L.length) (p:=[]) (q:=[(H.next,o)]) (by simp) (by simp)
  (fun b hb _=>Heap.get_push_ne _ _ (by omega)) (fun b o' hb=>by
   simp at hb;obtain⟨rfl,rfl⟩:=hb;exact⟨Heap.get_push_same _ _,by simp,.inl (a09 _)⟩) (by simp) (fun b hb=> .inl (by simpa using hb))
 simpa using h1
theorem HS.put(h:HS B F H L R){i b:Nat}{o o':AObj}(hi:L[i]?=some [(b,o)]):HS B F (H.put b o') (L.set i [(b,o')]) R:=
 h.turn hi (by simp) (fun c _ hne=>Heap.get_put_ne _ _ fun e=>hne o (by simp[e])) (fun c o2 hb=>by
  simp at hb;obtain⟨rfl,rfl⟩:=hb;have:=(h.own _ (.inl (a0k hi)) c o (by simp)).2.1;exact⟨Heap.get_put_same _ _ _,by simpa using this,.inr ⟨o,by simp⟩⟩) (by simp) (fun c hc=>by
  rw[Heap.log_put]at hc;rcases a0n.1 hc with rfl|hc
  ·exact .inr (.inr ⟨o,by simp⟩)
  exact .inl hc)
theorem HS.get(h:HS B F H L R){i b:Nat}{p:Fp}{o:AObj}(hi:L[i]?=some p)(hb:(b,o)∈p):H.get b=some o:=(h.own p (.inl (a0k hi)) b o hb).1
theorem HS.drop(h:HS B F H L R){i:Nat}{p:Fp}(hi:L[i]?=some p):HS B F H (L.set i []) R:=
 h.turn hi (a09 _) (fun _ _ _=>rfl) (fun b o hb=>by simp at hb) (by simp) (fun b hb=> .inl hb)
theorem addL_get{p:Fp}: ∀{b:Nat} {o:AObj},(F.addL p) b=some o->F b=some o\/(b,o)∈p:=by
 induction p with
 |nil=>intro b o h;exact .inl h
 |cons x p ih=>
  obtain⟨b0,o0⟩:=x
  intro b o h
  simp only[Fz.addL,Fz.add]at h
  cases hb:Nat.beq b0 b with
  |true=>
   rw[hb]at h;simp only[cond_true,a00]at h;subst h
   have:=a07 hb;subst this
   exact .inr (by simp)
  |false=>
   rw[hb]at h
   rcases ih h with h1|h1
   ·exact .inl h1
   exact .inr (a0g _ h1)
theorem addL_of{p:Fp}: ∀{b:Nat} {o:AObj},(p.map Prod.fst).Nodup->(b,o)∈p->(F.addL p) b=some o:=by
 induction p with
 |nil=>intro b o _ h;simp at h
 |cons x p ih=>
  obtain⟨b0,o0⟩:=x
  intro b o hn h
  simp only[List.map_cons,List.nodup_cons]at hn
  simp only[Fz.addL,Fz.add]
  rcases a0n.1 h with e|h
  ·injection e with e1 e2;subst e1 e2;rw[a0Z];rfl
  have hne:Nat.beq b0 b=false:=by
   cases hb:Nat.beq b0 b with
   |false=>rfl
   |true=>have:=a07 hb;subst this;exact absurd (a0r.2 ⟨_,h,rfl⟩) hn.1
  rw[hne];exact ih hn.2 h
theorem addL_le{p:Fp}(h: ∀b o,(b,o)∈p->F b=none):F.le (F.addL p):=by
 induction p with
 |nil=>exact F.le_refl
 |cons x p ih=>
  obtain⟨b0,o0⟩:=x
  intro b o hb
  have h1:=ih (fun b o hm=>h b o (a0g _ hm)) b o hb
  simp only[Fz.addL,Fz.add]
  cases hq:Nat.beq b0 b with
  |false=>exact h1
  |true=>
   have:=a07 hq;subst this
   rw[h b0 o0 (by simp)]at hb;cases hb
theorem HS.nodup_of(h:HS B F H L R){p:Fp}(hp:p∈L):(p.map Prod.fst).Nodup:=by have:=h.nd;obtain⟨A,C,rfl⟩:=List.append_of_mem hp;simp only[a0l,a0P,a0M,a0L,a0Y,a1h]at this;exact this.2.1.1
theorem HS.freeze(h:HS B F H L R){i:Nat}{p:Fp}(hi:L[i]?=some p): ∃F',F.le F'/\HS B F' H (L.set i []) R/\∀b o,(b,o)∈p->F' b=some o:=by
 have hpL:p∈L:=a0k hi;have hle:=addL_le (F:=F) (p:=p) fun b o hb=>(h.own p (.inl hpL) b o hb).2.2
 have hd:=h.drop hi;have hnd:=h.nodup_of hpL;refine⟨F.addL p,hle,⟨fun b o hb=>?_,fun x hx b o hb=>?_,hd.nd,hd.n0,hd.log,hd.mine⟩,fun b o hb=>addL_of hnd hb⟩
 ·rcases addL_get hb with h1|h1
  ·exact h.fz b o h1
  have:=h.own p (.inl hpL) b o h1;exact⟨this.1,this.2.1⟩
 obtain⟨h1,h2,h3⟩:=hd.own x hx b o hb;refine⟨h1,h2,?_⟩;cases hq:F.addL p b with
 |none=>rfl
 |some z=>
  exfalso
  rcases addL_get hq with h4|h4
  ·rw[h3]at h4;cases h4
  ·--disjoint
   obtain⟨A,C,e1,e2⟩:=gV L i p [] hi;have hn:=h.nd;rw[e1]at hn;simp only[a0l,a0P,a0M,a0L,a0Y,a1h,a08]at hn;have hp':b∈p.map Prod.fst:=a0r.2 ⟨_,h4,rfl⟩;rcases hx with hx|hx
   ·rw[e2]at hx;rcases a08.1 hx with hx|hx
    ·exact hn.2.2 b (a0r.2 ⟨(b,o),a0N.2 ⟨x,hx,hb⟩,rfl⟩) b (.inl hp') rfl
    rcases a0n.1 hx with rfl|hx
    ·simp at hb
    exact hn.2.1.2.2 b hp' b (.inl (a0r.2 ⟨(b,o),a0N.2 ⟨x,hx,hb⟩,rfl⟩)) rfl
   exact hn.2.1.2.2 b hp' b (.inr (a0r.2 ⟨(b,o),a0N.2 ⟨x,hx,hb⟩,rfl⟩)) rfl
theorem HS.call(h:HS B F H L R):HS (.of H []) F H [] (L++R):=
 ⟨h.fz,fun p hp b o hb=>by
  rcases hp with hp|hp
  ·simp at hp
  exact h.own p (a08.1 hp) b o hb,by simpa using h.nd,a09 _,fun b hb=> .inl hb,fun p hp=>by simp at hp⟩
theorem HS.back{M:List Fp}{H0:Heap}(h:HS B F H L R)(hH:H0=H)(k:HS (.of H0 []) F' H' M (L++R)):HS B F' H' (L++M) R:=by
 subst hH;refine⟨k.fz,fun p hp b o hb=>k.own p ?_ b o hb,?_,a0c h.n0 k.n0,fun b hb=>?_,fun p hp b o hb=>?_⟩
 ·rcases hp with hp|hp
  ·rcases a08.1 hp with hp|hp
   ·exact .inr (a08.2 (.inl hp))
   exact .inl hp
  exact .inr (a08.2 (.inr hp))
 ·have:=k.nd;have hperm:((L++M++R).flatten.map Prod.fst).Perm ((M++(L++R)).flatten.map Prod.fst):=by simp only[a0M,a0Y,a0l];exact a12 _ _ _
  exact hperm.nodup_iff.2 this
 ·rcases k.log b hb with h1|h1|h1
  ·exact h.log b h1
  ·exact .inr (.inl (a0c h.n0 h1))
  simp[Base.of]at h1
 rcases a08.1 hp with hp|hp
 ·exact h.mine p hp b o hb
 rcases k.mine p hp b o hb with h1|h1
 ·exact .inl (a0c h.n0 h1)
 simp[Base.of]at h1
theorem HS.callOwn(h:HS B F H L R){i:Nat}{p:Fp}(hi:L[i]?=some p):HS (.of H (p.map Prod.fst)) F H [p] (L.set i []++R):=by
 obtain⟨A,C,e1,e2⟩:=gV L i p [] hi;have hpL:p∈L:=a0k hi;refine⟨h.fz,fun x hx b o hb=>?_,?_,a09 _,fun b hb=> .inl hb,fun x hx b o hb=>?_⟩
 ·rcases hx with hx|hx
  ·simp at hx;subst hx;exact h.own x (.inl hpL) b o hb
  rw[e2]at hx;simp only[a0l,a0P,a08,a0n]at hx;rcases hx with hx|rfl|hx|hx
  ·exact h.own x (.inl (by rw[e1];simp[hx])) b o hb
  ·simp at hb
  ·exact h.own x (.inl (by rw[e1];simp[hx])) b o hb
  exact h.own x (.inr hx) b o hb
 ·have:=h.nd;rw[e1]at this;rw[e2];have hperm:(([p]++(A++[]::C++R)).flatten.map Prod.fst).Perm ((A++p::C++R).flatten.map Prod.fst):=by simp only[a0M,a0L,List.flatten_nil,a0E,a11,a0Y,a0l];exact a12 _ _ _
  exact hperm.nodup_iff.2 this
 simp at hx;subst hx;exact .inr (a0r.2 ⟨_,hb,rfl⟩)
theorem HS.backOwn{H0:Heap}{W:List Nat}{p q:Fp}{M:List Fp}(h:HS B F H L R){i:Nat}(hi:L[i]?=some p)(hH:H0=H)(hW: ∀b,b∈W->b∈p.map Prod.fst)(k:HS (.of H0 W) F' H' (q::M) (L.set i []++R)):HS B F' H' (L.set i q++M) R:=by
 subst hH;obtain⟨A,C,e1,e2⟩:=eM L i p hi;have hpL:p∈L:=a0k hi;have hWm: ∀b,b∈W->B.n0<=b\/b∈B.W:=fun b hb=>by obtain⟨⟨b',o⟩,hb',rfl⟩:=a0r.1 (hW b hb);exact h.mine p hpL b' o hb'
 have hin: ∀x,x∈A++q::C++M\/x∈R->x∈q::M\/x∈A++[]::C++R:=by
  intro x hx;simp only[a0l,a0P,a08,a0n]at hx⊢;rcases hx with(hx|hx|hx|hx)|hx
  ·exact .inr (.inl hx)
  ·exact .inl (.inl hx)
  ·exact .inr (.inr (.inr (.inl hx)))
  ·exact .inl (.inr hx)
  exact .inr (.inr (.inr (.inr hx)))
 have hmk: ∀x,x∈q::M->∀b o,(b,o)∈x->B.n0<=b\/b∈B.W:=fun x hx b o hb=>by
  rcases k.mine x hx b o hb with h1|h1
  ·exact .inl (a0c h.n0 h1)
  exact hWm b h1
 rw[e2]at k⊢;refine⟨k.fz,fun x hx b o hb=>k.own x (hin x hx) b o hb,?_,a0c h.n0 k.n0,fun b hb=>?_,fun x hx b o hb=>?_⟩
 ·have:=k.nd;have hperm:((A++q::C++M++R).flatten.map Prod.fst).Perm ((q::M++(A++[]::C++R)).flatten.map Prod.fst):=by
   simp only[a0M,a0L,a11,a0Y,a0l,a0P];have h1: ∀(a c m q r:List Nat),(a++(q++(c++(m++r)))).Perm (q++(m++(a++(c++r)))):=by intro a c m q r;refine List.Perm.trans (a12 a q _) (a0W q ?_);refine List.Perm.trans (a0W a (a12 c m r)) ?_;exact a12 a m _
   exact h1 _ _ _ _ _
  exact hperm.nodup_iff.2 this
 ·rcases k.log b hb with h1|h1|h1
  ·exact h.log b h1
  ·exact .inr (.inl (a0c h.n0 h1))
  exact .inr (hWm b h1)
 simp only[a0l,a0P,a08,a0n]at hx;rcases hx with hx|rfl|hx|hx
 ·exact h.mine x (by rw[e1];simp[hx]) b o hb
 ·exact hmk x (by simp) b o hb
 ·exact h.mine x (by rw[e1];simp[hx]) b o hb
 exact hmk x (by simp[hx]) b o hb
end
end Go.R
end
noncomputable section
namespace Go.R
class Rp(α:Type) where
 sz:Nat
 rep:Fz->List Value->α->Prop
 len: ∀{F:Fz} {cs:List Value} {x:α},rep F cs x->cs.length=sz
 one: ∀{F:Fz} {cs:List Value} {x:α},rep F cs x->allL Value.oneCell' cs=true
 mono: ∀{F F':Fz} {cs:List Value} {x:α},F.le F'->rep F cs x->rep F' cs x
def RL{α:Type} [Rp α](F:Fz):List Value->List α->Prop
 |cs,[]=>cs=[]
 |cs,x::l=> ∃c r,cs=c++r/\Rp.rep F c x/\RL F r l
theorem allL_app{p:Value->Bool}(a b:List Value):allL p (a++b)=(allL p a&&allL p b):=by simp only[lS,a2d]
section
variable {α:Type} [Rp α] {F F':Fz}
theorem RL.length: ∀{l:List α} {cs:List Value},RL F cs l->cs.length=l.length*Rp.sz α
 | [],cs,h=>by simp only[RL]at h;subst h;simp
 |x::l,cs,h=>by obtain⟨c,r,rfl,h1,h2⟩:=h;rw[a05,Rp.len h1,RL.length h2,a0a,a1l,Nat.add_comm]
theorem RL.mono(hF:F.le F'): ∀{l:List α} {cs:List Value},RL F cs l->RL F' cs l
 | [],_,h=>h
 |_::_,_,⟨c,r,e,h1,h2⟩=>⟨c,r,e,Rp.mono hF h1,RL.mono hF h2⟩
theorem RL.one: ∀{l:List α} {cs:List Value},RL F cs l->allL Value.oneCell' cs=true
 | [],cs,h=>by simp only[RL]at h;subst h;rfl
 |x::l,cs,h=>by obtain⟨c,r,rfl,h1,h2⟩:=h;rw[allL_app,Rp.one h1,RL.one h2];rfl
theorem RL.append: ∀{l m:List α} {cs ds:List Value},RL F cs l->RL F ds m->RL F (cs++ds) (l++m)
 | [],_,cs,_,h,k=>by simp only[RL]at h;subst h;exact k
 |_::_,_,_,_,⟨c,r,e,h1,h2⟩,k=>⟨c,_,by rw[e,a0l],h1,RL.append h2 k⟩
theorem RL.take: ∀{l:List α} {cs:List Value} (n:Nat),RL F cs l->RL F (cs.take (n*Rp.sz α)) (l.take n)
 |l,cs,0,h=>by simp[RL]
 | [],cs,n+1,h=>by simp only[RL]at h;subst h;simp[RL]
 |x::l,cs,n+1,h=>by
  obtain⟨c,r,rfl,h1,h2⟩:=h;refine⟨c,r.take (n*Rp.sz α),?_,h1,RL.take n h2⟩;rw[a25,Rp.len h1];have e1:List.take ((n+1)*Rp.sz α) c=c:=a0h (by rw[Rp.len h1,a1l];omega);have e2:(n+1)*Rp.sz α-Rp.sz α=n*Rp.sz α:=by rw[a1l];omega
  rw[e1,e2]
theorem RL.drop: ∀{l:List α} {cs:List Value} (n:Nat),RL F cs l->RL F (cs.drop (n*Rp.sz α)) (l.drop n)
 |l,cs,0,h=>by simpa using h
 | [],cs,n+1,h=>by simp only[RL]at h;subst h;simp[RL]
 |x::l,cs,n+1,h=>by
  obtain⟨c,r,rfl,h1,h2⟩:=h;have:=RL.drop n h2;rw[List.drop_append,Rp.len h1];have e1:List.drop ((n+1)*Rp.sz α) c=[]:=a1Y (by rw[Rp.len h1,a1l];omega);have e2:(n+1)*Rp.sz α-Rp.sz α=n*Rp.sz α:=by rw[a1l];omega
  rw[e1,e2];exact this
theorem RL.head{l:List α}{x:α}{cs:List Value}(h:RL F cs (x::l)):Rp.rep F (cs.take (Rp.sz α)) x:=by obtain⟨c,r,rfl,h1,_⟩:=h;rw[a25,Rp.len h1,a1Q,List.take_zero,a0E,a0h (by rw[Rp.len h1];omega)];exact h1
theorem RL.at{l:List α}{cs:List Value}{j:Nat}{x:α}(h:RL F cs l)(hx:l[j]?=some x):Rp.rep F ((cs.drop (j*Rp.sz α)).take (Rp.sz α)) x:=by
 have h1:=h.drop j;have hj:=(a0u.1 hx).1;have h2:l.drop j=x::l.drop (j+1):=by rw[a0T hj];congr 1;exact(a0u.1 hx).2
 rw[h2]at h1;exact h1.head
theorem splice_eq(cs vs:List Value)(o:Nat)(h:o+vs.length<=cs.length):bp cs o vs=cs.take o++vs++cs.drop (o+vs.length):=by
 apply a1A;intro i;rw[bA cs o vs i h];simp only[a0l,a26,a0q,a0y,a0J];have e:min o cs.length=o:=by omega
 rw[e];by_cases h1:i<o
 ·rw[if_pos h1,if_neg (by omega)];simp[h1]
 rw[if_neg h1];by_cases h2:i<o+vs.length
 ·rw[if_pos (by omega),if_pos (by omega)]
 rw[if_neg (by omega),if_neg (by omega)];congr 1;omega
theorem RL.set{l:List α}{cs c:List Value}{j:Nat}{x:α}(h:RL F cs l)(hj:j<l.length)(hc:Rp.rep F c x):RL F (bp cs (j*Rp.sz α) c) (l.set j x):=by
 have hl:=h.length;have hb:j*Rp.sz α+Rp.sz α<=cs.length:=by rw[hl,←a1l];exact a0z _ hj
 rw[splice_eq _ _ _ (by rw[Rp.len hc];exact hb),List.set_eq_take_append_cons_drop,if_pos hj,Rp.len hc,a0l];refine(h.take j).append ?_;refine⟨c,_,rfl,hc,?_⟩;have:=h.drop (j+1);rw[a1l]at this;exact this
theorem RL.replicate{z:List Value}{x:α}(h:Rp.rep F z x): ∀n,RL F (cz n z) (List.replicate n x)
 |0=>rfl
 |n+1=>⟨z,cz n z,rfl,h,RL.replicate h n⟩
def Sl(F:Fz)(o:AObj)(off k:Nat)(l:List α):Prop:= ∃cs opn ro,o= .cells cs opn ro/\(ro=false->off+k*Rp.sz α<=cs.length)/\l.length<=k/\RL F ((cs.drop off).take (l.length*Rp.sz α)) l/\(opn=none\/opn=some (Rp.sz α))
def Sv(F:Fz)(get:Nat->Option AObj)(v:Value)(l:List α):Prop:=
 (v= .slice none 0 0/\l=[])\/∃b off k o,v= .slice (some ⟨b,off,none⟩) l.length k/\get b=some o/\Sl F o off k l
def SR(F:Fz)(v:Value)(l:List α):Prop:=Sv F F v l
def OS(F:Fz)(v:Value)(l:List α)(p:Fp):Prop:=
 (v= .slice none 0 0/\l=[]/\p=[])\/∃b off k cs opn,v= .slice (some ⟨b,off,none⟩) l.length k/\p=[(b,.cells cs opn false)]/\Sl F (.cells cs opn false) off k l
theorem Sl.mono(hF:F.le F'){o:AObj}{off k:Nat}{l:List α}(h:Sl F o off k l):Sl F' o off k l:=by obtain⟨cs,opn,ro,h1,h2,h3,h4,h5⟩:=h;exact⟨cs,opn,ro,h1,h2,h3,h4.mono hF,h5⟩
theorem SR.mono(hF:F.le F'){v:Value}{l:List α}(h:SR F v l):SR F' v l:=by
 rcases h with h|⟨b,off,k,o,h1,h2,h3⟩
 ·exact .inl h
 exact .inr ⟨b,off,k,o,h1,hF _ _ h2,h3.mono hF⟩
theorem OS.mono(hF:F.le F'){v:Value}{l:List α}{p:Fp}(h:OS F v l p):OS F' v l p:=by
 rcases h with h|⟨b,off,k,cs,opn,h1,h2,h3⟩
 ·exact .inl h
 exact .inr ⟨b,off,k,cs,opn,h1,h2,h3.mono hF⟩
theorem SR.nil:SR F (.slice none 0 0) ([]:List α):= .inl ⟨rfl,rfl⟩
theorem OS.nil:OS F (.slice none 0 0) ([]:List α) []:= .inl ⟨rfl,rfl,rfl⟩
variable {B:Base} {H:Heap} {L R:List Fp} {v:Value} {l:List α} {p:Fp}
theorem SR.sv(h:SR F v l)(hs:HS B F H L R):Sv F H.get v l:=by
 rcases h with h|⟨b,off,k,o,h1,h2,h3⟩
 ·exact .inl h
 exact .inr ⟨b,off,k,o,h1,(hs.fz b o h2).1,h3⟩
theorem OS.sv(h:OS F v l p)(hs:HS B F H L R){i:Nat}(hi:L[i]?=some p):Sv F H.get v l:=by
 rcases h with⟨h1,h2,_⟩|⟨b,off,k,cs,opn,h1,h2,h3⟩
 ·exact .inl ⟨h1,h2⟩
 exact .inr ⟨b,off,k,_,h1,hs.get hi (by rw[h2];simp),h3⟩
def sB:Value->Nat
 | .slice (some a) _ _=>a.block
 |_=>0
def sO:Value->Nat
 | .slice (some a) _ _=>a.off
 |_=>0
def HC(get:Nat->Option AObj)(b o:Nat)(cs:List Value):Prop:= ∃all opn ro,get b=some (.cells all opn ro)/\(all.drop o).take cs.length=cs
theorem Sv.at{get:Nat->Option AObj}(h:Sv F get v l){j:Nat}{x:α}(hx:l[j]?=some x): ∃cs,Rp.rep F cs x/\HC get (sB v) (sO v+j*Rp.sz α) cs:=by
 rcases h with⟨_,rfl⟩|⟨b,off,k,o,rfl,h2,cs,opn,ro,rfl,h3,h4,h5,h6⟩
 ·simp at hx
 have hj:=(a0u.1 hx).1;have h7:=h5.at hx;refine⟨_,h7,cs,opn,ro,h2,?_⟩;rw[Rp.len h7];show(cs.drop (off+j*Rp.sz α)).take (Rp.sz α)=(((cs.drop off).take (l.length*Rp.sz α)).drop (j*Rp.sz α)).take (Rp.sz α);rw[a2h,a2i,List.drop_drop];congr 1;have:Rp.sz α<=l.length*Rp.sz α-j*Rp.sz α:=by have:=a0z (Rp.sz α) (show j+1<=l.length from hj);rw[a1l]at this;omega
 omega
theorem HC.get{get:Nat->Option AObj}{b o:Nat}{cs:List Value}(h:HC get b o cs){i:Nat}{v:Value}(hv:cs[i]?=some v): ∃all opn ro,get b=some (.cells all opn ro)/\all[o+i]?=some v:=by
 obtain⟨all,opn,ro,h1,h2⟩:=h;refine⟨all,opn,ro,h1,?_⟩;rw[←h2,a0y]at hv;split at hv
 ·rw[a0J]at hv;exact hv
 cases hv
theorem HC.part{get:Nat->Option AObj}{b o:Nat}{cs:List Value}(h:HC get b o cs){i n:Nat}(hn:i+n<=cs.length): ∃all opn ro,get b=some (.cells all opn ro)/\(all.drop (o+i)).take n=(cs.drop i).take n/\((cs.drop i).take n).length=n:=by
 obtain⟨all,opn,ro,h1,h2⟩:=h;refine⟨all,opn,ro,h1,?_,by rw[a0q,a0H];omega⟩;have h3:(((all.drop o).take cs.length).drop i).take n=(cs.drop i).take n:=by rw[h2]
 rw[a2h,a2i,List.drop_drop]at h3;rw[show min n (cs.length-i)=n by omega]at h3;exact h3
theorem HC.same{get:Nat->Option AObj}{b:Nat}{cs:List Value}{opn:Option Nat}{ro:Bool}(h:get b=some (.cells cs opn ro)):HC get b 0 cs:=⟨cs,opn,ro,h,by simp⟩
instance :Rp Int where
 sz:=1
 rep _ cs n:=cs=[.int .i64 n]/\in64 n
 len:=by rintro F cs x ⟨rfl,_⟩;rfl
 one:=by rintro F cs x ⟨rfl,_⟩;rfl
 mono:=by intro F F' cs x _ h;exact h
instance :Rp Bool where
 sz:=1
 rep _ cs n:=cs=[.bool n]
 len:=by rintro F cs x rfl;rfl
 one:=by rintro F cs x rfl;rfl
 mono:=by intro F F' cs x _ h;exact h
structure Str where
 b:List UInt8
 deriving DecidableEq,Inhabited
instance :Rp Str where
 sz:=1
 rep _ cs s:=cs=[.string ⟨⟨s.b⟩⟩]
 len:=by rintro F cs x rfl;rfl
 one:=by rintro F cs x rfl;rfl
 mono:=by intro F F' cs x _ h;exact h
structure U64 where
 n:Int
 deriving DecidableEq,Inhabited
instance :Rp U64 where
 sz:=1
 rep _ cs s:=cs=[.int .u64 s.n]/\0<=s.n/\s.n<18446744073709551616
 len:=by rintro F cs x ⟨rfl,_⟩;rfl
 one:=by rintro F cs x ⟨rfl,_⟩;rfl
 mono:=by intro F F' cs x _ h;exact h
instance :Rp UInt8 where
 sz:=1
 rep _ cs s:=cs=[.int .u8 s.toNat]
 len:=by rintro F cs x rfl;rfl
 one:=by rintro F cs x rfl;rfl
 mono:=by intro F F' cs x _ h;exact h
theorem Sv.shape{get:Nat->Option AObj}{v:Value}{l:List α}(h:Sv F get v l): ∃a k,v= .slice a l.length k:=by
 rcases h with⟨rfl,rfl⟩|⟨b,off,k,o,rfl,_⟩
 ·exact⟨none,0,rfl⟩
 exact⟨_,k,rfl⟩
theorem OS.shape{v:Value}{l:List α}{p:Fp}(h:OS F v l p): ∃a k,v= .slice a l.length k:=by
 rcases h with⟨rfl,rfl,_⟩|⟨b,off,k,cs,opn,rfl,_⟩
 ·exact⟨none,0,rfl⟩
 exact⟨_,k,rfl⟩
instance :Rp (List α) where
 sz:=1
 rep F cs l:= ∃a k,cs=[.slice a l.length k]/\SR F (.slice a l.length k) l
 len:=by rintro F cs x ⟨a,k,rfl,_⟩;rfl
 one:=by rintro F cs x ⟨a,k,rfl,h⟩;rfl
 mono:=by rintro F F' cs x hF ⟨a,k,rfl,h⟩;exact⟨a,k,rfl,h.mono hF⟩
end
end Go.R
end
noncomputable section
namespace Go.R
section
variable {α:Type} [Rp α] {P:Program} {ρ:Operand->Value} {d:Option Tmp} {ty:TypeId} {pos:String} {af:Array Edge} {gd:Option (Nat×Bool)} {B:Base} {F:Fz} {H:Heap} {L R:List Fp} {v:Value} {l:List α} {p:Fp}
theorem iB{x:Operand}{t e:TypeId}(hx:ρ x=v)(ht:P.underlying t=some (.slice e))(h:Sv F H.get v l):
  AP P ρ ⟨d,.call ⟨.builtin .len, #[x], #[t]⟩,ty,pos,af,gd⟩ H (.val (.int .i64 l.length),H):=by
 refine⟨?_⟩
 obtain⟨a,k,hv⟩:=h.shape
 show ovl (aLen P t (ρ x) H) H=_
 rw[hx,hv]
 unfold aLen
 rw[ht];rfl
theorem ap_lenS{x:Operand}{t:TypeId}{s:List UInt8}(hx:ρ x= .string ⟨⟨s⟩⟩)(ht:P.underlying t=some .string):
  AP P ρ ⟨d,.call ⟨.builtin .len, #[x], #[t]⟩,ty,pos,af,gd⟩ H (.val (.int .i64 s.length),H):=by
 refine⟨?_⟩
 show ovl (aLen P t (ρ x) H) H=_
 rw[hx]
 unfold aLen
 rw[ht]
 show ovl (some (goInt (hP s))) H=_
 rw[bT];rfl
theorem bg{x i:Operand}{t e:TypeId}{ki:IntKind}{j:Int}(hx:ρ x=v)(hi:ρ i= .int ki j)(ht:P.underlying t=some (.slice e))(hz:dw P e=some (Rp.sz α))(h:Sv F H.get v l)(h0:0<=j:=by first|(dsimp only;omega)|omega)(hj:j<l.length:=by first|(dsimp only;omega)|omega):
  AP P ρ ⟨d,.indexAddr t x i,ty,pos,af,gd⟩ H (.val (.pointer (some ⟨sB v,sO v+j.toNat*Rp.sz α,none⟩)),H):=by
 rcases h with⟨_,rfl⟩|⟨b,off,k,o,rfl,h2,cs,opn,ro,rfl,h3,h4,h5,h6⟩
 ·simp at hj;omega
 exact iR hx hi ht hz h0 hj h4
theorem bG{t:TypeId}{x:Operand}{b o o' i:Nat}{cs:List Value}{w:Value}(hx:ρ x= .pointer (some ⟨b,o',none⟩))(ha:gc P t=some false)(hc:HC H.get b o cs)(ho:o'=o+i)(hv:cs[i]?=some w):
  AP P ρ ⟨d,.load t x,ty,pos,af,gd⟩ H (.val w,H):=by
 subst ho
 obtain⟨all,opn,ro,h1,h2⟩:=hc.get hv
 exact ap_load1 hx ha h1 h2
theorem bU{t:TypeId}{x:Operand}{b o o' i n:Nat}{cs l:List Value}(hx:ρ x= .pointer (some ⟨b,o',none⟩))(ha:gc P t=some true)(hs:dw P t=some n)(hc:HC H.get b o cs)(ho:o'=o+i)(hn:Nat.ble (i+n) cs.length=true)(hl:gI (gY cs i) n=l):
  AP P ρ ⟨d,.load t x,ty,pos,af,gd⟩ H (.val (.agg ⟨l⟩),H):=by
 subst ho
 obtain⟨all,opn,ro,h1,h2,h3⟩:=hc.part (a06 hn)
 rw[ce,ct]at hl
 exact ap_loadN hx ha hs h1 (h2.trans hl) (by rw[←hl];exact h3)
theorem dr{s:TypeId}{x:Operand}{f b o o':Nat}(hx:ρ x= .pointer (some ⟨b,o,none⟩))(h:hN P s (.pointer (some ⟨b,o,none⟩)) f=some (.pointer (some ⟨b,o',none⟩))):
  AP P ρ ⟨d,.fieldAddr s x f,ty,pos,af,gd⟩ H (.val (.pointer (some ⟨b,o',none⟩)),H):=by
 refine⟨?_⟩
 show ovl (hN P s (ρ x) f) H=_
 rw[hx,h];rfl
theorem ap_fv{t:TypeId}{x:Operand}{f:Nat}{u w:Value}(hx:ρ x=u)(h:gE P t u f=some w):AP P ρ ⟨d,.field t x f,ty,pos,af,gd⟩ H (.val w,H):=by refine⟨?_⟩;show ovl (gE P t (ρ x) f) H=_;rw[hx,h];rfl
theorem ap_ex{x:Operand}{i:Nat}{u w:Value}(hx:ρ x=u)(h:fW u i=some w):AP P ρ ⟨d,.extract x i,ty,pos,af,gd⟩ H (.val w,H):=by refine⟨?_⟩;show ovl (fW (ρ x) i) H=_;rw[hx,h];rfl
theorem ap_bld{t:TypeId}{parts:Array (Nat×Operand)}{ps:Array (Nat×Value)}{z:List Value}{w:Value}(hp:parts.map (fun p=>(p.1,ρ p.2))=ps)(hz:du P t=some z)(h:aB P (Instr.build t ps)=some w):
  AP P ρ ⟨d,.build t parts,ty,pos,af,gd⟩ H (.val w,H):=by
 refine⟨?_⟩
 show gr P t (parts.map fun p=>(p.1,ρ p.2)) H=_
 rw[hp]
 unfold gr
 rw[hz]
 show lift P (Instr.build t ps) H=_
 unfold lift
 rw[h]
theorem ap_alloc{e:TypeId}{z:List Value}(hz:du P e=some z):AP P ρ ⟨d,.alloc e,ty,pos,af,gd⟩ H (.val (.pointer (some ⟨H.next,0,none⟩)),H.push (.cells z none false)):=by refine⟨?_⟩;show ee P e H=_;unfold ee;rw[hz];rfl
theorem ap_box{e:TypeId}{x:Operand}{cs:List Value}(hx:(ρ x).cells.toList=cs):AP P ρ ⟨d,.box e x,ty,pos,af,gd⟩ H (.val (.pointer (some ⟨H.next,0,none⟩)),H.push (.cells cs none false)):=by subst hx;exact⟨rfl⟩
theorem gJ{b o:Nat}{cs vs:List Value}{opn:Option Nat}(hg:H.get b=some (.cells cs opn false))(hn:o+vs.length<=cs.length)(h1:allL Value.oneCell' vs=true):H.storeL ⟨b,o,none⟩ vs=some (H.put b (.cells (bp cs o vs) opn false)):=by unfold Heap.storeL;have:Nat.ble (Nat.add o (hP vs)) (hP cs)=true:=a0v (by rw[bT,bT];exact hn);simp only[hg,this,h1,a1j,cond_true]
theorem ap_st{t:TypeId}{a x:Operand}{b o n:Nat}{u:Value}{cl:List Value}{H1:Heap}(ha:ρ a= .pointer (some ⟨b,o,none⟩))(hx:ρ x=u)(hn:dw P t=some n)(hc:u.cells.toList=cl)(hl:Nat.beq cl.length n=true)(hst:H.storeL ⟨b,o,none⟩ cl=some H1):
  AP P ρ ⟨d,.store t a x,ty,pos,af,gd⟩ H (.skip,H1):=by
 refine⟨?_⟩
 show gq P t (ρ a) (ρ x) H=_
 rw[ha,hx]
 unfold gq
 have:u.cells.size=cl.length:=by rw[←hc];simp
 rw[this,hn]
 simp only[hl,cond_true,hc,hst]
 rfl
theorem HS.st(hs:HS B F H L R){i b o:Nat}{cs cl cs':List Value}(hi:L[i]?=some [(b,.cells cs none false)])(hn:Nat.ble (o+cl.length) cs.length=true)(h1:allL Value.oneCell' cl=true)(he:bp cs o cl=cs'):
  ∃H1,H.storeL ⟨b,o,none⟩ cl=some H1/\HS B F H1 (L.set i [(b,.cells cs' none false)]) R:=by
 subst he
 exact⟨_,gJ (hs.get hi (a0b.2 rfl)) (a06 hn) h1,hs.put hi⟩
theorem HS.hc(hs:HS B F H L R){i b:Nat}{cs:List Value}(hi:L[i]?=some [(b,.cells cs none false)]):HC H.get b 0 cs:=HC.same (hs.get hi (a0b.2 rfl))
theorem os_set(h:OS F v l p)(hs:HS B F H L R){i j:Nat}(hi:L[i]?=some p){x x':α}{off:Nat}{cl:List Value}(hx:l[j]?=some x)(h1:allL Value.oneCell' cl=true)
  (hr: ∀cs,Rp.rep F cs x->off+cl.length<=cs.length/\Rp.rep F (bp cs off cl) x'):
  ∃H1 p',H.storeL ⟨sB v,sO v+j*Rp.sz α+off,none⟩ cl=some H1/\OS F v (l.set j x') p'/\HS B F H1 (L.set i p') R/\∀b cs opn,p=[(b,.cells cs opn false)]->∃cs',p'=[(b,.cells cs' opn false)]:=by
 have hj:=(a0u.1 hx).1
 rcases h with⟨_,rfl,_⟩|⟨b,o,k,cs,opn,rfl,rfl,cs1,opn1,ro1,he,h3,h4,h5,h6⟩
 ·simp at hj
 injection he with e1 e2 e3
 subst e1 e2 e3
 replace h3:=h3 rfl
 have hel:=h5.at hx
 have hlen:=h5.length
 have hsz:j*Rp.sz α+Rp.sz α<=l.length*Rp.sz α:=by rw[←a1l];exact a0z _ hj
 have hlk:l.length*Rp.sz α<=k*Rp.sz α:=a0z _ h4
 obtain⟨g1,g2⟩:=hr _ hel
 have g3:=Rp.len hel
 have hb:o+j*Rp.sz α+off+cl.length<=cs.length:=by rw[g3]at g1;omega
 refine⟨_,_,gJ (b:=b) (o:=o+j*Rp.sz α+off) (hs.get hi (a0b.2 rfl)) hb h1,.inr ⟨b,o,k,_,opn,by rw[a0f],rfl,_,_,_,rfl,?_,by rw[a0f];exact h4,?_,h6⟩,hs.put hi,?_⟩
 ·intro _;rw[bY _ _ _ hb];exact h3
 rotate_left
 ·intro b' cs' opn' he;simp only[List.cons.injEq,a03,AObj.cells.injEq,and_true]at he;obtain⟨rfl,rfl,rfl⟩:=he;exact⟨_,rfl⟩
 rw[a0f]
 have key:((bp cs (o+j*Rp.sz α+off) cl).drop o).take (l.length*Rp.sz α)=bp ((cs.drop o).take (l.length*Rp.sz α)) (j*Rp.sz α) (bp ((((cs.drop o).take (l.length*Rp.sz α)).drop (j*Rp.sz α)).take (Rp.sz α)) off cl):=by
  have hA:(bp ((((cs.drop o).take (l.length*Rp.sz α)).drop (j*Rp.sz α)).take (Rp.sz α)) off cl).length=Rp.sz α:=by rw[bY _ _ _ g1,g3]
  have hB:((cs.drop o).take (l.length*Rp.sz α)).length=l.length*Rp.sz α:=hlen;apply a1A;intro q;rw[bA _ _ _ _ (by rw[hA,hB];exact hsz),a0y,a0J,bA _ _ _ _ hb,hA];rw[g3]at g1;by_cases c1:q<l.length*Rp.sz α
  ·rw[if_pos c1];by_cases c2:o+j*Rp.sz α+off<=o+q/\o+q<o+j*Rp.sz α+off+cl.length
   ·rw[if_pos c2,if_pos (by omega),bA _ _ _ _ (by rw[g3];exact g1),if_pos (by omega)];congr 1;omega
   rw[if_neg c2];by_cases c3:j*Rp.sz α<=q/\q<j*Rp.sz α+Rp.sz α
   ·rw[if_pos c3,bA _ _ _ _ (by rw[g3];exact g1),if_neg (by omega),a0y,if_pos (by omega),a0J,a0y,if_pos (by omega),a0J];congr 1;omega
   rw[if_neg c3,a0y,if_pos c1,a0J]
  rw[if_neg c1,if_neg (by omega),a0y,if_neg c1]
 rw[key]
 exact h5.set hj g2
theorem Sv.first{x:Value}{l2:List α}(h:Sv F H.get x l2):lenA x=some l2.length/\∃new,eN H (Rp.sz α) l2.length x=some new/\RL F new l2:=by
 rcases h with⟨rfl,rfl⟩|⟨b,off,k,o,rfl,h2,cs,opn,ro,rfl,h3,h4,h5,h6⟩
 ·exact⟨rfl,[],rfl,rfl⟩
 refine⟨rfl,?_⟩;unfold eN;cases hb:Nat.beq l2.length 0 with
 |true=>
  have:=a07 hb
  have e:l2=[]:=a0s this
  subst e
  exact⟨[],rfl,rfl⟩
 |false=>
  refine⟨_,?_,h5⟩
  simp only[cond_false]
  unfold Heap.loadN
  have hl:=h5.length
  simp only[h2,ce,ct,bT,hl,a0Z,cond_true]
theorem os_append(h:OS F v l p)(hs:HS B F H L R){i:Nat}(hi:L[i]?=some p){x:Value}{l2:List α}{new z:List Value}{types:Array TypeId}{st xt e:TypeId}{xd:TypeDesc}{by_:Nat}
  (h0:types[0]?=some st) (h1:types[1]?=some xt) (hst:P.underlying st=some (.slice e)) (hxt:P.underlying xt=some xd) (hxd: ∀k,xd≠ .int k) (hz:dw P e=some (Rp.sz α)) (hby:fc P e=some by_) (hzz:du P e=some z)
  (hzl:Nat.beq (hP z) (Rp.sz α)=true) (hb4:Nat.ble by_ 4096=true) (hz0:Nat.beq (Rp.sz α) 0=false) (hxl:lenA x=some l2.length) (hf:eN H (Rp.sz α) l2.length x=some new) (hnew:RL F new l2) (hlen:l.length+l2.length<=2147483648):
  ∃a k H1 p',fh P types v x H=some (.slice a (l++l2).length k,H1)/\OS F (.slice a (l++l2).length k) (l++l2) p'/\HS B F H1 (L.set i p') R:=by
 have hsame:L.set i p=L:=by obtain⟨A,C,e1,e2⟩:=eM L i p hi;rw[e2 p,←e1]
 have hone:=hnew.one
 have hnl:=hnew.length
 have hzpos:0<Rp.sz α:=by
  rcases a1F (Rp.sz α) with hq|hq
  ·rw[hq]at hz0;cases hz0
  exact hq
 have hxd': ∀(Y:Option (Value×Heap)),(match xd with| .int _=>none|_=>Y)=Y:=by intro Y;cases xd<;>first|rfl|exact absurd rfl (hxd _)
 unfold fh
 simp only[h0,h1,hst,hxt,hz,hby,hzz,hxl,hf]
 rcases h with⟨rfl,rfl,rfl⟩|⟨b,o,k,cs,opn,rfl,rfl,cs1,opn1,ro1,he,h3,h4,h5,h6⟩
 ·cases hm:Nat.beq l2.length 0 with
  |true=>
   have:l2=[]:=a0s (a07 hm)
   subst this
   exact⟨none,0,H,[],rfl,.nil,by rw[hsame];exact hs⟩
  |false=>
   have hle:Nat.ble l2.length 2147483648=true:=a0v (by simp at hlen;omega)
   simp only[cond_false,hzl,hle,hb4,hz0,a1C,a1j,cond_true]
   refine⟨_,_,_,[(H.next,.cells new (some (Rp.sz α)) false)],rfl,.inr ⟨_,0,_,_,_,rfl,rfl,_,_,_,rfl,?_,by simp,?_,.inr rfl⟩,?_⟩
   ·intro _;show 0+l2.length*Rp.sz α<=new.length;rw[hnl];omega
   ·rw[a15,a11,←hnl,a1d];exact hnew
   refine hs.turn hi (H':=aS H new (some (Rp.sz α))) (by simp[aS]) (fun b hb _=>Heap.get_push_ne _ _ (by omega)) (fun b o hb=>?_) (by simp) (fun b hb=> .inl (by simpa[aS] using hb))
   simp at hb;obtain⟨rfl,rfl⟩:=hb
   exact⟨Heap.get_push_same _ _,by simp[aS],.inl (a09 _)⟩
 injection he with e1 e2 e3
 subst e1 e2 e3
 replace h3:=h3 rfl
 have hg:=hs.get hi (b:=b) (o:= .cells cs opn false) (by simp)
 simp only[hg]
 cases hk:Nat.ble (l.length+l2.length) k with
 |true=>
  have hk':=a06 hk
  simp only[cond_true]
  cases hm:Nat.beq l2.length 0 with
  |true=>
   have:l2=[]:=a0s (a07 hm)
   subst this
   simp only[cond_true,a0E]
   exact⟨_,_,_,_,rfl,.inr ⟨b,o,k,cs,opn,rfl,rfl,_,_,_,rfl,fun _=>h3,h4,h5,h6⟩,by rw[hsame];exact hs⟩
  |false=>
   simp only[cond_false]
   have hkm:(l.length+l2.length)*Rp.sz α<=k*Rp.sz α:=a0z _ hk'
   have hb:o+l.length*Rp.sz α+new.length<=cs.length:=by rw[hnl];rw[a10]at hkm;omega
   rw[gJ hg hb hone]
   simp only
   refine⟨some ⟨b,o,none⟩,k,_,[(b,.cells (bp cs (o+l.length*Rp.sz α) new) opn false)],by rw[a05],.inr ⟨b,o,k,_,opn,rfl,rfl,_,_,_,rfl,?_,by rw[a05];exact hk',?_,h6⟩,hs.put hi⟩
   ·intro _;rw[bY _ _ _ hb];exact h3
   have key:((bp cs (o+l.length*Rp.sz α) new).drop o).take ((l++l2).length*Rp.sz α)=(cs.drop o).take (l.length*Rp.sz α)++new:=by
    have hl1:=h5.length;apply a1A;intro q;rw[a0y,a0J,bA _ _ _ _ hb,a05,a10,a26,hl1];by_cases c1:q<l.length*Rp.sz α
    ·rw[if_pos (by omega),if_neg (by omega),if_pos c1,a0y,if_pos c1,a0J]
    rw[if_neg c1];by_cases c2:q<l.length*Rp.sz α+l2.length*Rp.sz α
    ·rw[if_pos c2,if_pos (by rw[hnl];omega)];congr 1;omega
    rw[if_neg c2,a0Q (by rw[hnl];omega)]
   rw[key]
   exact h5.append hnew
 |false=>
  simp only[cond_false]
  have hle:Nat.ble (l.length+l2.length) 2147483648=true:=a0v hlen
  have hnk:Nat.ble l.length k=true:=a0v h4
  simp only[hzl,hle,hb4,hz0,hnk,a1C,a1j,cond_true]
  have hold:eN H (Rp.sz α) l.length (.slice (some ⟨b,o,none⟩) l.length k)=some ((cs.drop o).take (l.length*Rp.sz α)):=by
   unfold eN;cases hb:Nat.beq l.length 0 with
   |true=>
    have:=a07 hb
    simp[this]
   |false=>
    simp only[cond_false]
    unfold Heap.loadN
    have hl:=h5.length
    simp only[hg,ce,ct,bT,hl,a0Z,cond_true]
  rw[hold]
  simp only[dF]
  have hall:=h5.append hnew
  have hlall:=hall.length
  have hfin: ∀(k':Nat) (bb:Nat),k'=(l++l2).length->OS F (.slice (some ⟨bb,0,none⟩) (l++l2).length k') (l++l2) [(bb,.cells ((cs.drop o).take (l.length*Rp.sz α)++new) (some (Rp.sz α)) false)]:=by rintro k' bb rfl;refine .inr ⟨bb,0,_,_,_,rfl,rfl,_,_,_,rfl,fun _=>(by rw[hlall];omega),a09 _,?_,.inr rfl⟩;rw[a15,←hlall,a1d];exact hall
  rcases h6 with rfl|rfl
  ·simp only;refine⟨some ⟨H.next,0,none⟩,l.length+l2.length,_,_,by rw[a05],hfin _ _ (by rw[a05]),?_⟩;refine hs.turn hi (by simp[aS]) (fun b hb _=>Heap.get_push_ne _ _ (by omega)) (fun b o hb=>?_) (by simp) (fun b hb=> .inl (by simpa[aS] using hb));simp at hb;obtain⟨rfl,rfl⟩:=hb;exact⟨Heap.get_push_same _ _,by simp[aS],.inl (a09 _)⟩
  simp only[a0Z,a1j,hone,cond_true]
  refine⟨some ⟨H.next,0,none⟩,l.length+l2.length,_,_,by rw[a05],hfin _ _ (by rw[a05]),?_⟩
  refine hs.turn hi (by simp[aS]) (fun c hb hne=>?_) (fun c o hb=>?_) (by simp) (fun c hb=>?_)
  ·show((H.put b .dead).push _).get c=_;rw[Heap.get_push_ne _ _ (by simp;omega),Heap.get_put_ne _ _ fun e=>hne (.cells cs (some (Rp.sz α)) false) (by simp[e])]
  ·simp at hb;obtain⟨rfl,rfl⟩:=hb;exact⟨Heap.get_push_same (H.put b .dead) _,by simp[aS],.inl (a09 _)⟩
  simp only[aS,Heap.log_push,Heap.log_put]at hb
  rcases a0n.1 hb with rfl|hb
  ·exact .inr (.inr ⟨.cells cs (some (Rp.sz α)) false,by simp⟩)
  exact .inl hb
end
end Go.R
end
noncomputable section
set_option linter.unusedVariables false
namespace Go.R
section
variable {P:Program} {G:Nat} {cf:cn} {ops:Array Oper}
theorem jd{s s':St}{d:Option Tmp}{v:Value}(h:s.put d v=some s'):s'.size=s.size:=by
 unfold St.put at h;cases d with
 |none=>simp only[a00]at h;rw[←h]
 |some d=>
  cases hb:Nat.ble (d+1) s.size with
  |true=>simp only[hb,cond_true,a00]at h;rw[←h]
  |false=>simp only[hb,cond_false]at h;cases h
theorem step_size{o:Oper}{s s':St}(h:step P G cf ops o s=some s'):s'.size=s.size:=by
 unfold step at h;cases hw:bf ops o s.tmps with
 |false=>simp only[hw,cond_false]at h;exact jd h
 |true=>
  simp only[hw,cond_true]at h
  cases hq:o.op.operands.toList.all (bB G) with
  |false=>rw[hq]at h;cases h
  |true=>
   rw[hq]at h
   simp only[cond_true]at h
   split at h
   ·have:=jd h;exact this
   ·have:=jd h;exact this
   ·split at h
    ·have:=jd h;exact this
    cases h
   cases h
theorem jC: ∀(l:List Oper) (s s':St),fl P G cf ops l s=some s'->s'.size=s.size
 | [],_,_,h=>by rw[ig]at h;simp only[a00]at h;rw[←h]
 |o::l,s,s',h=>by
  rw[bZ]at h;split at h
  ·rename_i t ht;rw[jC l _ _ h,step_size ht]
  cases h
theorem iG: ∀(l:List Oper) (i:Nat) (fs:List (Nat×Inf)) (s s':St),bn P G cf ops i fs l s=some s'->s'.size=s.size
 | [],_,_,_,_,h=>by unfold bn at h;simp only[a00]at h;rw[←h]
 |o::l,i,fs,s,s',h=>by
  unfold bn at h;split at h
  ·rename_i t f ht;cases hq:cb (cm ops) i f fs with
   |false=>rw[hq]at h;cases h
   |true=>
    rw[hq]at h
    rw[iG l _ _ _ _ h]
    unfold fX at ht
    split at ht
    ·rename_i t' ht';simp only[a00,a03]at ht;rw[←ht.1];have:=step_size ht';exact this
    cases ht
  cases h
theorem region_size{draw:Bool}{s s':St}(h:bS P G cf ops draw s=some s'):s'.size=s.size:=by
 unfold bS at h;cases draw with
 |false=>exact jC _ _ _ h
 |true=>
  simp only[cond_true]at h
  cases hq:aQ ops&&P.follows .mixedOrders with
  |false=>rw[hq]at h;cases h
  |true=>rw[hq]at h;exact iG _ _ _ _ _ h
def SizeOK(ex:Code->St->Option (Ex×St)):Prop:= ∀c s e s',ex c s=some (e,s')->s'.size=s.size
theorem execC_size{ex:Code->St->Option (Ex×St)}(hex:SizeOK ex):SizeOK (ek P G ex cf):=by
 intro c;have hseq: ∀{r:Option (Ex×St)} {k:St->Option (Ex×St)} {n:Nat} {e:Ex} {s':St},(∀e s,r=some (e,s)->s.size=n)->(∀s e s',s.size=n->k s=some (e,s')->s'.size=n)->fD r k=some (e,s')->s'.size=n:=by
  intro r k n e s' hr hk h;cases hq:r with
  |none=>rw[hq]at h;cases h
  |some y=>
   obtain⟨e1,s1⟩:=y
   have h1:=hr e1 s1 hq
   rw[hq]at h
   cases e1 with
   |normal=>exact hk s1 e s' h1 h
   |exit i=>simp only[fD,a00,a03]at h;rw[←h.2];exact h1
   |ret=>simp only[fD,a00,a03]at h;rw[←h.2];exact h1
 induction c with
 |skip=>intro s e s' h;rw[kJ]at h;simp only[a00,a03]at h;rw[←h.2]
 |region id ops draw=>
  intro s e s' h
  rw[fC]at h
  cases hq:bS P G cf ops draw s with
  |none=>rw[hq]at h;cases h
  |some t=>
   rw[hq]at h
   simp only[dJ,a00,a03]at h
   rw[←h.2];exact region_size hq
 |seq a b iha ihb=>
  intro s e s' h
  rw[jS]at h
  exact hseq (fun e s1 h1=>iha s e s1 h1) (fun s1 e s' h1 h2=>(ihb s1 e s' h2).trans h1) h
 |cond c t e iht ihe=>
  intro s e s' h
  rw[iq]at h
  cases hq:bB G c with
  |false=>rw[hq]at h;cases h
  |true=>
   rw[hq]at h
   simp only[cond_true]at h
   unfold kM at h
   split at h
   ·rename_i b hb;cases b with
    |true=>exact iht s _ s' h
    |false=>exact ihe s _ s' h
   cases h
 |block id b ih=>
  intro s e s' h
  rw[gx]at h
  cases hq:ek P G ex cf b s with
  |none=>rw[hq]at h;cases h
  |some y=>
   obtain⟨e1,s1⟩:=y
   have h1:=ih s e1 s1 hq
   rw[hq]at h
   cases e1 with
   |normal=>simp only[cQ,a00,a03]at h;rw[←h.2];exact h1
   |exit i=>
    unfold cQ at h
    cases hb:Nat.beq i id with
    |true=>simp only[hb,cond_true,a00,a03]at h;rw[←h.2];exact h1
    |false=>simp only[hb,cond_false,a00,a03]at h;rw[←h.2];exact h1
   |ret=>simp only[cQ,a00,a03]at h;rw[←h.2];exact h1
 |loop b ih=>
  intro s e s' h
  rw[ip]at h
  exact hseq (fun e s1 h1=>ih s e s1 h1) (fun s1 e s' h1 h2=>(hex _ s1 e s' h2).trans h1) h
 |exit id=>intro s e s' h;rw[kK]at h;simp only[a00,a03]at h;rw[←h.2]
 |ret=>intro s e s' h;rw[execC_ret]at h;simp only[a00,a03]at h;rw[←h.2]
 |_=>intro s e s' h;cases h
theorem exec_size{K:bN}: ∀n,SizeOK (kL P G K n)
 |0=>fun c s e s' h=>by cases h
 |n+1=>fun c=>execC_size (exec_size n) c
end
section
variable {P:Program} {G:Nat} {K:bN} {sz:Nat} {Q Q1:Ex->Fn->Heap->Prop} {c:Code} {k:List Fr} {f:Fn} {H:Heap}
theorem wk_cut(h1:WK P G K sz c [] f H Q1)(h2: ∀f' H',Q1 .normal f' H'->WK P G K sz .skip k f' H' Q)(h3: ∀i f' H',Q1 (.exit i) f' H'->WK P G K sz (.exit i) k f' H' Q)(h4: ∀f' H',Q1 .ret f' H'->Q .ret f' H'):
  WK P G K sz c k f H Q:=⟨fun t ht=>by
 obtain⟨n1,e,s1,hx,hq⟩:=h1.out t ht
 have hx':kL P G K (n1+1) c ⟨t,sz,H⟩=some (e,s1):=hx
 have hsz:=exec_size _ _ _ _ _ hx'
 obtain⟨t1,sz1,H1⟩:=s1
 have hsz1:sz1=sz:=hsz
 subst hsz1
 cases e with
 |ret=>exact⟨n1,.ret,_,by rw[hx'];exact i9 k,h4 _ _ hq⟩
 |normal=>
  obtain⟨n2,e,s',h5,h6⟩:=(h2 _ _ hq).out t1 rfl
  refine⟨Nat.max n1 n2,e,s',?_,h6⟩
  refine dg (a1p (a1a n1 n2)) k _ _ (fun x hx2=>?_) _ h5
  have:x=(.normal,⟨t1,sz1,H1⟩):=by have:some (Ex.normal,(⟨t1,sz1,H1⟩:St))=some x:=hx2;exact(Option.some.inj this).symm
  subst this
  exact gX (a1p (a1H n1 n2)) _ _ _ hx'
 |exit i=>
  obtain⟨n2,e,s',h5,h6⟩:=(h3 i _ _ hq).out t1 rfl
  refine⟨Nat.max n1 n2,e,s',?_,h6⟩
  refine dg (a1p (a1a n1 n2)) k _ _ (fun x hx2=>?_) _ h5
  have:x=(.exit i,⟨t1,sz1,H1⟩):=by have:some (Ex.exit i,(⟨t1,sz1,H1⟩:St))=some x:=hx2;exact(Option.some.inj this).symm
  subst this
  exact gX (a1p (a1H n1 n2)) _ _ _ hx'⟩
def inR(lo hi:Nat)(ex:List Nat)(j:Nat):Bool:=(Nat.ble lo j&&Nat.ble j hi)||memB j ex
def hav(lo hi:Nat)(ex:List Nat)(g f:Fn):Fn:=fun j=>bif inR lo hi ex j then g j else f j
structure Leaves(lo hi:Nat)(ex:List Nat)(f f':Fn):Prop where
 out: ∀j,inR lo hi ex j=false->f' j=f j
theorem Leaves.refl{lo hi:Nat}{ex:List Nat}{f:Fn}:Leaves lo hi ex f f:=⟨fun _ _=>rfl⟩
theorem Leaves.upd{lo hi:Nat}{ex:List Nat}{f f':Fn}{i:Nat}{v:Value}(hi':inR lo hi ex i=true)(h:Leaves lo hi ex f f'):Leaves lo hi ex f (upd f' i v):=⟨fun j hj=>by
 unfold Go.R.upd;cases hb:Nat.beq i j with
 |true=>have:=a07 hb;subst this;rw[hi']at hj;cases hj
 |false=>exact h.out j hj⟩
theorem Leaves.eq{lo hi:Nat}{ex:List Nat}{f f':Fn}(h:Leaves lo hi ex f f'):f'=hav lo hi ex f' f:=by
 funext j;unfold hav;cases hb:inR lo hi ex j with
 |true=>rfl
 |false=>exact h.out j hb
theorem wk_rcut{id:Nat}{ops:Array Oper}{draw:Bool}(lo hi:Nat)(ex:List Nat)(l:List (Nat×Value))(HQ:Heap->Prop)
  (h1:WK P G K sz (.region id ops draw) [] f H fun e f' H'=>e= .normal/\HQ H'/\Leaves lo hi ex f f'/\az f' l)
  (h2: ∀g H',HQ H'->WK P G K sz .skip k (lc (hav lo hi ex g f) l) H' Q):WK P G K sz (.region id ops draw) k f H Q:=by
 refine wk_cut h1 ?_ ?_ ?_
 ·rintro f' H' ⟨_,hH,hl,ha⟩;have:=h2 f' H' hH;rw[←hl.eq,gH ha]at this;exact this
 ·rintro i f' H' ⟨h,_⟩;cases h
 rintro f' H' ⟨h,_⟩;cases h
end
inductive ID where
 |v
 |a
 |r
 |l (b:Nat)
 |x (W:List Nat)
 |q (S:Nat->Prop)
def ID.fits:ID->Inf->Prop
 | .v,g=>g= .v
 | .a,g=> ∃b,g= .a b
 | .r,g=>fF g=true
 | .l b,g=>g= .l b
 | .x W,g=> ∃w,g= .x w/\∀b,b∈w->b∈W
 | .q S,g=>g= .v\/∃b,g= .l b/\S b
def ID.nilW:List Nat->Prop
 | []=>True
 |_=>False
def cD:ID->ID->Prop
 | .v,_=>True
 |_,.v=>True
 | .q S,.x W=> ∀b,b∈W->¬S b
 | .x W,.q S=> ∀b,b∈W->¬S b
 | .l b,.x W=>b∉W
 | .x W,.l b=>b∉W
 | .x W,.x U=>ID.nilW W/\ID.nilW U
 | .a,.x W=>ID.nilW W
 | .r,.x W=>ID.nilW W
 | .x _,.a=>True
 | .x W,.r=>ID.nilW W
 |_,_=>True
theorem eL{b:Nat}: ∀{l:List Nat},b∉l->memB b l=false
 | [],_=>rfl
 |c::l,h=>by
  simp only[a0n,not_or]at h;unfold memB;have:Nat.beq b c=false:=by
   cases hb:Nat.beq b c with
   |false=>rfl
   |true=>exact absurd (a07 hb) h.1
  rw[this,eL h.2];rfl
theorem b8: ∀{d:ID} {g:Inf},d.fits g->(∀W,d≠ .x W)->fF g=true
 | .v,_,h,_=>by subst h;rfl
 | .a,_,⟨_,h⟩,_=>by subst h;rfl
 | .r,_,h,_=>h
 | .l _,_,h,_=>by subst h;rfl
 | .x W,_,_,h=>absurd rfl (h W)
 | .q _,_,h,_=>by rcases h with rfl|⟨_,rfl,_⟩<;>rfl
theorem eh{W:List Nat}{g:Inf}(h:ID.nilW W)(hf:ID.fits (.x W) g):fF g=true:=by
 obtain⟨w,rfl,hw⟩:=hf;cases W with
 |nil=>
  cases w with
  |nil=>rfl
  |cons a t=>have:=hw a (by simp);simp at this
 |cons _ _=>exact absurd h id
theorem compat_of{d e:ID}{f g:Inf}(hd:d.fits f)(he:e.fits g)(h:cD d e):dZ f g=true:=by
 have key:fF f=true->fF g=true->dZ f g=true:=lO;cases d with
 |v=>rw[show f= .v from hd];rfl
 |a=>
  cases e with
  |x W=>exact key (b8 hd (by intro W h;cases h)) (eh h he)
  |v=>rw[show g= .v from he];cases f<;>rfl
  |_=>exact key (b8 hd (by intro W h;cases h)) (b8 he (by intro W h;cases h))
 |r=>
  cases e with
  |x W=>exact key (b8 hd (by intro W h;cases h)) (eh h he)
  |v=>rw[show g= .v from he];cases f<;>rfl
  |_=>exact key (b8 hd (by intro W h;cases h)) (b8 he (by intro W h;cases h))
 |l b=>
  cases e with
  |x W=>
   obtain⟨w,rfl,hw⟩:=he
   rw[show f= .l b from hd]
   show(!memB b w)=true
   rw[eL fun hb=>h (hw b hb)];rfl
  |v=>rw[show g= .v from he];cases f<;>rfl
  |_=>exact key (b8 hd (by intro W h;cases h)) (b8 he (by intro W h;cases h))
 |x W=>
  cases e with
  |v=>rw[show g= .v from he];cases f<;>rfl
  |a=>obtain⟨b,rfl⟩:=he;obtain⟨w,rfl,_⟩:=hd;rfl
  |r=>exact key (eh h hd) he
  |q S=>
   obtain⟨w,rfl,hw⟩:=hd
   rcases he with rfl|⟨b,rfl,hb⟩
   ·rfl
   show(!memB b w)=true
   rw[eL fun hm=>h b (hw b hm) hb];rfl
  |l b=>
   obtain⟨w,rfl,hw⟩:=hd
   rw[show g= .l b from he]
   show(!memB b w)=true
   rw[eL fun hb=>h (hw b hb)];rfl
  |x U=>exact key (eh h.1 hd) (eh h.2 he)
 |q S=>
  cases e with
  |x W=>
   obtain⟨w,rfl,hw⟩:=he
   rcases hd with rfl|⟨b,rfl,hb⟩
   ·rfl
   show(!memB b w)=true
   rw[eL fun hm=>h b (hw b hm) hb];rfl
  |v=>rw[show g= .v from he];cases f<;>rfl
  |_=>exact key (b8 hd (by intro W h;cases h)) (b8 he (by intro W h;cases h))
def FsD:List (Nat×Inf)->List (Nat×ID)->Prop
 | [],[]=>True
 |(j,g)::fs,(i,d)::D=>j=i/\d.fits g/\FsD fs D
 |_,_=>False
def okD(ops:Array Oper)(i:Nat)(d:ID):List (Nat×ID)->Prop
 | []=>True
 |(j,e)::D=>(bo (cm ops) j i=true\/cD e d)/\okD ops i d D
theorem cR{ops:Array Oper}{i:Nat}{d:ID}{f:Inf}(hf:d.fits f): ∀{fs:List (Nat×Inf)} {D:List (Nat×ID)},FsD fs D->okD ops i d D->cb (cm ops) i f fs=true
 | [],[],_,_=>rfl
 |(j,g)::fs,(_,e)::D,⟨rfl,h2,h3⟩,⟨h4,h5⟩=>by
  unfold cb;rw[cR hf h3 h5,a1K];rcases h4 with h4|h4
  ·rw[h4];rfl
  rw[compat_of h2 hf h4,Bool.or_true]
 | [],_::_,h,_=>absurd h id
 |_::_,[],h,_=>absurd h id
section
variable {P:Program} {G:Nat} {K:bN} {sz:Nat} {Q:Ex->Fn->Heap->Prop} {ops:Array Oper} {D:List (Nat×ID)} {i:Nat} {os:List Oper} {k:List Fr} {f:Fn} {H H1:Heap} {v:Value}
 {d:Tmp} {op:Op} {ty:TypeId} {pos:String} {af:Array Edge}
structure WF2(P:Program)(G:Nat)(K:bN)(sz:Nat)(ops:Array Oper)(D:List (Nat×ID))(i:Nat)(os:List Oper)(k:List Fr)(f:Fn)(H:Heap)(Q:Ex->Fn->Heap->Prop):Prop where
 out: ∀t fs,cG t=f->FsD fs D->∃n e s',runK P G K (n+1) k (dJ (bn P G (call P G K n) ops i fs os ⟨t,sz,H⟩))=some (e,s')/\Q e (cG s'.tmps) s'.heap
theorem aO{id:Nat}(hr:(aQ ops&&P.follows .mixedOrders)=true)(h:WF2 P G K sz ops [] 0 ops.toList k f H Q):WK P G K sz (.region id ops true) k f H Q:=⟨fun t ht=>by
 obtain⟨n,e,s',h1,h2⟩:=h.out t [] ht trivial;refine⟨n,e,s',?_,h2⟩;have:kL P G K (n+1) (.region id ops true) ⟨t,sz,H⟩=dJ (bn P G (call P G K n) ops 0 [] ops.toList ⟨t,sz,H⟩):=by show dJ (bS P G (call P G K n) ops true ⟨t,sz,H⟩)=_;unfold bS;simp only[cond_true,hr]
 rw[this];exact h1⟩
theorem br(h:WK P G K sz .skip k f H Q):WF2 P G K sz ops D i [] k f H Q:=⟨fun t fs ht _=>by
 obtain⟨n,e,s',h1,h2⟩:=h.out t ht;exact⟨n,e,s',by unfold bn;exact h1,h2⟩⟩
def Did(ops:Array Oper)(f:Fn)(o:Oper)(n:Nat)(log:List Nat)(d:ID):Prop:= ∀t sz H,cG t=f->d.fits (dA ops o ⟨t,sz,H⟩ n log)
theorem fZ{o:Oper}{n:Nat}{log:List Nat}(h:aY o.op=true):Did ops f o n log .v:=fun _ _ _ _=>infOf_value h
theorem gy{o:Oper}{n:Nat}{log:List Nat}(hg:o.guard=none)(h1:aY o.op=false)(h:dU o.op=true):Did ops f o n log .a:=fun t sz H _=>by unfold dA bf;simp only[hg,a1y,h1,Bool.or_self,cond_false,h,cond_true];exact⟨_,rfl⟩
theorem bC{dd:Option Tmp}{lt:TypeId}{a:Operand}{n b o:Nat}{log:List Nat}(ha:dq f a= .pointer (some ⟨b,o,none⟩)):Did ops f ⟨dd,.load lt a,ty,pos,af,none⟩ n log (.l b):=fun t sz H ht=>by
 have:cS t a= .pointer (some ⟨b,o,none⟩):=by rw[dK,ht];exact ha
 unfold dA bf;simp only[a1y,Bool.false_or,cond_false,dU,aY,this];rfl
theorem eK{n b:Nat}{l:List Nat}(h:b∈cY n l):b∈l/\b<n:=by
 induction l with
 |nil=>simp[cY]at h
 |cons c l ih=>
  unfold cY at h
  cases hb:Nat.ble n c with
  |true=>
   rw[hb]at h
   have:=ih h
   exact⟨a0g _ this.1,this.2⟩
  |false=>
   rw[hb]at h
   rcases a0n.1 h with rfl|h
   ·refine⟨a0p ..,?_⟩;rcases a0j b n with h1|h1
    ·exact h1
    rw[a0v h1]at hb;cases hb
   have:=ih h
   exact⟨a0g _ this.1,this.2⟩
theorem did_r{o:Oper}{n:Nat}{log:List Nat}(h: ∀b,b∈log->n<=b):Did ops f o n log .r:=fun t sz H _=>infOf_benign (below_nil h)
theorem did_q{dd:Option Tmp}{lt:TypeId}{x:Operand}{lo hi mx:Option Operand}{n k m:Nat}{a:Option Addr}{log:List Nat}{S:Nat->Prop}(hx:dq f x= .slice a k m)(hS: ∀p,a=some p->S p.block):Did ops f ⟨dd,.slice lt x lo hi mx,ty,pos,af,none⟩ n log (.q S):=fun t sz H ht=>by
 have:cS t x= .slice a k m:=by rw[dK,ht];exact hx
 unfold dA bf;simp only[a1y,Bool.false_or,cond_false,dU,aY,this];cases a with
 |none=>exact .inl rfl
 |some p=>exact .inr ⟨_,rfl,hS p rfl⟩
theorem jU{dd:Option Tmp}{x:Operand}{ts:Array TypeId}{n k m:Nat}{a:Option Addr}{log:List Nat}(hx:dq f x= .slice a k m):Did ops f ⟨dd,.call ⟨.builtin .len, #[x],ts⟩,ty,pos,af,none⟩ n log .v:=fun t sz H ht=>by
 have:cS t x= .slice a k m:=by rw[dK,ht];exact hx
 unfold dA bf;simp only[a1y,Bool.false_or,cond_false,dU,aY];show ID.fits .v (match eQ (cS t) [x] with| [.slice _ _ _]=>Inf.v| [.string _]=> .v|_=> .x (cY n log));show ID.fits .v (match [cS t x] with| [.slice _ _ _]=>Inf.v| [.string _]=> .v|_=> .x (cY n log));rw[this];rfl
def eI:Op->Bool
 | .load _ _| .slice _ _ _ _ _| .call ⟨.builtin .len,_,_⟩=>false
 |o=> !aY o&& !dU o
theorem bR{o:Oper}{n:Nat}{log:List Nat}{W:List Nat}(hg:o.guard=none)(hk:eI o.op=true)(h: ∀b,b∈log->n<=b\/b∈W):Did ops f o n log (.x W):=fun t sz H _=>by
 have hv:aY o.op=false/\dU o.op=false:=by
  unfold eI at hk;split at hk
  ·cases hk
  ·cases hk
  ·cases hk
  simpa using hk
 refine⟨cY n log,?_,fun b hb=>?_⟩
 ·unfold dA bf;simp only[hg,a1y,hv.1,hv.2,Bool.or_self,cond_false];split
  ·rename_i he;rw[he]at hk;cases hk
  ·rename_i he;rw[he]at hk;cases hk
  ·rename_i he;rw[he]at hk;cases hk
  rfl
 obtain⟨h1,h2⟩:=eK hb;rcases h b h1 with h3|h3
 ·omega
 exact h3
theorem wf_val{id:ID}(ha:AP P (dq f) ⟨some d,op,ty,pos,af,none⟩ {H with log:=[]} (.val v,H1))(ho:op.operands.toList.all (bB G)=true)(hd:Nat.ble (d+1) sz=true)
  (hid:Did ops f ⟨some d,op,ty,pos,af,none⟩ H.next H1.log id) (hok:okD ops i id D)
  (h: ∀l,(∀b,b∈l->b∈H1.log\/b∈H.log)->WF2 P G K sz ops ((i,id)::D) (i+1) os k (upd f d v) {H1 with log:=l} Q):WF2 P G K sz ops D i (⟨some d,op,ty,pos,af,none⟩::os) k f H Q:=⟨fun t fs ht hfs=>by
 obtain⟨t',h1,h2⟩:=lm (P:=P) (G:=G) (ops:=ops) (t:=t) (sz:=sz) (o:=⟨some d,op,ty,pos,af,none⟩) rfl ho (by rw[ht];exact ha.eq) hd
 have hi:=hid t sz H ht
 obtain⟨n,e,s',h3,h4⟩:=(h (cY H.next H1.log++H.log) (fun b hb=>by
  rcases a08.1 hb with hb|hb
  ·exact .inl (eK hb).1
  exact .inr hb)).out t' ((i,dA ops ⟨some d,op,ty,pos,af,none⟩ ⟨t,sz,H⟩ H.next H1.log)::fs) (by rw[h2,ht];rfl) ⟨rfl,hi,hfs⟩
 refine⟨n,e,s',?_,h4⟩
 unfold bn fX
 rw[h1]
 simp only[cR hi hfs hok,cond_true]
 exact h3⟩
theorem aC{id:ID}(ha:AP P (dq f) ⟨some d,op,ty,pos,af,none⟩ {H with log:=[]} (.val v,{H with log:=[]}))(ho:op.operands.toList.all (bB G)=true)(hd:Nat.ble (d+1) sz=true)
  (hid:Did ops f ⟨some d,op,ty,pos,af,none⟩ H.next [] id) (hok:okD ops i id D)
  (h:WF2 P G K sz ops ((i,id)::D) (i+1) os k (upd f d v) H Q):WF2 P G K sz ops D i (⟨some d,op,ty,pos,af,none⟩::os) k f H Q:=⟨fun t fs ht hfs=>by
 obtain⟨t',h1,h2⟩:=lm (P:=P) (G:=G) (ops:=ops) (t:=t) (sz:=sz) (o:=⟨some d,op,ty,pos,af,none⟩) rfl ho (by rw[ht];exact ha.eq) hd
 have hi:=hid t sz H ht
 obtain⟨n,e,s',h3,h4⟩:=h.out t' ((i,dA ops ⟨some d,op,ty,pos,af,none⟩ ⟨t,sz,H⟩ H.next [])::fs) (by rw[h2,ht];rfl) ⟨rfl,hi,hfs⟩
 refine⟨n,e,s',?_,h4⟩
 unfold bn fX
 rw[h1]
 simp only[cR hi hfs hok,cond_true,cY,a11]
 exact h3⟩
theorem wf_skip{id:ID}(ha:AP P (dq f) ⟨none,op,ty,pos,af,none⟩ {H with log:=[]} (.skip,H1))(ho:op.operands.toList.all (bB G)=true)
  (hid:Did ops f ⟨none,op,ty,pos,af,none⟩ H.next H1.log id) (hok:okD ops i id D)
  (h: ∀l,(∀b,b∈l->b∈H1.log\/b∈H.log)->WF2 P G K sz ops ((i,id)::D) (i+1) os k f {H1 with log:=l} Q):WF2 P G K sz ops D i (⟨none,op,ty,pos,af,none⟩::os) k f H Q:=⟨fun t fs ht hfs=>by
 obtain⟨t',h1,h2⟩:=step_skip (P:=P) (G:=G) (ops:=ops) (t:=t) (sz:=sz) (o:=⟨none,op,ty,pos,af,none⟩) rfl ho (by rw[ht];exact ha.eq) rfl
 have hi:=hid t sz H ht
 obtain⟨n,e,s',h3,h4⟩:=(h (cY H.next H1.log++H.log) (fun b hb=>by
  rcases a08.1 hb with hb|hb
  ·exact .inl (eK hb).1
  exact .inr hb)).out t' ((i,dA ops ⟨none,op,ty,pos,af,none⟩ ⟨t,sz,H⟩ H.next H1.log)::fs) (by rw[h2,ht];rfl) ⟨rfl,hi,hfs⟩
 refine⟨n,e,s',?_,h4⟩
 unfold bn fX
 rw[h1]
 simp only[cR hi hfs hok,cond_true]
 exact h3⟩
theorem ba{W:List Nat}{g:FuncId}{args:List Value}{R:Value->Heap->Prop}(ha:AP P (dq f) ⟨some d,op,ty,pos,af,none⟩ {H with log:=[]} (.enter g args,{H with log:=[]}))(ho:op.operands.toList.all (bB G)=true)(hd:Nat.ble (d+1) sz=true)(hk:eI op=true)
  (hc:C P G K g args {H with log:=[]} R) (hok:okD ops i (.x W) D)
  (h: ∀v H2,R v H2->(∀b,b∈H2.log->H.next<=b\/b∈W)/\∀l,(∀b,b∈l->b∈H2.log\/b∈H.log)->WF2 P G K sz ops ((i,.x W)::D) (i+1) os k (upd f d v) {H2 with log:=l} Q):WF2 P G K sz ops D i (⟨some d,op,ty,pos,af,none⟩::os) k f H Q:=⟨fun t fs ht hfs=>by
 obtain⟨n1,v,H2,hc1,hr⟩:=hc.out
 obtain⟨hlog,h0⟩:=h v H2 hr
 obtain⟨t',h1,h2⟩:=gL (s:=⟨t,sz,H2⟩) (d:=some d) (v:=v) hd
 have hi:=bR (ops:=ops) (f:=f) (o:=⟨some d,op,ty,pos,af,none⟩) rfl hk hlog t sz H ht
 obtain⟨n2,e,s',h3,h4⟩:=(h0 (cY H.next H2.log++H.log) (fun b hb=>by
  rcases a08.1 hb with hb|hb
  ·exact .inl (eK hb).1
  exact .inr hb)).out t' ((i,dA ops ⟨some d,op,ty,pos,af,none⟩ ⟨t,sz,H⟩ H.next H2.log)::fs) (by rw[h2,ht];rfl) ⟨rfl,hi,hfs⟩
 refine⟨Nat.max n1 n2,e,s',?_,h4⟩
 have hst:step P G (call P G K (Nat.max n1 n2)) ops ⟨some d,op,ty,pos,af,none⟩ ⟨t,sz,{H with log:=[]}⟩=some ⟨t',sz,H2⟩:=by unfold step bf;simp only[cond_true,ho,dK,ht,ha.eq,dQ (a1H n1 n2) _ _ _ _ hc1];exact h1
 unfold bn fX
 rw[hst]
 simp only[cR hi hfs hok,cond_true]
 refine dg (a1p (a1a n1 n2)) k _ _ (fun x hx=>?_) _ h3
 cases hq:bn P G (call P G K n2) ops (i+1) ((i,dA ops ⟨some d,op,ty,pos,af,none⟩ ⟨t,sz,H⟩ H.next H2.log)::fs) os ⟨t',sz,{H2 with log:=cY H.next H2.log++H.log}⟩ with
 |none=>rw[hq]at hx;cases hx
 |some y=>
  have:=dL (dQ (P:=P) (G:=G) (K:=K) (a1a n1 n2)) _ _ _ _ _ hq
  rw[hq]at hx
  rw[this];exact hx⟩
theorem inf_guard{t:Tr Value}{v want:Bool}{j:Nat}{dd:Option Tmp}(ht:cG t=f)(hy:cr ops f j=some v)(hv:v=want)(sz:Nat)(H:Heap)(n:Nat)(log:List Nat):
  dA ops ⟨dd,op,ty,pos,af,some (j,want)⟩ ⟨t,sz,H⟩ n log=dA ops ⟨dd,op,ty,pos,af,none⟩ ⟨t,sz,H⟩ n log:=by
 have h1:bf ops ⟨dd,op,ty,pos,af,some (j,want)⟩ t=true:=by rw[gG ht hy _ rfl,hv];cases want<;>rfl
 have h2:bf ops ⟨dd,op,ty,pos,af,none⟩ t=true:=rfl
 unfold dA
 simp only[h1,h2]
theorem eF{v want:Bool}{j:Nat}{dd:Option Tmp}(hy:cr ops f j=some v)(hv:v=want)(h:WF2 P G K sz ops D i (⟨dd,op,ty,pos,af,none⟩::os) k f H Q):WF2 P G K sz ops D i (⟨dd,op,ty,pos,af,some (j,want)⟩::os) k f H Q:=⟨fun t fs ht hfs=>by
 obtain⟨n,e,s',h1,h2⟩:=h.out t fs ht hfs;refine⟨n,e,s',?_,h2⟩;unfold bn fX at h1⊢;rw[kp ht hy hv];cases hq:step P G (call P G K n) ops ⟨dd,op,ty,pos,af,none⟩ ⟨t,sz,{H with log:=[]}⟩ with
 |none=>rw[hq]at h1;exact h1
 |some s1=>
  rw[hq]at h1
  simp only[inf_guard ht hy hv]
  exact h1⟩
theorem jp{want:Bool}{j:Nat}(hw: ∀t,cG t=f->bf ops ⟨some d,op,ty,pos,af,some (j,want)⟩ t=false)(hd:Nat.ble (d+1) sz=true)
  (h:WF2 P G K sz ops ((i,.v)::D) (i+1) os k (upd f d undef) H Q):WF2 P G K sz ops D i (⟨some d,op,ty,pos,af,some (j,want)⟩::os) k f H Q:=⟨fun t fs ht hfs=>by
 obtain⟨t',h3,h4⟩:=gL (s:=⟨t,sz,{H with log:=[]}⟩) (d:=some d) (v:=undef) hd
 have hw1:=hw t ht
 have hi:dA ops ⟨some d,op,ty,pos,af,some (j,want)⟩ ⟨t,sz,H⟩ H.next []= .v:=by unfold dA;simp only[hw1,a1C,Bool.true_or,cond_true]
 obtain⟨n,e,s',h1,h2⟩:=h.out t' ((i,.v)::fs) (by rw[h4,ht];rfl) ⟨rfl,rfl,hfs⟩
 refine⟨n,e,s',?_,h2⟩
 have hst:step P G (call P G K n) ops ⟨some d,op,ty,pos,af,some (j,want)⟩ ⟨t,sz,{H with log:=[]}⟩=some ⟨t',sz,{H with log:=[]}⟩:=by unfold step;simp only[hw1,cond_false];exact h3
 have hc:cb (cm ops) i .v fs=true:=iS fun j g _=>by cases g<;>simp[dZ]
 unfold bn fX
 rw[hst]
 simp only[hi,hc,cond_true,cY,a11]
 exact h1⟩
theorem eS{v want:Bool}{j:Nat}(hy:cr ops f j=some v)(hv:v= !want)(hd:Nat.ble (d+1) sz=true)(h:WF2 P G K sz ops ((i,.v)::D) (i+1) os k (upd f d undef) H Q):
  WF2 P G K sz ops D i (⟨some d,op,ty,pos,af,some (j,want)⟩::os) k f H Q:=
 jp (fun t ht=>by rw[gG ht hy _ rfl,hv];cases want<;>rfl) hd h
theorem jr{want:Bool}{j:Nat}(hy:cr ops f j=none)(hd:Nat.ble (d+1) sz=true)(h:WF2 P G K sz ops ((i,.v)::D) (i+1) os k (upd f d undef) H Q):
  WF2 P G K sz ops D i (⟨some d,op,ty,pos,af,some (j,want)⟩::os) k f H Q:=
 jp (fun t ht=>by
  unfold bf;have:ke ops t j=none:=by rw[←hy,←ht];rfl
  simp only[this];cases want<;>rfl) hd h
theorem wf_gsT{v:Bool}{j:Nat}(hy:cr ops f j=some v)(hd:Nat.ble (d+1) sz=true)(h1:v=true->WF2 P G K sz ops D i (⟨some d,op,ty,pos,af,none⟩::os) k f H Q)(h2:v=false->WF2 P G K sz ops ((i,.v)::D) (i+1) os k (upd f d undef) H Q):
  WF2 P G K sz ops D i (⟨some d,op,ty,pos,af,some (j,true)⟩::os) k f H Q:=by
 cases v with
 |true=>exact eF hy rfl (h1 rfl)
 |false=>exact eS hy rfl hd (h2 rfl)
theorem wf_gsF{v:Bool}{j:Nat}(hy:cr ops f j=some v)(hd:Nat.ble (d+1) sz=true)(h1:v=false->WF2 P G K sz ops D i (⟨some d,op,ty,pos,af,none⟩::os) k f H Q)(h2:v=true->WF2 P G K sz ops ((i,.v)::D) (i+1) os k (upd f d undef) H Q):
  WF2 P G K sz ops D i (⟨some d,op,ty,pos,af,some (j,false)⟩::os) k f H Q:=by
 cases v with
 |true=>exact eS hy rfl hd (h2 rfl)
 |false=>exact eF hy rfl (h1 rfl)
end
end Go.R
end
noncomputable section
namespace Go.R
theorem w_i64{n:Int}(h:in64 n):IntKind.i64.wrap n=n:=by
 have e:IntKind.i64.wrap n=if(true&&decide (n%(2^64:Int)>=(2^63:Int))) then n%(2^64:Int)-(2^64:Int) else n%(2^64:Int):=rfl
 rw[e];obtain⟨h1,h2⟩:=h;by_cases hn:0<=n
 ·rw[Int.emod_eq_of_lt hn (by omega)];have:decide (n>=(2^63:Int))=false:=decide_eq_false (by omega);rw[this];rfl
 have:n%(2^64:Int)=n+2^64:=by omega
 rw[this];have:decide (n+2^64>=(2^63:Int))=true:=decide_eq_true (by omega);rw[this];simp only[a1j,if_true];omega
theorem w_u64{n:Int}(h:0<=n/\n<18446744073709551616):IntKind.u64.wrap n=n:=by show n%(2^64:Int)=n;exact Int.emod_eq_of_lt h.1 (by omega)
theorem w_u8{n:Int}(h:0<=n/\n<256):IntKind.u8.wrap n=n:=by show n%(2^8:Int)=n;exact Int.emod_eq_of_lt h.1 (by omega)
section
variable {α:Type} [Rp α] {P:Program} {ρ:Operand->Value} {d:Option Tmp} {ty:TypeId} {pos:String} {af:Array Edge} {gd:Option (Nat×Bool)} {B:Base} {F:Fz} {H:Heap} {L R:List Fp} {v:Value} {l:List α} {p:Fp}
variable {t yt:TypeId} {x y:Operand} {k:IntKind} {a b c:Int}
theorem ej(k:IntKind):gQ k k=true:=by cases k<;>rfl
theorem ap_add(hx:ρ x= .int k a)(hy:ρ y= .int k b)(hw:k.wrap (a+b)=c):AP P ρ ⟨d,.binOp .add t x y yt,ty,pos,af,gd⟩ H (.val (.int k c),H):=
 iQ hx hy (by subst hw;show(bif gQ k k then _ else none:Option Value)=_;rw[ej];rfl)
theorem ap_mul(hx:ρ x= .int k a)(hy:ρ y= .int k b)(hw:k.wrap (a*b)=c):AP P ρ ⟨d,.binOp .mul t x y yt,ty,pos,af,gd⟩ H (.val (.int k c),H):=
 iQ hx hy (by subst hw;show(bif gQ k k then _ else none:Option Value)=_;rw[ej];rfl)
theorem ap_div(hx:ρ x= .int k a)(hy:ρ y= .int k b)(hb:b≠0)(hw:k.wrap (a.tdiv b)=c):AP P ρ ⟨d,.binOp .quo t x y yt,ty,pos,af,gd⟩ H (.val (.int k c),H):=by subst hw;exact ap_quo hx hy (ej k) (by simpa using hb)
theorem ap_cmp{op:BinOp}{r:Bool}(hx:ρ x= .int k a)(hy:ρ y= .int k b)(hr:kF op k a b=some (.bool r))(hs:jO op=false):AP P ρ ⟨d,.binOp op t x y yt,ty,pos,af,gd⟩ H (.val (.bool r),H):=
 iQ hx hy (by rw[hs,ej];exact hr)
variable {s u:List UInt8}
theorem ap_idxS{i:Operand}{ki:IntKind}{j:Int}{ch:UInt8}(hx:ρ x= .string ⟨⟨s⟩⟩)(hi:ρ i= .int ki j)(ht:P.underlying t=some .string)(h0:0<=j)(hc:s[j.toNat]?=some ch):
  AP P ρ ⟨d,.index t x i,ty,pos,af,gd⟩ H (.val (.int .u8 ch.toNat),H):=by
 refine⟨?_⟩
 obtain⟨m,rfl⟩:=a16 h0
 show j5 P t (ρ x) (ρ i) H=_
 rw[hx,hi]
 show ovl (strAt P t ⟨⟨s⟩⟩ (.int ki (Int.ofNat m))) H=_
 unfold strAt
 rw[ht]
 show ovl (match nth s m with|some b=>some (.int .u8 b.toNat)|none=>none) H=_
 rw[gO]
 have:s[m]?=some ch:=hc
 rw[this];rfl
theorem ap_eqS(hx:ρ x= .string ⟨⟨s⟩⟩)(hy:ρ y= .string ⟨⟨u⟩⟩):AP P ρ ⟨d,.binOp .eql t x y yt,ty,pos,af,gd⟩ H (.val (.bool (s==u)),H):=ap_str hx hy rfl
theorem ap_neS(hx:ρ x= .string ⟨⟨s⟩⟩)(hy:ρ y= .string ⟨⟨u⟩⟩):AP P ρ ⟨d,.binOp .neq t x y yt,ty,pos,af,gd⟩ H (.val (.bool (s !=u)),H):=ap_str hx hy rfl
theorem ap_leS(hx:ρ x= .string ⟨⟨s⟩⟩)(hy:ρ y= .string ⟨⟨u⟩⟩):AP P ρ ⟨d,.binOp .leq t x y yt,ty,pos,af,gd⟩ H (.val (.bool (Op.bytesLess s u||s==u)),H):=ap_str hx hy rfl
theorem ap_ltS(hx:ρ x= .string ⟨⟨s⟩⟩)(hy:ρ y= .string ⟨⟨u⟩⟩):AP P ρ ⟨d,.binOp .lss t x y yt,ty,pos,af,gd⟩ H (.val (.bool (Op.bytesLess s u)),H):=ap_str hx hy rfl
theorem ap_addS(hx:ρ x= .string ⟨⟨s⟩⟩)(hy:ρ y= .string ⟨⟨u⟩⟩)(hl:s.length+u.length<=1099511627776):AP P ρ ⟨d,.binOp .add t x y yt,ty,pos,af,gd⟩ H (.val (.string ⟨⟨s++u⟩⟩),H):=
 ap_str hx hy (by
  show(bif Nat.ble (hP (appL s u)) 1099511627776 then some (Value.string ⟨⟨appL s u⟩⟩) else none)=_;rw[dF,bT,a05,a0v hl];rfl)
def cutAt(n:Nat)(lo hi:Option Value)(i j:Nat):Prop:=bnds n n lo hi=some (i,j)
theorem jZ{n k i j:Nat}{lo hi:Option Value}(h1:ca n hi=some j)(h2:ca 0 lo=some i)(hij:i<=j)(hj:j<=k):bnds n k lo hi=some (i,j):=by unfold bnds;simp only[h1,h2,a0v hij,a0v hj,a1j,cond_true]
theorem optN{d:Nat}{kk:IntKind}{j:Int}(h0:0<=j):ca d (some (.int kk j))=some j.toNat:=by obtain⟨m,rfl⟩:=a16 h0;rfl
theorem optN0{d:Nat}:ca d none=some d:=rfl
theorem ap_slS{lo hi:Option Operand}{i j:Nat}(hx:ρ x= .string ⟨⟨s⟩⟩)(ht:P.underlying t=some .string)(h1:ca s.length (hi.map ρ)=some j)(h2:ca 0 (lo.map ρ)=some i)(hij:i<=j)(hj:j<=s.length):
  AP P ρ ⟨d,.slice t x lo hi none,ty,pos,af,gd⟩ H (.val (.string ⟨⟨(s.drop i).take (j-i)⟩⟩),H):=by
 refine⟨?_⟩
 show ovl (bx P t (ρ x) (lo.map ρ) (hi.map ρ) (Option.map ρ none) H) H=_
 rw[hx]
 unfold bx
 simp only[a1V,ht]
 show ovl (match bnds (hP s) (hP s) (lo.map ρ) (hi.map ρ) with|some (l,r)=>some (.string ⟨⟨gI (gY s l) (r-l)⟩⟩)|none=>none) H=_
 rw[bT,jZ h1 h2 hij hj]
 simp only[ce,ct];rfl
theorem Sl_cut{F:Fz}{o:AObj}{off k i j:Nat}{l:List α}(h:Sl F o off k l)(hij:i<=j)(hj:j<=l.length):Sl F o (off+i*Rp.sz α) (k-i) ((l.take j).drop i):=by
 obtain⟨cs,opn,ro,rfl,h1,h2,h3,h4⟩:=h;have hl:=h3.length;have hlen:((l.take j).drop i).length=j-i:=by simp;omega
 refine⟨cs,opn,ro,rfl,fun hro=>?_,by rw[hlen];omega,?_,h4⟩
 ·replace h1:=h1 hro;have:i*Rp.sz α+(k-i)*Rp.sz α=k*Rp.sz α:=by rw[←a10];congr 1;omega
  omega
 have h5:=(h3.take j).drop i;have e:((cs.drop (off+i*Rp.sz α)).take (((l.take j).drop i).length*Rp.sz α))=(((cs.drop off).take (l.length*Rp.sz α)).take (j*Rp.sz α)).drop (i*Rp.sz α):=by rw[hlen,a2i,a2h,List.drop_drop];congr 1;have:j*Rp.sz α<=l.length*Rp.sz α:=a0z _ hj;rw[a2e this,Nat.sub_mul]
 rw[e];exact h5
theorem Sl_at0{F:Fz}{o:AObj}{off k:Nat}{l:List α}(h:Sl F o off k l):Sl F o off 0 ([]:List α):=by obtain⟨cs,opn,ro,rfl,h1,h2,h3,h4⟩:=h;exact⟨cs,opn,ro,rfl,fun hro=>(by have:=h1 hro;omega),a09 _,by simp[RL],h4⟩
theorem cut_val{lo hi:Option Operand}{t e:TypeId}{i j off k bb:Nat}{o:AObj}(hx:ρ x= .slice (some ⟨bb,off,none⟩) l.length k)(ht:P.underlying t=some (.slice e))(hz:dw P e=some (Rp.sz α))(hb:H.get bb=some o)(h:Sl F o off k l)
  (h1:ca l.length (hi.map ρ)=some j) (h2:ca 0 (lo.map ρ)=some i) (hij:i<=j) (hj:j<=l.length):
  ∃off' k',AP P ρ ⟨d,.slice t x lo hi none,ty,pos,af,gd⟩ H (.val (.slice (some ⟨bb,off',none⟩) ((l.take j).drop i).length k'),H)/\Sl F o off' k' ((l.take j).drop i):=by
 obtain⟨cs,opn,ro,rfl,g1,g2,g3,g4⟩:=h
 have hlen:((l.take j).drop i).length=j-i:=by simp;omega
 have hcut:=Sl_cut (F:=F) (o:= .cells cs opn ro) ⟨cs,opn,ro,rfl,g1,g2,g3,g4⟩ hij hj
 have run: ∀w,bx P t (.slice (some ⟨bb,off,none⟩) l.length k) (lo.map ρ) (hi.map ρ) none H=some w->AP P ρ ⟨d,.slice t x lo hi none,ty,pos,af,gd⟩ H (.val w,H):=by intro w hw;refine⟨?_⟩;show ovl (bx P t (ρ x) (lo.map ρ) (hi.map ρ) (Option.map ρ none) H) H=_;rw[hx,a1V,hw];rfl
 have hbn:=jZ (n:=l.length) (k:=k) h1 h2 hij (a0c hj g2)
 rcases g4 with rfl|rfl
 ·cases hk:Nat.beq k i with
  |true=>
   have hki:=a07 hk
   have e0:(l.take j).drop i=[]:=a0s (by rw[hlen];omega)
   refine⟨off,k-i,run _ ?_,?_⟩
   ·unfold bx;simp only[ht,hbn,hz,hb,hk,cond_true,hlen]
   rw[e0,hki,a1Q]
   exact Sl_at0 (k:=k) (l:=l) ⟨cs,none,ro,rfl,g1,g2,g3,.inl rfl⟩
  |false=>
   refine⟨off+i*Rp.sz α,k-i,run _ ?_,hcut⟩
   unfold bx
   simp only[ht,hbn,hz,hb,hk,cond_false,hlen]
 refine⟨off+i*Rp.sz α,k-i,run _ ?_,hcut⟩
 unfold bx
 simp only[ht,hbn,hz,hb,a0Z,cond_true,hlen]
theorem nil_cut{lo hi:Option Operand}{t e:TypeId}{i j:Nat}{sz:Nat}(hx:ρ x= .slice none 0 0)(ht:P.underlying t=some (.slice e))(hz:dw P e=some sz)(h1:ca 0 (hi.map ρ)=some j)(h2:ca 0 (lo.map ρ)=some i)(hij:i<=j)(hj:j<=0):
  AP P ρ ⟨d,.slice t x lo hi none,ty,pos,af,gd⟩ H (.val (.slice none 0 0),H):=by
 refine⟨?_⟩
 show ovl (bx P t (ρ x) (lo.map ρ) (hi.map ρ) (Option.map ρ none) H) H=_
 rw[hx]
 unfold bx
 have hbn:=jZ (n:=0) (k:=0) h1 h2 hij hj
 simp only[a1V,ht,hbn,hz,Option.isSome_some,cond_true]
 rfl
theorem sr_cut{lo hi:Option Operand}{t e:TypeId}{i j:Nat}(h:SR F v l)(hs:HS B F H L R)(hx:ρ x=v)(ht:P.underlying t=some (.slice e))(hz:dw P e=some (Rp.sz α))
  (h1:ca l.length (hi.map ρ)=some j) (h2:ca 0 (lo.map ρ)=some i) (hij:i<=j) (hj:j<=l.length):
  ∃a k,AP P ρ ⟨d,.slice t x lo hi none,ty,pos,af,gd⟩ H (.val (.slice a ((l.take j).drop i).length k),H)/\SR F (.slice a ((l.take j).drop i).length k) ((l.take j).drop i):=by
 rcases h with⟨rfl,rfl⟩|⟨b,off,k,o,rfl,g1,g2⟩
 ·have e0:(([]:List α).take j).drop i=[]:=by simp
  rw[e0];exact⟨none,0,nil_cut hx ht hz h1 h2 hij (by simpa using hj),SR.nil⟩
 obtain⟨off',k',h3,h4⟩:=cut_val hx ht hz (hs.fz b o g1).1 g2 h1 h2 hij hj
 exact⟨_,k',h3,.inr ⟨b,off',k',o,rfl,g1,h4⟩⟩
theorem os_make{t e:TypeId}{li ci:Operand}{kl kc:IntKind}{n:Int}{z:List Value}{z0:α}{by_:Nat}(hs:HS B F H L R)(hl:ρ li= .int kl n)(hc:ρ ci= .int kc n)(ht:P.underlying t=some (.slice e))(hz:dw P e=some (Rp.sz α))(hby:fc P e=some by_)(hzz:du P e=some z)
  (hzl:Nat.beq (hP z) (Rp.sz α)=true) (hb4:Nat.ble by_ 4096=true) (hz0:Nat.beq (Rp.sz α) 0=false) (hr:Rp.rep F z z0) (h0:0<=n) (hn:n<=2147483648):
  ∃a k H1 p',AP P ρ ⟨d,.makeSlice t li ci,ty,pos,af,gd⟩ H (.val (.slice a (List.replicate n.toNat z0).length k),H1)/\OS F (.slice a (List.replicate n.toNat z0).length k) (List.replicate n.toNat z0) p'/\HS B F H1 (L++[p']) R/\∀b,b∈H1.log->b∈H.log:=by
 obtain⟨m,rfl⟩:=a16 h0
 have hm:m<=2147483648:=by omega
 refine⟨some ⟨H.next,0,none⟩,m,H.push (.cells (cz m z) none false),[(H.next,.cells (cz m z) none false)],⟨?_⟩,?_,hs.push _,fun b hb=>by simpa using hb⟩
 ·show ovh (aMake P t (ρ li) (ρ ci) H)=_;rw[hl,hc];unfold aMake;have e1:i0 (.int kl (Int.ofNat m))=some m:=rfl;have e2:i0 (.int kc (Int.ofNat m))=some m:=rfl;rw[ht];simp only[hz,hby,hzz];show ovh (match i0 (.int kl (Int.ofNat m)),i0 (.int kc (Int.ofNat m)) with|some n,some k=>_|_,_=>none)=_;rw[e1,e2];simp only[a0v hm,a0v (a09 m),hb4,hzl,hz0,a1C,a1j,cond_true,a0x];rfl
 show OS F _ (List.replicate m z0) _
 have hlen:(List.replicate m z0).length=m:=by simp
 have hrl:=RL.replicate hr m
 have hcl:=hrl.length
 rw[hlen]at hcl
 refine .inr ⟨H.next,0,m,cz m z,none,by simp,rfl,_,_,_,rfl,fun _=>(by omega),by rw[hlen];exact a09 _,?_,.inl rfl⟩
 rw[hlen,a15,←hcl,a1d];exact hrl
theorem os_lit{t:TypeId}{n:Nat}{z:List Value}{parts:Array (Nat×Operand)}{cells:List Value}(hs:HS B F H L R)(hi:eH P t=some (Rp.sz α,z))(hn:Nat.ble (n*Rp.sz α) 16777216=true)
  (hf:Instr.fill (fun i=>some (i*Rp.sz α,Rp.sz α)) ⟨cz n z⟩ (eQ (fun p=>(p.1,ρ p.2)) parts.toList)=some ⟨cells⟩) (hr:RL F cells l) (hl:l.length=n):
  ∃a H1 p',AP P ρ ⟨d,.buildSlice t n parts,ty,pos,af,gd⟩ H (.val (.slice a n n),H1)/\OS F (.slice a n n) l p'/\HS B F H1 (L++[p']) R/\∀b,b∈H1.log->b∈H.log:=by
 subst hl
 refine⟨_,_,[(H.next,.cells cells none false)],lQ hi hn hf,?_,hs.push _,fun b hb=>by simpa using hb⟩
 have:=hr.length
 exact .inr ⟨H.next,0,l.length,cells,none,rfl,rfl,_,_,_,rfl,fun _=>(by omega),a09 _,by rw[a15,←this,a1d];exact hr,.inl rfl⟩
theorem ap_app{s0 x0:Operand}{st xt:TypeId}{u w:Value}{H1:Heap}(hx:ρ s0=v)(hy:ρ x0=u)(he:fh P #[st,xt] v u H=some (w,H1)):AP P ρ ⟨d,.call ⟨.builtin .append, #[s0,x0], #[st,xt]⟩,ty,pos,af,gd⟩ H (.val w,H1):=by refine⟨?_⟩;show ovh (fh P #[st,xt] (ρ s0) (ρ x0) H)=_;rw[hx,hy,he];rfl
theorem os_app{s0 x0:Operand}{st e:TypeId}{u:Value}{l2:List α}{q by_:Nat}{z:List Value}(h:OS F v l p)(hs:HS B F H L R)(hq:L[q]?=some p)(hx:ρ s0=v)(hy:ρ x0=u)(hu:Sv F H.get u l2)(ht:P.underlying st=some (.slice e))
  (hz:dw P e=some (Rp.sz α)) (hby:fc P e=some by_) (hzz:du P e=some z) (hzl:Nat.beq (hP z) (Rp.sz α)=true) (hb4:Nat.ble by_ 4096=true) (hz0:Nat.beq (Rp.sz α) 0=false) (hlen:l.length+l2.length<=2147483648):
  ∃a k H1 p',AP P ρ ⟨d,.call ⟨.builtin .append, #[s0,x0], #[st,st]⟩,ty,pos,af,gd⟩ H (.val (.slice a (l++l2).length k),H1)/\OS F (.slice a (l++l2).length k) (l++l2) p'/\HS B F H1 (L.set q p') R:=by
 obtain⟨h1,new,h2,h3⟩:=hu.first
 obtain⟨a,k,H1,p',h4,h5,h6⟩:=os_append (types:= #[st,st]) h hs hq (x:=u) rfl rfl ht ht (by intro k hk;cases hk) hz hby hzz hzl hb4 hz0 h1 h2 h3 hlen
 exact⟨a,k,H1,p',ap_app hx hy h4,h5,h6⟩
theorem os_st{t:TypeId}{a0 x0:Operand}{j q off n b o:Nat}{w:Value}{y y':α}{cl:List Value}(h:OS F v l p)(hs:HS B F H L R)(hq:L[q]?=some p)(ha:ρ a0= .pointer (some ⟨b,o,none⟩))(hb:b=sB v)(ho:o=sO v+j*Rp.sz α+off)(hx:ρ x0=w)(hn:dw P t=some n)(hc:w.cells.toList=cl)(hl:Nat.beq cl.length n=true)
  (hy:l[j]?=some y) (h1:allL Value.oneCell' cl=true) (hr: ∀cs,Rp.rep F cs y->off+cl.length<=cs.length/\Rp.rep F (bp cs off cl) y'):
  ∃H1 p',AP P ρ ⟨d,.store t a0 x0,ty,pos,af,gd⟩ H (.skip,H1)/\OS F v (l.set j y') p'/\HS B F H1 (L.set q p') R/\∀b cs opn,p=[(b,.cells cs opn false)]->∃cs',p'=[(b,.cells cs' opn false)]:=by
 subst hb ho
 obtain⟨H1,p',h2,h3,h4,h5⟩:=os_set h hs hq hy h1 hr
 exact⟨H1,p',ap_st ha hx hn hc hl h2,h3,h4,h5⟩
end
end Go.R
end
noncomputable section
namespace Go.R
theorem agN{f:Fn}:az f []:=trivial
theorem agC{f:Fn}{i:Nat}{v:Value}{l:List (Nat×Value)}(h:f i=v)(t:az f l):az f ((i,v)::l):=⟨h,t⟩
theorem el{ops:Array Oper}{i:Nat}: ∀D,okD ops i .v D
 | []=>trivial
 |(_,e)::D=>⟨.inr (by cases e<;>trivial),el D⟩
structure Rs where
 v:Value
 H:Heap
 p:Fp
section
variable {P:Program} {G:Nat} {K:bN} {sz:Nat} {Q:Ex->Fn->Heap->Prop} {ops:Array Oper} {D:List (Nat×ID)} {i:Nat} {os:List Oper} {k:List Fr} {f:Fn} {H H1:Heap} {v:Value}
 {d:Tmp} {op:Op} {ty:TypeId} {pos:String} {af:Array Edge} {Φ:Rs->Prop}
theorem aF(ha: ∃r:Rs,AP P (dq f) ⟨some d,op,ty,pos,af,none⟩ H (.val r.v,r.H)/\Φ r)(ho:op.operands.toList.all (bB G)=true)(hd:Nat.ble (d+1) sz=true)
  (h: ∀v H1 p,Φ ⟨v,H1,p⟩->WO P G K sz ops os k (upd f d v) H1 Q):WO P G K sz ops (⟨some d,op,ty,pos,af,none⟩::os) k f H Q:=by
 obtain⟨⟨v,H1,p⟩,h1,h2⟩:=ha
 exact bD h1 ho hd (h v H1 p h2)
theorem aR(ha: ∃r:Rs,AP P (dq f) ⟨none,op,ty,pos,af,none⟩ H (.skip,r.H)/\Φ r)(ho:op.operands.toList.all (bB G)=true)
  (h: ∀v H1 p,Φ ⟨v,H1,p⟩->WO P G K sz ops os k f H1 Q):WO P G K sz ops (⟨none,op,ty,pos,af,none⟩::os) k f H Q:=by
 obtain⟨⟨v,H1,p⟩,h1,h2⟩:=ha
 exact wo_skip h1 ho (h v H1 p h2)
theorem bV{id:ID}(ha: ∃r:Rs,AP P (dq f) ⟨some d,op,ty,pos,af,none⟩ {H with log:=[]} (.val r.v,r.H)/\Φ r)(ho:op.operands.toList.all (bB G)=true)(hd:Nat.ble (d+1) sz=true)
  (hid: ∀v H1 p,Φ ⟨v,H1,p⟩->Did ops f ⟨some d,op,ty,pos,af,none⟩ H.next H1.log id) (hok:okD ops i id D)
  (h: ∀v H1 p,Φ ⟨v,H1,p⟩->∀l,(∀b,b∈l->b∈H1.log\/b∈H.log)->WF2 P G K sz ops ((i,id)::D) (i+1) os k (upd f d v) {H1 with log:=l} Q):
  WF2 P G K sz ops D i (⟨some d,op,ty,pos,af,none⟩::os) k f H Q:=by
 obtain⟨⟨v,H1,p⟩,h1,h2⟩:=ha
 exact wf_val h1 ho hd (hid v H1 p h2) hok (h v H1 p h2)
theorem ew{id:ID}(ha: ∃r:Rs,AP P (dq f) ⟨none,op,ty,pos,af,none⟩ {H with log:=[]} (.skip,r.H)/\Φ r)(ho:op.operands.toList.all (bB G)=true)
  (hid: ∀v H1 p,Φ ⟨v,H1,p⟩->Did ops f ⟨none,op,ty,pos,af,none⟩ H.next H1.log id) (hok:okD ops i id D)
  (h: ∀v H1 p,Φ ⟨v,H1,p⟩->∀l,(∀b,b∈l->b∈H1.log\/b∈H.log)->WF2 P G K sz ops ((i,id)::D) (i+1) os k f {H1 with log:=l} Q):
  WF2 P G K sz ops D i (⟨none,op,ty,pos,af,none⟩::os) k f H Q:=by
 obtain⟨⟨v,H1,p⟩,h1,h2⟩:=ha
 exact wf_skip h1 ho (hid v H1 p h2) hok (h v H1 p h2)
end
section
variable {α:Type} [Rp α] {P:Program} {ρ:Operand->Value} {d:Option Tmp} {ty:TypeId} {pos:String} {af:Array Edge} {gd:Option (Nat×Bool)} {B:Base} {F:Fz} {H:Heap} {L R:List Fp} {v:Value} {l:List α} {p:Fp}
def Wr(H H1:Heap)(W:List Nat):Prop:= ∀b,b∈H1.log->b∈H.log\/H.next<=b\/b∈W
theorem Wr.did{H1:Heap}{W:List Nat}(h:Wr {H with log:=[]} H1 W): ∀b,b∈H1.log->H.next<=b\/b∈W:=fun b hb=>by
 rcases h b hb with h|h|h
 ·simp at h
 ·exact .inl h
 exact .inr h
theorem Wr.nil{H1:Heap}(h: ∀b,b∈H1.log->b∈H.log):Wr H H1 []:=fun b hb=> .inl (h b hb)
theorem HS.lg{B:Base}{F F0:Fz}{H0 H1:Heap}{L L0 R R0:List Fp}(h:HS B F H1 L R)(h0:HS B F0 H0 L0 R0){l:List Nat}(hl: ∀b,b∈l->b∈H1.log\/b∈H0.log):HS B F {H1 with log:=l} L R:=
 h.relog fun b hb=>by
  rcases hl b hb with h1|h1
  ·exact h.log b h1
  exact h0.log b h1
theorem HS.wr{H1:Heap}{i:Nat}{p q:Fp}(h:HS B F H L R)(hi:L[i]?=some p)(step:HS (.of H (p.map Prod.fst)) F H [p] (L.set i []++R)->∃F',F.le F'/\HS (.of H (p.map Prod.fst)) F' H1 [q] (L.set i []++R)):
  ∃F',F.le F'/\HS B F' H1 (L.set i q) R/\Wr H H1 (p.map Prod.fst):=by
 obtain⟨F',h1,h2⟩:=step (h.callOwn hi)
 refine⟨F',h1,?_,fun b hb=>h2.log b hb⟩
 have:=h.backOwn (M:=[]) hi rfl (fun b hb=>hb) h2
 simpa using this
theorem bj{e:TypeId}{z:List Value}(hs:HS B F H L R)(hz:du P e=some z):
  ∃r:Rs,AP P ρ ⟨d,.alloc e,ty,pos,af,gd⟩ H (.val r.v,r.H)/\(∃b,r.v= .pointer (some ⟨b,0,none⟩)/\HS B F r.H (L++[[(b,.cells z none false)]]) R/\Wr H r.H []):=
 ⟨⟨_,_,[]⟩,ap_alloc hz,_,rfl,hs.push _,.nil fun b hb=>by simpa using hb⟩
theorem aV{e:TypeId}{x:Operand}{u:Value}{cs:List Value}(hs:HS B F H L R)(hx:ρ x=u)(hc:u.cells.toList=cs):
  ∃r:Rs,AP P ρ ⟨d,.box e x,ty,pos,af,gd⟩ H (.val r.v,r.H)/\(∃b,r.v= .pointer (some ⟨b,0,none⟩)/\HS B F r.H (L++[[(b,.cells cs none false)]]) R/\Wr H r.H []):=
 ⟨⟨_,_,[]⟩,ap_box (by rw[hx];exact hc),_,rfl,hs.push _,.nil fun b hb=>by simpa using hb⟩
theorem cx{t e:TypeId}{li ci:Operand}{kl kc:IntKind}{n:Int}{z:List Value}(z0:α){by_:Nat}(hs:HS B F H L R)(hl:ρ li= .int kl n)(hc:ρ ci= .int kc n)(ht:P.underlying t=some (.slice e))(hz:dw P e=some (Rp.sz α))(hby:fc P e=some by_)(hzz:du P e=some z)
  (hzl:Nat.beq (hP z) (Rp.sz α)=true) (hb4:Nat.ble by_ 4096=true) (hz0:Nat.beq (Rp.sz α) 0=false) (hr:Rp.rep F z z0) (h0:0<=n) (hn:n<=2147483648):
  ∃r:Rs,AP P ρ ⟨d,.makeSlice t li ci,ty,pos,af,gd⟩ H (.val r.v,r.H)/\(∃a k,r.v= .slice a (List.replicate n.toNat z0).length k/\OS F (.slice a (List.replicate n.toNat z0).length k) (List.replicate n.toNat z0) r.p/\HS B F r.H (L++[r.p]) R/\Wr H r.H []):=by
 obtain⟨a,k,H1,p',h1,h2,h3,h4⟩:=os_make (d:=d) (ty:=ty) (pos:=pos) (af:=af) (gd:=gd) hs hl hc ht hz hby hzz hzl hb4 hz0 hr h0 hn
 exact⟨⟨_,H1,p'⟩,h1,a,k,rfl,h2,h3,.nil h4⟩
theorem bm{t:TypeId}{n:Nat}{z:List Value}{parts:Array (Nat×Operand)}{ps:List (Nat×Value)}{cells:List Value}(l:List α)(hs:HS B F H L R)(hps:eQ (fun p=>(p.1,ρ p.2)) parts.toList=ps)(hi:eH P t=some (Rp.sz α,z))(hn:Nat.ble (n*Rp.sz α) 16777216=true)
  (hf:Instr.fill (fun i=>some (i*Rp.sz α,Rp.sz α)) ⟨cz n z⟩ ps=some ⟨cells⟩) (hr:RL F cells l) (hl:l.length=n):
  ∃r:Rs,AP P ρ ⟨d,.buildSlice t n parts,ty,pos,af,gd⟩ H (.val r.v,r.H)/\(∃a k,r.v= .slice a l.length k/\OS F (.slice a l.length k) l r.p/\HS B F r.H (L++[r.p]) R/\Wr H r.H []):=by
 subst hps
 obtain⟨a,H1,p',h1,h2,h3,h4⟩:=os_lit (d:=d) (ty:=ty) (pos:=pos) (af:=af) (gd:=gd) hs hi hn hf hr hl
 exact⟨⟨_,H1,p'⟩,h1,a,n,by rw[hl],by rw[hl];exact h2,h3,.nil h4⟩
theorem rs_cut{x:Operand}{lo hi:Option Operand}{t e:TypeId}{i j:Nat}(h:SR F v l)(hs:HS B F H L R)(hx:ρ x=v)(ht:P.underlying t=some (.slice e))(hz:dw P e=some (Rp.sz α))
  (h1:ca l.length (hi.map ρ)=some j) (h2:ca 0 (lo.map ρ)=some i) (hij:i<=j) (hj:j<=l.length):
  ∃r:Rs,AP P ρ ⟨d,.slice t x lo hi none,ty,pos,af,gd⟩ H (.val r.v,r.H)/\(∃a k,r.v= .slice a ((l.take j).drop i).length k/\r.H=H/\SR F (.slice a ((l.take j).drop i).length k) ((l.take j).drop i)):=by
 obtain⟨a,k,g1,g2⟩:=sr_cut (d:=d) (ty:=ty) (pos:=pos) (af:=af) (gd:=gd) h hs hx ht hz h1 h2 hij hj
 exact⟨⟨_,H,[]⟩,g1,a,k,rfl,rfl,g2⟩
theorem bF{s0 x0:Operand}{st e:TypeId}{u:Value}{l2:List α}{q by_:Nat}{z:List Value}(h:OS F v l p)(hs:HS B F H L R)(hq:L[q]?=some p)(hx:ρ s0=v)(hy:ρ x0=u)(hu:Sv F H.get u l2)(ht:P.underlying st=some (.slice e))
  (hz:dw P e=some (Rp.sz α)) (hby:fc P e=some by_) (hzz:du P e=some z) (hzl:Nat.beq (hP z) (Rp.sz α)=true) (hb4:Nat.ble by_ 4096=true) (hz0:Nat.beq (Rp.sz α) 0=false) (hlen:l.length+l2.length<=2147483648):
  ∃r:Rs,AP P ρ ⟨d,.call ⟨.builtin .append, #[s0,x0], #[st,st]⟩,ty,pos,af,gd⟩ H (.val r.v,r.H)/\(∃a k,r.v= .slice a (l++l2).length k/\OS F (.slice a (l++l2).length k) (l++l2) r.p/\HS B F r.H (L.set q r.p) R/\Wr H r.H (p.map Prod.fst)):=by
 have hc:=hs.callOwn hq
 obtain⟨a,k,H1,p',h1,h2,h3⟩:=os_app (d:=d) (ty:=ty) (pos:=pos) (af:=af) (gd:=gd) (q:=0) h hc rfl hx hy hu ht hz hby hzz hzl hb4 hz0 hlen
 have h4:=hs.backOwn (M:=[]) hq rfl (fun b hb=>hb) h3
 exact⟨⟨_,H1,p'⟩,h1,a,k,rfl,h2,by simpa using h4,fun b hb=>h3.log b hb⟩
theorem cP{t:TypeId}{a0 x0:Operand}{j q off n b o:Nat}{w:Value}{y:α}(y':α){cl:List Value}(h:OS F v l p)(hs:HS B F H L R)(hq:L[q]?=some p)(ha:ρ a0= .pointer (some ⟨b,o,none⟩))(hb:b=sB v)(ho:o=sO v+j*Rp.sz α+off)(hx:ρ x0=w)(hn:dw P t=some n)(hc:w.cells.toList=cl)(hl:Nat.beq cl.length n=true)
  (hy:l[j]?=some y) (h1:allL Value.oneCell' cl=true) (hr: ∀cs,Rp.rep F cs y->off+cl.length<=cs.length/\Rp.rep F (bp cs off cl) y'):
  ∃r:Rs,AP P ρ ⟨d,.store t a0 x0,ty,pos,af,gd⟩ H (.skip,r.H)/\(OS F v (l.set j y') r.p/\HS B F r.H (L.set q r.p) R/\Wr H r.H (p.map Prod.fst)):=by
 have hcc:=hs.callOwn hq
 obtain⟨H1,p',g1,g2,g3,_⟩:=os_st (d:=d) (ty:=ty) (pos:=pos) (af:=af) (gd:=gd) (q:=0) h hcc rfl ha hb ho hx hn hc hl hy h1 hr
 have h4:=hs.backOwn (M:=[]) hq rfl (fun b hb=>hb) g3
 exact⟨⟨.bool true,H1,p'⟩,g1,g2,by simpa using h4,fun b hb=>g3.log b hb⟩
theorem aJ{t:TypeId}{a0 x0:Operand}{q n b o:Nat}{w:Value}{cl cs cs':List Value}(hs:HS B F H L R)(hq:L[q]?=some [(b,.cells cs none false)])(ha:ρ a0= .pointer (some ⟨b,o,none⟩))(hx:ρ x0=w)(hn:dw P t=some n)(hc:w.cells.toList=cl)(hl:Nat.beq cl.length n=true)
  (hb:Nat.ble (o+cl.length) cs.length=true) (h1:allL Value.oneCell' cl=true) (he:bp cs o cl=cs'):
  ∃r:Rs,AP P ρ ⟨d,.store t a0 x0,ty,pos,af,gd⟩ H (.skip,r.H)/\(HS B F r.H (L.set q [(b,.cells cs' none false)]) R/\Wr H r.H [b]):=by
 have hcc:=hs.callOwn hq
 obtain⟨H1,g1,g2⟩:=hcc.st (i:=0) rfl hb h1 he
 have h4:=hs.backOwn (M:=[]) hq rfl (fun b hb=>hb) g2
 exact⟨⟨.bool true,H1,[]⟩,ap_st ha hx hn hc hl g1,by simpa using h4,fun b hb=>g2.log b hb⟩
end
theorem flat_sub{β:Type}{L' L:List (List β)}(h:List.Sublist L' L):List.Sublist L'.flatten L.flatten:=by
 induction h with
 |slnil=>exact List.Sublist.refl _
 |cons a _ ih=>rw[a0L];exact ih.trans (List.sublist_append_right _ _)
 |cons_cons a _ ih=>rw[a0L,a0L];exact(List.Sublist.refl a).append ih
theorem HS.sub{B:Base}{F:Fz}{H:Heap}{L L' R:List Fp}(h:HS B F H L R)(hsub:List.Sublist L' L):HS B F H L' R:=
 ⟨h.fz,fun p hp b o hb=>h.own p (hp.imp (fun x=>hsub.subset x) id) b o hb,((flat_sub (hsub.append (List.Sublist.refl R))).map _).nodup h.nd,h.n0,h.log,fun p hp=>h.mine p (hsub.subset hp)⟩
theorem HS.forget{B:Base}{F:Fz}{H:Heap}{L R:List Fp}(h:HS B F H L R):HS B F H [] R:=h.sub (List.nil_sublist _)
theorem HS.only{B:Base}{F:Fz}{H:Heap}{L R:List Fp}{p:Fp}(h:HS B F H L R){i:Nat}(hi:L[i]?=some p):HS B F H [p] R:=h.sub (List.singleton_sublist.2 (a0k hi))
section
variable {α:Type} [Rp α] {F:Fz} {B:Base} {H:Heap} {L R:List Fp} {v:Value} {l:List α} {p:Fp}
theorem OS.frz(h:OS F v l p)(hs:HS B F H L R){i:Nat}(hi:L[i]?=some p): ∃F',F.le F'/\HS B F' H (L.set i []) R/\SR F' v l/\∀b o,(b,o)∈p->F' b=some o:=by
 obtain⟨F',h1,h2,h3⟩:=hs.freeze hi;refine⟨F',h1,h2,?_,h3⟩;rcases h with⟨h4,h5,_⟩|⟨b,off,k,cs,opn,h4,h5,h6⟩
 ·exact .inl ⟨h4,h5⟩
 exact .inr ⟨b,off,k,_,h4,h3 b _ (by rw[h5];simp),h6.mono h1⟩
end
theorem aM{β:Type}{l:List β}{j:Nat}{x:β}(h:j<l.length):l[j]?=some (l.getD j x):=by rw[a01,a04 h];rfl
theorem w_tdiv{a b:Int}(ha:in64 a)(hb:b≠ -1):IntKind.i64.wrap (a.tdiv b)=a.tdiv b:=by
 apply w_i64;by_cases h0:b=0
 ·subst h0;rw[Int.tdiv_zero];decide
 have h1:(a.tdiv b).natAbs=a.natAbs/b.natAbs:=Int.natAbs_tdiv a b;by_cases h3:b=1
 ·subst h3;rw[Int.tdiv_one];exact ha
 have h4:2<=b.natAbs:=by omega
 have h5:(a.tdiv b).natAbs*2<=a.natAbs:=by rw[h1];exact a0c (Nat.mul_le_mul_left _ h4) (Nat.div_mul_le_self _ _)
 obtain⟨h6,h7⟩:=ha;clear h1;constructor<;>omega
theorem BS:(∀a b:Bool,((a&&b)=true)=(a=true/\b=true))/\(∀a b:Bool,((a||b)=true)=(a=true\/b=true))/\(∀a b:Bool,((a&&b)=false)=(a=true->b=false))/\(∀a b:Bool,((a||b)=false)=(a=false/\b=false))/\
  (∀a:Bool,((!a)=true)=(a=false))/\(∀a:Bool,((!a)=false)=(a=true))/\(∀(q:Prop) [Decidable q],(decide q=true)=q)/\(∀(q:Prop) [Decidable q],(decide q=false)= ¬q)/\
  (∀a b:Int,((a==b)=true)=(a=b))/\(∀a b:Int,((a==b)=false)=(a≠b))/\(∀a b:Int,((a !=b)=true)=(a≠b))/\(∀a b:Int,((a !=b)=false)=(a=b))/\
  (∀a b:List UInt8,((a==b)=true)=(a=b))/\(∀a b:List UInt8,((a==b)=false)=(a≠b))/\(∀a b:List UInt8,((a !=b)=true)=(a≠b))/\(∀a b:List UInt8,((a !=b)=false)=(a=b))/\
  (∀a b:Bool,((a==b)=true)=(a=b))/\(∀a b:Bool,((a==b)=false)=(a≠b))/\(∀a b:Bool,((a !=b)=true)=(a≠b))/\(∀a b:Bool,((a !=b)=false)=(a=b)):=by
 refine⟨?_,?_,?_,?_,?_,?_,?_,?_,?_,?_,?_,?_,?_,?_,?_,?_,?_,?_,?_,?_⟩<;>intros<;>simp
theorem BT:(∀a:Bool,(true&&a)=a)/\(∀a:Bool,(false&&a)=false)/\(∀a:Bool,(a&&true)=a)/\(∀a:Bool,(a&&false)=false)/\(∀a:Bool,(true||a)=true)/\(∀a:Bool,(false||a)=a)/\(∀a:Bool,(a||true)=true)/\(∀a:Bool,(a||false)=a)/\(!true)=false/\(!false)=true:=by simp
theorem Lr{lo hi:Nat}{ex:List Nat}{f:Fn}:Leaves lo hi ex f f:= .refl
theorem Lu{lo hi:Nat}{ex:List Nat}{f f':Fn}{i:Nat}{v:Value}(hi':inR lo hi ex i=true)(h:Leaves lo hi ex f f'):Leaves lo hi ex f (upd f' i v):= .upd hi' h
section
variable {P:Program} {G:Nat} {K:bN} {sz:Nat} {Q:Ex->Fn->Heap->Prop} {ops:Array Oper} {D:List (Nat×ID)} {i:Nat} {os:List Oper} {k:List Fr} {f:Fn} {H H1:Heap} {d:Tmp} {ty:TypeId} {pos:String} {af:Array Edge} {x:Operand}
theorem wm(v:Value)(hx:dq f x=v)(ho:(Op.move x).operands.toList.all (bB G)=true)(hd:Nat.ble (d+1) sz=true)(h:WO P G K sz ops os k (upd f d v) H Q):WO P G K sz ops (⟨some d,.move x,ty,pos,af,none⟩::os) k f H Q:=bD (ap_move hx) ho hd h
theorem wa(v:Value)(hx:dq f x=v)(ho:(Op.assign x).operands.toList.all (bB G)=true)(hd:Nat.ble (d+1) sz=true)(h:WO P G K sz ops os k (upd f d v) H Q):WO P G K sz ops (⟨some d,.assign x,ty,pos,af,none⟩::os) k f H Q:=bD (j3 hx) ho hd h
theorem fm(v:Value)(hx:dq f x=v)(ho:(Op.move x).operands.toList.all (bB G)=true)(hd:Nat.ble (d+1) sz=true)(h:WF2 P G K sz ops ((i,.v)::D) (i+1) os k (upd f d v) H Q):WF2 P G K sz ops D i (⟨some d,.move x,ty,pos,af,none⟩::os) k f H Q:=aC (ap_move hx) ho hd (fZ rfl) (el _) h
theorem fa(v:Value)(hx:dq f x=v)(ho:(Op.assign x).operands.toList.all (bB G)=true)(hd:Nat.ble (d+1) sz=true)(h:WF2 P G K sz ops ((i,.v)::D) (i+1) os k (upd f d v) H Q):WF2 P G K sz ops D i (⟨some d,.assign x,ty,pos,af,none⟩::os) k f H Q:=aC (j3 hx) ho hd (fZ rfl) (el _) h
end
end Go.R
end
noncomputable section
set_option linter.unusedVariables false
namespace Go.R
section
variable {P:Program} {G:Nat} {K:bN} {sz:Nat} {Q:Ex->Fn->Heap->Prop} {ops:Array Oper} {D:List (Nat×ID)} {i:Nat} {os:List Oper} {k:List Fr} {f:Fn} {H:Heap} {v:Value}
 {d:Tmp} {op:Op} {ty:TypeId} {pos:String} {af:Array Edge}
def cB:ID->ID->Bool
 | .v,_=>true
 |_,.v=>true
 |_,.x _=>false
 | .x _,.a=>true
 | .x _,_=>false
 |_,_=>true
theorem cB_ok{e d:ID}(h:cB e d=true):cD e d:=by cases e<;>cases d<;>first|exact trivial|cases h
def okB(ops:Array Oper)(i:Nat)(d:ID):List (Nat×ID)->Bool
 | []=>true
 |(j,e)::D=>(cB e d||bo (cm ops) j i)&&okB ops i d D
theorem kb: ∀{D:List (Nat×ID)} {e:ID},okB ops i e D=true->okD ops i e D
 | [],_,_=>trivial
 |(j,g)::D,e,h=>by unfold okB at h;rw[a0d,a0F]at h;exact⟨h.1.elim (fun h=> .inr (cB_ok h)) .inl,kb h.2⟩
theorem wfv(ha:AP P (dq f) ⟨some d,op,ty,pos,af,none⟩ {H with log:=[]} (.val v,{H with log:=[]}))
  (h:WF2 P G K sz ops ((i,.v)::D) (i+1) os k (upd f d v) H Q) (hv:aY op=true:=by rfl) (ho:op.operands.toList.all (bB G)=true:=by rfl) (hd:Nat.ble (d+1) sz=true:=by rfl):WF2 P G K sz ops D i (⟨some d,op,ty,pos,af,none⟩::os) k f H Q:=aC ha ho hd (fZ hv) (el _) h
end
end Go.R
end
noncomputable section
set_option linter.unusedVariables false
namespace Go.R
open Go
section
variable {I J:Int->Value->Prop} {es:List (Value×Value)}
def TabI(I:Int->Value->Prop)(es:List (Value×Value)):Prop:= ∀e,e∈es->∃k,e.1= .int .i64 k/\I k e.2
theorem TabI.nil:TabI I []:=fun _ h=>absurd h a0e
theorem TabI.imp(h:TabI I es)(g: ∀k v,I k v->J k v):TabI J es:=fun e he=>by obtain⟨k,h1,h2⟩:=h e he;exact⟨k,h1,g _ _ h2⟩
theorem TabI.keys(h:TabI I es):(es.all fun e=>bP (.int .i64) e.1)=true:=a0w.2 fun e he=>by obtain⟨k,h1,_⟩:=h e he;rw[h1];rfl
theorem TabI.find{d:TypeDesc}: ∀{es:List (Value×Value)},TabI I es->∀k,eB d (.int .i64 k) es=none\/∃v,eB d (.int .i64 k) es=some v/\I k v
 | [],_,k=> .inl rfl
 |(a,w)::es,h,k=>by
  obtain⟨j,h1,h2⟩:=h (a,w) (a0p ..);have h1:a= .int .i64 j:=h1;subst h1;unfold eB;cases hb:cO (.int .i64 k) (.int .i64 j) with
  |true=>
   have:k=j:=by simpa[cO] using hb
   subst this
   exact .inr ⟨w,rfl,h2⟩
  |false=>exact TabI.find (fun e he=>h e (a0g _ he)) k
theorem TabI.set: ∀{es:List (Value×Value)},TabI I es->∀{k:Int} {v:Value},I k v->TabI I (fk (.int .i64 k) v es)
 | [],_,k,v,hv=>fun e he=>by
  have:e=(.int .i64 k,v):=by simpa[fk] using he
  subst this;exact⟨k,rfl,hv⟩
 |(a,w)::es,h,k,v,hv=>fun e he=>by
  unfold fk at he;cases hb:cO (.int .i64 k) a with
  |true=>
   rw[hb]at he
   rcases a0n.1 he with rfl|he
   ·exact⟨k,rfl,hv⟩
   exact h e (a0g _ he)
  |false=>
   rw[hb]at he
   rcases a0n.1 he with rfl|he
   ·exact h _ (a0p ..)
   exact TabI.set (fun e he=>h e (a0g _ he)) hv e he
end
section
variable {P:Program} {ρ:Operand->Value} {d:Option Tmp} {ty:TypeId} {pos:String} {af:Array Edge} {gd:Option (Nat×Bool)} {B:Base} {F:Fz} {H:Heap} {L R:List Fp} {I:Int->Value->Prop} {es:List (Value×Value)}
theorem rs_map{t:TypeId}(hs:HS B F H L R): ∃r:Rs,AP P ρ ⟨d,.makeMap t none,ty,pos,af,gd⟩ H (.val r.v,r.H)/\(∃b,r.v= .map (some b)/\HS B F r.H (L++[[(b,.tab [])]]) R/\Wr H r.H []):=
 ⟨⟨_,_,[]⟩,⟨rfl⟩,_,rfl,hs.push _,.nil fun b hb=>by simpa using hb⟩
theorem rs_look{t kt et:TypeId}{m kx:Operand}{z:Value}{q b:Nat}{k:Int}{i:TypeInfo}(hs:HS B F H L R)(hq:L[q]?=some [(b,.tab es)])(hT:TabI I es)(hm:ρ m= .map (some b))(hk:ρ kx= .int .i64 k)(ht:P.underlying t=some (.map kt et))(hd:P.underlying kt=some (.int .i64))(hi:P.info? et=some i)(hz:i.zero=some z)(hn:gF z=true):
  ∃r:Rs,AP P ρ ⟨d,.lookup t m kx true,ty,pos,af,gd⟩ H (.val r.v,r.H)/\(∃w o,r.v= .tuple #[w,.bool o]/\r.H=H/\(o=true->I k w)/\(o=false->w=z)):=by
 have hg:=hs.get hq (a0b.2 rfl)
 have hl: ∃w o,gD P t (.map (some b)) (.int .i64 k) true H=some (.tuple #[w,.bool o])/\(o=true->I k w)/\(o=false->w=z):=by
  unfold gD;have hkk:bP (.int .i64) (.int .i64 k)=true:=rfl;simp only[ht,hd,hi,hz,hn,hkk,hg,hT.keys,a1K,cond_true];rcases hT.find (d:= .int .i64) k with h|⟨v,h,hv⟩
  ·rw[h];exact⟨z,false,rfl,(fun h=>by cases h),fun _=>rfl⟩
  rw[h];exact⟨v,true,rfl,(fun _=>hv),fun h=>by cases h⟩
 obtain⟨w,o,h1,h2,h3⟩:=hl
 refine⟨⟨.tuple #[w,.bool o],H,[]⟩,⟨?_⟩,w,o,rfl,rfl,h2,h3⟩
 show ovl (gD P t (ρ m) (ρ kx) true H) H=_
 rw[hm,hk,h1];rfl
theorem rs_upd{t kt et:TypeId}{m kx vx:Operand}{q b:Nat}{k:Int}{w:Value}(hs:HS B F H L R)(hq:L[q]?=some [(b,.tab es)])(hT:TabI I es)(hI:I k w)(hm:ρ m= .map (some b))(hk:ρ kx= .int .i64 k)(hv:ρ vx=w)(ht:P.underlying t=some (.map kt et))(hd:P.underlying kt=some (.int .i64)):
  ∃r:Rs,AP P ρ ⟨d,.mapUpdate t m kx vx,ty,pos,af,gd⟩ H (.skip,r.H)/\(∃es',HS B F r.H (L.set q [(b,.tab es')]) R/\TabI I es'/\Wr H r.H [b]):=by
 have hg:=hs.get hq (a0b.2 rfl)
 have hcc:=hs.callOwn hq
 have g2:=hcc.put (i:=0) (o':= .tab (fk (.int .i64 k) w es)) rfl
 have h4:=hs.backOwn (M:=[]) hq rfl (fun b hb=>hb) g2
 refine⟨⟨.bool true,H.put b (.tab (fk (.int .i64 k) w es)),[]⟩,⟨?_⟩,_,by simpa using h4,hT.set hI,fun b hb=>g2.log b hb⟩
 show osk (eE P t (ρ m) (ρ kx) (ρ vx) H)=_
 have hkk:bP (.int .i64) (.int .i64 k)=true:=rfl
 unfold eE
 simp only[ht,hm,hk,hv,hd,hg,hkk,hT.keys,a1K,cond_true]
 rfl
end
end Go.R
end
