/-
How the checker of the program walks through expressions and statements with a function. No condition but that names have less than 2^62 bytes.
-/
import Derived.Test.YtkpgbdkkgcdhmaaGreatZPL1
import Derived.Test.YtkpgbdkkgcdhmaaGreatZPDA
noncomputable section
namespace Go.Proofs.YtkpgbdkkgcdhmaaGreat.db
open Go.R
set_option maxRecDepth 10000
set_option linter.unusedVariables false
set_option linter.unusedSimpArgs false
variable (ex:FuncId) {F:Fz} {H:Heap} {R:List Fp}
open w3 l1 pt da
structure FnV where
 g:FuncId
 fs:List Value
 cp:List Value
abbrev FnV.v(f:FnV):Value:= .func (.func f.g) ⟨f.fs⟩ ⟨f.cp⟩
mutual
def nE5:ExpT->Nat
 |⟨_,_,_,_,ks⟩=>1+nEs5 ks
def nEs5:List ExpT->Nat
 | []=>0
 |e::l=>nE5 e+1+nEs5 l
end
theorem nde5(e:ExpT):nE5 e=1+nEs5 e.kids:=by cases e;rw[nE5]
theorem ndl5: ∀l:List ExpT,l.length<=nEs5 l
 | []=>a0r _
 |e::l=>by have:=ndl5 l;rw[nEs5,a01];omega
theorem nda5: ∀{l:List ExpT} {i:Nat},i<l.length->nE5 (l.getD i default)<nEs5 l
 |e::l,0,_=>by rw[nEs5];show nE5 e<_;omega
 |e::l,i+1,h=>by have:=nda5 (l:=l) (i:=i) (by simpa using h);rw[nEs5];show nE5 (l.getD i default)<_;omega
def FnE(ex:FuncId)(f:FnV)(m:ExpT->Int->Bool)(A:Fz):Prop:=
 (∃fn,Tryz.prog.funcs[f.g]?=some fn/\(fn.body.isSome&& !(fn.name== "runtime.NumGoroutine"))=true)/\
 ∀(a:Option Addr) (k:Nat) (x:ExpT) (d:Int) (F:Fz) (H:Heap) (R:List Fp),Fz.le A F->HS (.of H []) F H [] R->in64 x.kind->in64 x.n->in64 x.op->SR F (sL a x.kids.length k) x.kids->in64 d->nmE x->
  C Tryz.prog 0 (KX ex) f.g (kv f.fs (kv [(.agg ⟨[(iI x.kind),(iI x.n),(tX x.name.b),(iI x.op),(sL a x.kids.length k)]⟩),(iI d)] f.cp)) H fun v H'=> ∃(o:Bool) (F':Fz),Fz.le F F'/\HS (.of H []) F' H' [] R/\v= .bool o/\o=m x d
theorem FnE.mono{ex:FuncId}{f:FnV}{m:ExpT->Int->Bool}{F F':Fz}(h:FnE ex f m F)(O:Fz.le F F'):FnE ex f m F':=⟨h.1,fun a k x d A H R E=>h.2 a k x d A H R (fT O E)⟩
theorem FnE.call{ex:FuncId}{f:FnV}{m:ExpT->Int->Bool}{F:Fz}(h:FnE ex f m F){a:Option Addr}{k:Nat}(x:ExpT)(d:Int){H:Heap}{R:List Fp}(hs:HS (.of H []) F H [] R)(A:in64 x.kind)(E:in64 x.n)(O:in64 x.op)(U:SR F (sL a x.kids.length k) x.kids)(hd:in64 d)(Z:nmE x):
  C Tryz.prog 0 (KX ex) f.g (kv f.fs (kv [(aG [(iI x.kind),(iI x.n),(tX x.name.b),(iI x.op),(sL a x.kids.length k)]),(iI d)] f.cp)) H fun v H'=> ∃(o:Bool) (F':Fz),Fz.le F F'/\HS (.of H []) F' H' [] R/\v= .bool o/\o=m x d:=h.2 a k x d F H R (Fz.le_refl F) hs A E O U hd Z
mutual
def wkE(m:ExpT->Int->Bool):ExpT->Int->Bool
 |⟨k,n,nm,op,ks⟩,d=>m ⟨k,n,nm,op,ks⟩ d&&wkEs m ks (d+1)
def wkEs(m:ExpT->Int->Bool):List ExpT->Int->Bool
 | [],_=>true
 |e::l,d=>wkE m e d&&wkEs m l d
end
theorem wk_e{m:ExpT->Int->Bool}(x:ExpT)(d:Int):wkE m x d=(m x d&&wkEs m x.kids (d+1)):=by cases x;rw[wkE]
theorem wk_0{m:ExpT->Int->Bool}{x:ExpT}{d:Int}(h:m x d=false):wkE m x d=false:=by rw[wk_e,h];rfl
theorem wk_1{m:ExpT->Int->Bool}{x:ExpT}{d:Int}(h:m x d=true):wkE m x d=wkEs m x.kids (d+1):=by rw[wk_e,h];rfl
theorem wk_no{m:ExpT->Int->Bool}{l:List ExpT}{i:Nat}{d:Int}(h:i<l.length)(c:wkE m (l.getD i default) d=false):wkEs m (l.drop i) d=false:=by rw[drp5 (d:=default) h,wkEs,c];rfl
theorem wk_go{m:ExpT->Int->Bool}{l:List ExpT}{i:Nat}{d:Int}(h:i<l.length)(c:wkE m (l.getD i default) d=true):wkEs m (l.drop i) d=wkEs m (l.drop (i+1)) d:=by rw[drp5 (d:=default) h,wkEs,c];rfl
theorem wk_end{m:ExpT->Int->Bool}{l:List ExpT}{i:Nat}{d:Int}(h:l.length<=i):wkEs m (l.drop i) d=true:=by rw[dre5 h,wkEs]
mutual
def nmS:StmT->Prop
 |⟨_,nm,to,_,a,v,ar,t,e⟩=>nm.b.length<4611686018427387904/\to.b.length<4611686018427387904/\nmE a/\nmE v/\nmEs ar/\nmSs t/\nmSs e
def nmSs:List StmT->Prop
 | []=>True
 |s::l=>nmS s/\nmSs l
end
theorem nm_s{s:StmT}(h:nmS s):s.name.b.length<4611686018427387904/\s.to.b.length<4611686018427387904/\nmE s.at_/\nmE s.val/\nmEs s.args/\nmSs s.thn/\nmSs s.els:=by cases s;rwa [nmS]at h
theorem nms_at: ∀{l:List StmT} {i:Nat},nmSs l->i<l.length->nmS (l.getD i default)
 |e::l,0,h,_=>by rw[nmSs]at h;exact h.1
 |e::l,i+1,h,hi=>by rw[nmSs]at h;exact nms_at (l:=l) h.2 (by simpa using hi)
mutual
def nS5:StmT->Nat
 |⟨_,_,_,_,a,v,ar,t,e⟩=>1+nE5 a+nE5 v+nEs5 ar+ne t+ne e
def ne:List StmT->Nat
 | []=>0
 |s::l=>nS5 s+1+ne l
end
theorem nd_s(s:StmT):nS5 s=1+nE5 s.at_+nE5 s.val+nEs5 s.args+ne s.thn+ne s.els:=by cases s;rw[nS5]
theorem nds_len: ∀l:List StmT,l.length<=ne l
 | []=>a0r _
 |e::l=>by have:=nds_len l;rw[ne,a01];omega
theorem nds_at: ∀{l:List StmT} {i:Nat},i<l.length->nS5 (l.getD i default)<ne l
 |e::l,0,_=>by rw[ne];show nS5 e<_;omega
 |e::l,i+1,h=>by have:=nds_at (l:=l) (i:=i) (by simpa using h);rw[ne];show nS5 (l.getD i default)<_;omega
def FnS{σ:Type}(ex:FuncId)(f:FnV)(m:σ->StmT->Int->σ×Bool)(ps:σ->Fp)(F0:Fz):Prop:=
 (∃fn,Tryz.prog.funcs[f.g]?=some fn/\(fn.body.isSome&& !(fn.name== "runtime.NumGoroutine"))=true)/\
 ∀(U O E A a8:Option Addr) (ar an al Z k8:Nat) (s:StmT) (d:Int) (w:σ) (F:Fz) (H:Heap) (R:List Fp),Fz.le F0 F->HS (.of H ((ps w).map Prod.fst)) F H [ps w] R->in64 s.kind->in64 s.n->in64 s.at_.kind->in64 s.at_.n->in64 s.at_.op->SR F (sL a8 s.at_.kids.length k8) s.at_.kids->in64 s.val.kind->in64 s.val.n->in64 s.val.op->SR F (sL A s.val.kids.length Z) s.val.kids->SR F (sL E s.args.length al) s.args->SR F (sL O s.thn.length an) s.thn->SR F (sL U s.els.length ar) s.els->in64 d->nmS s->nS5 s<4611686018427387904->
  C Tryz.prog 0 (KX ex) f.g (kv f.fs (kv [(.agg ⟨[(iI s.kind),(tX s.name.b),(tX s.to.b),(iI s.n),(iI s.at_.kind),(iI s.at_.n),(tX s.at_.name.b),(iI s.at_.op),(sL a8 s.at_.kids.length k8),(iI s.val.kind),(iI s.val.n),(tX s.val.name.b),(iI s.val.op),(sL A s.val.kids.length Z),(sL E s.args.length al),(sL O s.thn.length an),(sL U s.els.length ar)]⟩),(iI d)] f.cp)) H fun v H'=> ∃(o:Bool) (w':σ) (F':Fz),Fz.le F F'/\HS (.of H ((ps w).map Prod.fst)) F' H' [ps w'] R/\v= .bool o/\w'=(m w s d).1/\o=(m w s d).2
theorem FnS.mono{σ:Type}{ex:FuncId}{f:FnV}{m:σ->StmT->Int->σ×Bool}{ps:σ->Fp}{F F':Fz}(h:FnS ex f m ps F)(U:Fz.le F F'):FnS ex f m ps F':=⟨h.1,fun a b c d e f g O i j k l m A H R E=>h.2 a b c d e f g O i j k l m A H R (fT U E)⟩
theorem FnS.call{σ:Type}{ex:FuncId}{f:FnV}{m:σ->StmT->Int->σ×Bool}{ps:σ->Fp}{F:Fz}(h:FnS ex f m ps F){U O E A a8:Option Addr}{an al Z a_ k8:Nat}(s:StmT)(d:Int)(w:σ){H:Heap}{R:List Fp}(hs:HS (.of H ((ps w).map Prod.fst)) F H [ps w] R)(h0:in64 s.kind)(h1:in64 s.n)(h2:in64 s.at_.kind)(h3:in64 s.at_.n)(h4:in64 s.at_.op)(h5:SR F (sL a8 s.at_.kids.length k8) s.at_.kids)(h6:in64 s.val.kind)(h7:in64 s.val.n)(h8:in64 s.val.op)(h9:SR F (sL A s.val.kids.length a_) s.val.kids)(g0:SR F (sL E s.args.length Z) s.args)(g1:SR F (sL O s.thn.length al) s.thn)(g2:SR F (sL U s.els.length an) s.els)(hd:in64 d)(hx:nmS s)(hn:nS5 s<4611686018427387904):
  C Tryz.prog 0 (KX ex) f.g (kv f.fs (kv [(aG [(iI s.kind),(tX s.name.b),(tX s.to.b),(iI s.n),(iI s.at_.kind),(iI s.at_.n),(tX s.at_.name.b),(iI s.at_.op),(sL a8 s.at_.kids.length k8),(iI s.val.kind),(iI s.val.n),(tX s.val.name.b),(iI s.val.op),(sL A s.val.kids.length a_),(sL E s.args.length Z),(sL O s.thn.length al),(sL U s.els.length an)]),(iI d)] f.cp)) H fun v H'=> ∃(o:Bool) (w':σ) (F':Fz),Fz.le F F'/\HS (.of H ((ps w).map Prod.fst)) F' H' [ps w'] R/\v= .bool o/\w'=(m w s d).1/\o=(m w s d).2:=h.2 U O E A a8 an al Z a_ k8 s d w F H R (Fz.le_refl F) hs h0 h1 h2 h3 h4 h5 h6 h7 h8 h9 g0 g1 g2 hd hx hn
section
variable {σ:Type} (m:σ->StmT->Int->σ×Bool)
mutual
def wsS:StmT->σ->Int->σ×Bool
 |⟨k,nm,to,n,a,v,ar,t,e⟩,w,d=>match m w ⟨k,nm,to,n,a,v,ar,t,e⟩ d with
  |(w1,false)=>(w1,false)
  |(w1,true)=>match wsL t w1 (d+1) with
   |(w2,false)=>(w2,false)
   |(w2,true)=>wsL e w2 (d+1)
def wsL:List StmT->σ->Int->σ×Bool
 | [],w,_=>(w,true)
 |s::l,w,d=>match wsS s w d with
  |(w1,false)=>(w1,false)
  |(w1,true)=>wsL l w1 d
end
end
theorem ws_s{σ:Type}{m:σ->StmT->Int->σ×Bool}(s:StmT)(w:σ)(d:Int):wsS m s w d=match m w s d with
  |(w1,false)=>(w1,false)
  |(w1,true)=>match wsL m s.thn w1 (d+1) with
   |(A,false)=>(A,false)
   |(A,true)=>wsL m s.els A (d+1):=by cases s;rw[wsS]
section
variable {σ:Type} {m:σ->StmT->Int->σ×Bool} {l:List StmT} {i:Nat} {w:σ} {d:Int}
theorem ws_l(h:i<l.length):wsL m (l.drop i) w d=match wsS m (l.getD i default) w d with
  |(w1,false)=>(w1,false)
  |(w1,true)=>wsL m (l.drop (i+1)) w1 d:=by rw[drp5 (d:=default) h,wsL]
theorem ws_1(h:i<l.length)(c:(m w (l.getD i default) d).2=false):wsL m (l.drop i) w d=((m w (l.getD i default) d).1,false):=by rw[ws_l h,ws_s];rcases e:m w (l.getD i default) d with⟨a,b⟩;rw[e]at c;subst c;rfl
theorem ws_2(h:i<l.length)(c:(m w (l.getD i default) d).2=true)(c2:(wsL m (l.getD i default).thn (m w (l.getD i default) d).1 (d+1)).2=false):wsL m (l.drop i) w d=((wsL m (l.getD i default).thn (m w (l.getD i default) d).1 (d+1)).1,false):=by rw[ws_l h,ws_s];rcases e:m w (l.getD i default) d with⟨a,b⟩;rw[e]at c c2;subst c;dsimp only at c2⊢;rcases A:wsL m (l.getD i default).thn a (d+1) with⟨E,O⟩;rw[A]at c2;subst c2;rfl
theorem ws_3(h:i<l.length)(c:(m w (l.getD i default) d).2=true)(c2:(wsL m (l.getD i default).thn (m w (l.getD i default) d).1 (d+1)).2=true)(A:(wsL m (l.getD i default).els (wsL m (l.getD i default).thn (m w (l.getD i default) d).1 (d+1)).1 (d+1)).2=false):wsL m (l.drop i) w d=((wsL m (l.getD i default).els (wsL m (l.getD i default).thn (m w (l.getD i default) d).1 (d+1)).1 (d+1)).1,false):=by rw[ws_l h,ws_s];rcases e:m w (l.getD i default) d with⟨a,b⟩;rw[e]at c c2 A;subst c;dsimp only at c2 A⊢;rcases O:wsL m (l.getD i default).thn a (d+1) with⟨E,Z⟩;rw[O]at c2 A;subst c2;dsimp only at A⊢;rcases U:wsL m (l.getD i default).els E (d+1) with⟨a_,b3⟩;rw[U]at A;subst A;rfl
theorem ws_4(h:i<l.length)(c:(m w (l.getD i default) d).2=true)(c2:(wsL m (l.getD i default).thn (m w (l.getD i default) d).1 (d+1)).2=true)(A:(wsL m (l.getD i default).els (wsL m (l.getD i default).thn (m w (l.getD i default) d).1 (d+1)).1 (d+1)).2=true):wsL m (l.drop i) w d=wsL m (l.drop (i+1)) (wsL m (l.getD i default).els (wsL m (l.getD i default).thn (m w (l.getD i default) d).1 (d+1)).1 (d+1)).1 d:=by rw[ws_l h,ws_s];rcases e:m w (l.getD i default) d with⟨a,b⟩;rw[e]at c c2 A;subst c;dsimp only at c2 A⊢;rcases O:wsL m (l.getD i default).thn a (d+1) with⟨E,Z⟩;rw[O]at c2 A;subst c2;dsimp only at A⊢;rcases U:wsL m (l.getD i default).els E (d+1) with⟨a_,b3⟩;rw[U]at A;subst A;rfl
theorem ws_e(h:l.length<=i):wsL m (l.drop i) w d=(w,true):=by rw[dre5 h,wsL]
end
theorem lJ: ∀(fuel:Nat) {E:Option Addr} {O:Nat} (x:ExpT) (d:Int) (fu:FnV) (m:ExpT->Int->Bool) {F:Fz} {H:Heap} {R:List Fp} (hs:HS (.of H []) F H [] R) (bb:in64 x.kind) (bf:in64 x.n) (bl:in64 x.op) (A:SR F (sL E x.kids.length O) x.kids) (aA:FnE ex fu m F) (hx:nmE x) (hd:0<=d/\d+(nE5 x:Int)<4611686018427387904),nE5 x<fuel->kKt ex 92 [(aG [(iI x.kind),(iI x.n),(tX x.name.b),(iI x.op),(sL E x.kids.length O)]),(iI d),fu.v] H fun v H'=> ∃(o:Bool) (F':Fz),Fz.le F F'/\HS (.of H []) F' H' [] R/\v= .bool o/\o=wkE m x d:=by
 intro fuel;induction fuel with
 |zero=>intros;omega
 |succ fuel ih=>
 intro E O x d fu m F H R hs bb bf bl A aA hx hd dk;obtain⟨_,a8,a9⟩:=aA.1;obtain⟨c7,bw⟩:=nm_e hx;have c4:=nde5 x;have c5:=ndl5 x.kids;refine av Tryz.func92 V V (ai 1 V (ab (bc (aX hs V V) V V ?_)));rintro _ H2 _ ⟨b1,rfl,a2,_⟩;refine za (.bool false) (ag 3 V (ab (bW 3 0 9 11 [] [(9,fu.v),(10,(aG [(iI x.kind),(iI x.n),(tX x.name.b),(iI x.op),(sL E x.kids.length O)])),(11,(iI d))] (Hr_ 1 0 Hn_) a2 V V fun _=>hN (ap_callc V a8 a9 V) V V (aA.call x d (HS.call a2) M M M A M X) ?_)));rintro _ H4 ⟨o4,F4,Z,an,rfl,rfl⟩;replace an:=HS.back a2 V an;replace aA:=aA.mono Z;replace A:=A.mono Z;refine bV 1 4 13 13 [] [(13,(.bool (!(m x d))))] Hn_ (by kernel_rfl) V fun _=>ag 1 V (zi 1 3 (fun c6=>?_) fun c6=>?_)
 ·try simp only[BS]at c6
  have b3:=c6;refine wT 1 [] 6 6 [] [(6,(.bool false))] V fun _=>ae ⟨.inr V,_,V,false,_,(Z),(HS.forget an),V,(wk_0 b3).symm⟩
 try simp only[BS]at c6
 have cp:=c6;refine bH 2 14 17 [] [(15,(sL E x.kids.length O)),(16,(iI (x.kids.length:Int))),(17,(iI 0))] (Hr_ 1 0 Hn_) an V V fun _=>aj (fun(mm:Nat) f H'=> ∃(i:Nat) (F':Fz),Fz.le F4 F'/\HS (Base.of H []) F' H' [(fP b1 [(iI x.kind),(iI x.n),(tX x.name.b),(iI x.op),(sL E x.kids.length O)])] R/\aC f [(1,(iI d)),(2,fu.v),(15,(sL E x.kids.length O)),(16,(iI (x.kids.length:Int))),(17,(iI (i:Int)))]/\mm=x.kids.length-i/\(wkE m x d=wkEs m (x.kids.drop i) (d+1))/\(i<=x.kids.length)) _ ⟨0,_,fR,an,⟨V,V,V,V,V,trivial⟩,V,(wk_1 cp),M⟩ ?_
 rintro c0 f9 H9 ⟨i,F9,al,ax,a5,rfl,h1,hi⟩ bt;refine ap _ a5 (fun _=>?_);clear a5;replace aA:=aA.mono al;replace A:=A.mono al;refine ai 1 V (wT 2 [] 18 18 [] [(18,(.bool (decide ((i:Int)<(x.kids.length:Int)))))] V fun _=>zd 4 5 (fun bn=>?_) fun bn=>?_)
 ·have qa:=nda5 (l:=x.kids) (i:=i) M;refine ab ?_;obtain⟨a0,a3⟩:=Sv.view (SR.sv A ax);obtain⟨bF,b0,b2,a4⟩:=ExpT.fx (a3 i);let a6:Value:=(aG [(iI (x.kids.getD i default).kind),(iI (x.kids.getD i default).n),(tX (x.kids.getD i default).name.b),(iI (x.kids.getD i default).op),(sL (cA (a0 i) 4) (x.kids.getD i default).kids.length (cK (a0 i) 4))])
  refine bV 2 0 19 20 [] [(20,a6)] (Ha_ (Sv.ix (j:=(i:Int)) (SR.sv A ax)) (Hl_ 1 (qn 46 0 5 (ExpT.vw (a3 i)) V V V V) Hn_)) (by kernel_rfl) V fun _=>zn ax V fun co b9 ba=>sgo 1 3 1 0 [] [] (Hr_ 3 1 Hn_) ba V V fun b6 ch ar=>ag 2 V (ab (bW 4 0 21 24 [] [(21,a6),(23,(iI (d+1))),(24,fu.v)] (Hr_ 0 1 (Ha_ (vi (n:=d+1)) Hn_)) ar V V fun _=>?_))
  refine zc (ih (x.kids.getD i default) (d+1) fu m (HS.call ar) M M M a4 aA (nm_at bw M) M M) ?_;rintro _ ci ⟨c3,b8,a1,U,rfl,rfl⟩;replace U:=HS.back ar V U;refine bV 1 5 26 26 [] [(26,(.bool (!(wkE m (x.kids.getD i default) (d+1)))))] Hn_ (by kernel_rfl) V fun _=>ag 1 V (zi 1 2 (fun a_=>?_) fun a_=>?_)
  ·try simp only[BS]at a_
   have b3:=wk_no (l:=x.kids) (i:=i) M (by simpa using a_);refine wT 1 [] 6 6 [] [(6,(.bool false))] V fun _=>ae ⟨.inr V,_,V,false,_,(fT (fT (Z) al) a1),(HS.forget U),V,(h1.trans b3).symm⟩
  try simp only[BS]at a_
  have cp:=wk_go (l:=x.kids) (i:=i) M (by simpa using a_);refine wU 1 [] 17 17 [27] [(17,(iI ((i:Int)+1)))] (vi (n:=(i:Int)+1)) V fun _=>?_
  refine bt _ _ _ ?_ ⟨i+1,_,(fT (al) a1),(HS.sub U (a05 _ _)),⟨V,V,V,V,V,trivial⟩,V,(h1.trans cp),M⟩;omega
 refine wT 1 [] 6 6 [] [(6,(.bool true))] V fun _=>ae ⟨.inr V,_,V,true,_,(fT (Z) al),(HS.forget ax),V,(h1.trans (wk_end M)).symm⟩
theorem dQ{A:Option Addr}{E:Nat}(x:ExpT)(d:Int)(fu:FnV)(m:ExpT->Int->Bool)(hs:HS (.of H []) F H [] R)(O:in64 x.kind)(U:in64 x.n)(a_:in64 x.op)(Z:SR F (sL A x.kids.length E) x.kids)(an:FnE ex fu m F)(hx:nmE x)(hd:0<=d/\d+(nE5 x:Int)<4611686018427387904):kKt ex 92 [(aG [(iI x.kind),(iI x.n),(tX x.name.b),(iI x.op),(sL A x.kids.length E)]),(iI d),fu.v] H fun v H'=> ∃(o:Bool) (F':Fz),Fz.le F F'/\HS (.of H []) F' H' [] R/\v= .bool o/\o=wkE m x d:=
 lJ ex (nE5 x+1) x d fu m hs O U a_ Z an hx hd (a0x _)
theorem kC: ∀(fuel:Nat) {b3:Option Addr} {cp:Nat} (l:List StmT) (d:Int) {σ:Type} (fu:FnV) (m:σ->StmT->Int->σ×Bool) {ps:σ->Fp} (w:σ) {F:Fz} {H:Heap} {R:List Fp} (hs:HS (.of H ((ps w).map Prod.fst)) F H [(ps w)] R) (hl:SR F (sL b3 l.length cp) l) (a0:FnS ex fu m ps F) (hx:nmSs l) (hd:0<=d/\d+(ne l:Int)<4611686018427387904),ne l<fuel->kKt ex 86 [(sL b3 l.length cp),(iI d),fu.v] H fun v H'=> ∃(o:Bool) (w':σ) (F':Fz),Fz.le F F'/\HS (.of H ((ps w).map Prod.fst)) F' H' [(ps w')] R/\v= .bool o/\w'=(wsL m l w d).1/\o=(wsL m l w d).2:=by
 intro fuel;induction fuel with
 |zero=>intros;omega
 |succ fuel ih=>
 intro b3 cp l d σ fu m ps w F H R hs hl a0 hx hd e2;obtain⟨_,bl,bn⟩:=a0.1;have d6:=nds_len l;refine av Tryz.func86 V V (ai 1 V (wT 3 [] 6 6 [] [(6,(.bool false))] V fun _=>wT 2 [] 9 11 [] [(9,(sL b3 l.length cp)),(10,(iI (l.length:Int))),(11,(iI 0))] V fun _=>aj (fun(mm:Nat) f H'=> ∃(i:Nat) (A:σ) (F':Fz),Fz.le F F'/\HS (Base.of H ((ps w).map Prod.fst)) F' H' [(ps A)] R/\aC f [(1,(iI d)),(2,fu.v),(9,(sL b3 l.length cp)),(10,(iI (l.length:Int))),(11,(iI (i:Int)))]/\mm=l.length-i/\(wsL m l w d=wsL m (l.drop i) A d)/\(i<=l.length)) _ ⟨0,w,_,fR,hs,⟨V,V,V,V,V,trivial⟩,V,k_,M⟩ ?_));rintro d2 f3 H3 ⟨i,A,F3,aA,a5,ba,rfl,h1,hi⟩ b0;refine ap _ ba (fun _=>?_);clear ba;replace a0:=a0.mono aA;replace hl:=hl.mono aA;refine ai 1 V (wT 2 [] 12 12 [] [(12,(.bool (decide ((i:Int)<(l.length:Int)))))] V fun _=>zd 4 5 (fun c5=>?_) fun c5=>?_)
 ·have qa:=nds_at (l:=l) (i:=i) M;have qs:=nd_s (l.getD i default);have e1:=nms_at hx (i:=i) M;obtain⟨_,_,_,_,_,qt,qe⟩:=nm_s e1;refine ab ?_;obtain⟨U,bb⟩:=Sv.view (SR.sv hl a5);obtain⟨b4,b6,b8,ch,ci,co,b1,b2,bw,a8,a9,ar,a_⟩:=StmT.fx (bb i);let bf:Value:=(aG [(iI (l.getD i default).kind),(tX (l.getD i default).name.b),(tX (l.getD i default).to.b),(iI (l.getD i default).n),(iI (l.getD i default).at_.kind),(iI (l.getD i default).at_.n),(tX (l.getD i default).at_.name.b),(iI (l.getD i default).at_.op),(sL (cA (U i) 8) (l.getD i default).at_.kids.length (cK (U i) 8)),(iI (l.getD i default).val.kind),(iI (l.getD i default).val.n),(tX (l.getD i default).val.name.b),(iI (l.getD i default).val.op),(sL (cA (U i) 13) (l.getD i default).val.kids.length (cK (U i) 13)),(sL (cA (U i) 14) (l.getD i default).args.length (cK (U i) 14)),(sL (cA (U i) 15) (l.getD i default).thn.length (cK (U i) 15)),(sL (cA (U i) 16) (l.getD i default).els.length (cK (U i) 16))])
  refine bV 2 0 13 14 [] [(14,bf)] (Ha_ (Sv.ix (j:=(i:Int)) (SR.sv hl a5)) (Hl_ 1 (qn 63 0 17 (StmT.vw (bb i)) V V V V) Hn_)) (by kernel_rfl) V fun _=>zn a5 V fun b9 dk bt=>sgo 1 3 1 0 [] [] (Hr_ 3 1 Hn_) bt V V fun c0 dn a2=>ag 2 V (ab (zm fu.v ?_))
  refine ao (v:=bf) (en (i:=0) V V V (i_ a2 V) V V V) V V (zm (iI d) (hN (ap_callc V bl bn V) V V (a0.call (l.getD i default) d A (g_ a2 V) M M M M M bw M M M a8 a9 ar a_ M M M) ?_));rintro _ ds ⟨d3,c3,c7,Z,al,rfl,rfl,rfl⟩;replace al:=a2.bO al;replace a0:=a0.mono Z;replace ar:=ar.mono Z;replace a_:=a_.mono Z;refine ao (v:=(.bool (!((m A (l.getD i default) d).2)))) (gE V) V V (zm (.bool (!((m A (l.getD i default) d).2))) (eI (v:=(!((m A (l.getD i default) d).2))) V V (fun E=>?_) (fun E=>?_)))
  ·have a3:=E;try simp only[BS]at a3
   refine ao (v:=(pT b9 15)) (eP V V) V V (aV V E (ao (v:=(sL (cA (U i) 15) (l.getD i default).thn.length (cK (U i) 15))) (bL (i:=15) V V (i_ al V) V V) V V (aV V E (zm (iI d) (aV V E ?_)))));refine ao (v:=(iI (d+1))) (ja V V (lK (n:=d+1) M)) V V (aV V E (zm fu.v (aV V E (zc (ih (l.getD i default).thn (d+1) fu m ((m A (l.getD i default) d).1) (g_ al V) ar a0 M M M) ?_))));rintro _ dt ⟨d4,c4,c8,ax,an,rfl,rfl,rfl⟩;replace an:=al.bO an;replace a0:=a0.mono ax;replace a_:=a_.mono ax;refine aV V E (ao (v:=(.bool (!((wsL m (l.getD i default).thn ((m A (l.getD i default) d).1) (d+1)).2)))) (gE V) V V (ao (v:=(.bool (!((wsL m (l.getD i default).thn ((m A (l.getD i default) d).1) (d+1)).2)))) (bz V E V) V V (zm (.bool (!((wsL m (l.getD i default).thn ((m A (l.getD i default) d).1) (d+1)).2))) (eI (v:=(!((wsL m (l.getD i default).thn ((m A (l.getD i default) d).1) (d+1)).2))) V V (fun O=>?_) (fun O=>?_)))))
   ·have a4:=O;try simp only[BS]at a4
    refine ao (v:=(pT b9 16)) (eP V V) V V (aV V O (ao (v:=(sL (cA (U i) 16) (l.getD i default).els.length (cK (U i) 16))) (bL (i:=16) V V (i_ an V) V V) V V (aV V O (zm (iI d) (aV V O ?_)))));refine ao (v:=(iI (d+1))) (ja V V (lK (n:=d+1) M)) V V (aV V O (zm fu.v (aV V O (zc (ih (l.getD i default).els (d+1) fu m ((wsL m (l.getD i default).thn ((m A (l.getD i default) d).1) (d+1)).1) (g_ an V) a_ a0 M M M) ?_))));rintro _ d1 ⟨d5,c6,c9,a7,a1,rfl,rfl,rfl⟩;replace a1:=an.bO a1;refine aV V O (ao (v:=(.bool (!((wsL m (l.getD i default).els ((wsL m (l.getD i default).thn ((m A (l.getD i default) d).1) (d+1)).1) (d+1)).2)))) (gE V) V V (ao (v:=(.bool (!((wsL m (l.getD i default).els ((wsL m (l.getD i default).thn ((m A (l.getD i default) d).1) (d+1)).1) (d+1)).2)))) (bz V O V) V V (aQ (ai 1 V (zi 1 2 (fun a6=>?_) fun a6=>?_)))))
    ·try simp only[BS]at a6
     refine wT 1 [] 6 6 [] [(6,(.bool false))] V fun _=>ae ⟨.inr V,_,V,false,(wsL m (l.getD i default).els ((wsL m (l.getD i default).thn ((m A (l.getD i default) d).1) (d+1)).1) (d+1)).1,_,(fT (fT (fT (aA) Z) ax) a7),(HS.first a1),V,(by(rw[h1,ws_3 M X X X];done)),(by(rw[h1,ws_3 M X X X];done))⟩
    try simp only[BS]at a6
    refine wU 1 [] 11 11 [38] [(11,(iI ((i:Int)+1)))] (vi (n:=(i:Int)+1)) V fun _=>?_
    refine b0 _ _ _ ?_ ⟨i+1,(wsL m (l.getD i default).els ((wsL m (l.getD i default).thn ((m A (l.getD i default) d).1) (d+1)).1) (d+1)).1,_,(fT (fT (fT (aA) Z) ax) a7),(HS.sub a1 (a05 _ _)),⟨V,V,V,V,V,trivial⟩,V,(by rw[h1,ws_4 M X X X]),M⟩;omega
   have a4:=O;try simp only[BS]at a4
   refine aw V O V (aw V O V (aw V O V (aw V O V (aw V O V (aw V O V ?_)))));refine ao (v:=(.bool true)) (aI V O V) V V (aQ (ai 1 V (bI 1 (v:=true) V V V V (wT 1 [] 6 6 [] [(6,(.bool false))] V fun _=>ae ⟨.inr V,_,V,false,(wsL m (l.getD i default).thn ((m A (l.getD i default) d).1) (d+1)).1,_,(fT (fT (aA) Z) ax),(HS.first an),V,(by(rw[h1,ws_2 M X X];done)),(by(rw[h1,ws_2 M X X];done))⟩))))
  have a3:=E;try simp only[BS]at a3
  refine aw V E V (aw V E V (aw V E V (aw V E V (aw V E V (aw V E V ?_)))));refine ao (v:=(.bool true)) (aI V E V) V V (zm (.bool true) (aw V V V (aw V V V (aw V V V (aw V V V ?_)))));refine aw V V V (aw V V V (aw V V V (ao (v:=(.bool true)) (aI V V V) V V (aQ (ai 1 V ?_)))));refine bI 1 (v:=true) V V V V (wT 1 [] 6 6 [] [(6,(.bool false))] V fun _=>ae ⟨.inr V,_,V,false,(m A (l.getD i default) d).1,_,(fT (aA) Z),(HS.first al),V,(by(rw[h1,ws_1 M X];done)),(by(rw[h1,ws_1 M X];done))⟩)
 refine wT 1 [] 6 6 [] [(6,(.bool true))] V fun _=>ae ⟨.inr V,_,V,true,A,_,(aA),(HS.first a5),V,(by(rw[h1,ws_e M];done)),(by(rw[h1,ws_e M];done))⟩
theorem hY{A:Option Addr}{E:Nat}(l:List StmT)(d:Int){σ:Type}(O:FnV)(m:σ->StmT->Int->σ×Bool){ps:σ->Fp}(w:σ)(hs:HS (.of H ((ps w).map Prod.fst)) F H [(ps w)] R)(Z:SR F (sL A l.length E) l)(U:FnS ex O m ps F)(hx:nmSs l)(hd:0<=d/\d+(ne l:Int)<4611686018427387904):kKt ex 86 [(sL A l.length E),(iI d),O.v] H fun v H'=> ∃(o:Bool) (w':σ) (F':Fz),Fz.le F F'/\HS (.of H ((ps w).map Prod.fst)) F' H' [(ps w')] R/\v= .bool o/\w'=(wsL m l w d).1/\o=(wsL m l w d).2:=
 kC ex (ne l+1) l d O m w hs Z U hx hd (a0x _)
end Go.Proofs.YtkpgbdkkgcdhmaaGreat.db
