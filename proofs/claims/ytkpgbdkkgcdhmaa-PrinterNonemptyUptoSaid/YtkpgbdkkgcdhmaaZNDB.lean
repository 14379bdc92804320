/-
How the checker of the program walks through expressions and statements with a function. No condition but that names have less than 2^62 bytes.
-/
import Derived.Test.YtkpgbdkkgcdhmaaZNL1
import Derived.Test.YtkpgbdkkgcdhmaaZNDA
noncomputable section
namespace Go.Proofs.Ytkpgbdkkgcdhmaa.db
open Go.R
set_option maxRecDepth 10000
set_option linter.unusedVariables false
set_option linter.unusedSimpArgs false
variable (ex:FuncId) {F:Fz} {H:Heap} {R:List Fp}
open w3 l1 pt da
structure FnV where
 g:FuncId
 fs:List Value
 cp:List Value
abbrev FnV.v(f:FnV):Value:= .func (.func f.g) ⟨f.fs⟩ ⟨f.cp⟩
mutual
def nE5:ExpT->Nat
 |⟨_,_,_,_,ks⟩=>1+nEs5 ks
def nEs5:List ExpT->Nat
 | []=>0
 |e::l=>nE5 e+1+nEs5 l
end
theorem nde5(e:ExpT):nE5 e=1+nEs5 e.kids:=by cases e;rw[nE5]
theorem ndl5: ∀l:List ExpT,l.length<=nEs5 l
 | []=>a0p _
 |e::l=>by have:=ndl5 l;rw[nEs5,a01];omega
theorem nda5: ∀{l:List ExpT} {i:Nat},i<l.length->nE5 (l.getD i default)<nEs5 l
 |e::l,0,_=>by rw[nEs5];show nE5 e<_;omega
 |e::l,i+1,h=>by have:=nda5 (l:=l) (i:=i) (by simpa using h);rw[nEs5];show nE5 (l.getD i default)<_;omega
def FnE(ex:FuncId)(f:FnV)(m:ExpT->Int->Bool)(A:Fz):Prop:=
 (∃fn,Try.prog.funcs[f.g]?=some fn/\(fn.body.isSome&& !(fn.name== "runtime.NumGoroutine"))=true)/\
 ∀(a:Option Addr) (k:Nat) (x:ExpT) (d:Int) (F:Fz) (H:Heap) (R:List Fp),Fz.le A F->HS (.of H []) F H [] R->in64 x.kind->in64 x.n->in64 x.op->SR F (sL a x.kids.length k) x.kids->in64 d->nmE x->
  C Try.prog 0 (KX ex) f.g (jJ f.fs (jJ [(.agg ⟨[(iI x.kind),(iI x.n),(tX x.name.b),(iI x.op),(sL a x.kids.length k)]⟩),(iI d)] f.cp)) H fun v H'=> ∃(o:Bool) (F':Fz),Fz.le F F'/\HS (.of H []) F' H' [] R/\v= .bool o/\o=m x d
theorem FnE.mono{ex:FuncId}{f:FnV}{m:ExpT->Int->Bool}{F F':Fz}(h:FnE ex f m F)(O:Fz.le F F'):FnE ex f m F':=⟨h.1,fun a k x d A H R E=>h.2 a k x d A H R (fT O E)⟩
theorem FnE.call{ex:FuncId}{f:FnV}{m:ExpT->Int->Bool}{F:Fz}(h:FnE ex f m F){a:Option Addr}{k:Nat}(x:ExpT)(d:Int){H:Heap}{R:List Fp}(hs:HS (.of H []) F H [] R)(A:in64 x.kind)(E:in64 x.n)(O:in64 x.op)(U:SR F (sL a x.kids.length k) x.kids)(hd:in64 d)(Z:nmE x):
  C Try.prog 0 (KX ex) f.g (jJ f.fs (jJ [(aG [(iI x.kind),(iI x.n),(tX x.name.b),(iI x.op),(sL a x.kids.length k)]),(iI d)] f.cp)) H fun v H'=> ∃(o:Bool) (F':Fz),Fz.le F F'/\HS (.of H []) F' H' [] R/\v= .bool o/\o=m x d:=h.2 a k x d F H R (Fz.le_refl F) hs A E O U hd Z
mutual
def wkE(m:ExpT->Int->Bool):ExpT->Int->Bool
 |⟨k,n,nm,op,ks⟩,d=>m ⟨k,n,nm,op,ks⟩ d&&wkEs m ks (d+1)
def wkEs(m:ExpT->Int->Bool):List ExpT->Int->Bool
 | [],_=>true
 |e::l,d=>wkE m e d&&wkEs m l d
end
theorem wk_e{m:ExpT->Int->Bool}(x:ExpT)(d:Int):wkE m x d=(m x d&&wkEs m x.kids (d+1)):=by cases x;rw[wkE]
theorem wk_0{m:ExpT->Int->Bool}{x:ExpT}{d:Int}(h:m x d=false):wkE m x d=false:=by rw[wk_e,h];rfl
theorem wk_1{m:ExpT->Int->Bool}{x:ExpT}{d:Int}(h:m x d=true):wkE m x d=wkEs m x.kids (d+1):=by rw[wk_e,h];rfl
theorem wk_no{m:ExpT->Int->Bool}{l:List ExpT}{i:Nat}{d:Int}(h:i<l.length)(c:wkE m (l.getD i default) d=false):wkEs m (l.drop i) d=false:=by rw[drp5 (d:=default) h,wkEs,c];rfl
theorem wk_go{m:ExpT->Int->Bool}{l:List ExpT}{i:Nat}{d:Int}(h:i<l.length)(c:wkE m (l.getD i default) d=true):wkEs m (l.drop i) d=wkEs m (l.drop (i+1)) d:=by rw[drp5 (d:=default) h,wkEs,c];rfl
theorem wk_end{m:ExpT->Int->Bool}{l:List ExpT}{i:Nat}{d:Int}(h:l.length<=i):wkEs m (l.drop i) d=true:=by rw[ia h,wkEs]
mutual
def nmS:StmT->Prop
 |⟨_,nm,to,_,a,v,ar,t,e⟩=>nm.b.length<4611686018427387904/\to.b.length<4611686018427387904/\nmE a/\nmE v/\nmEs ar/\nmSs t/\nmSs e
def nmSs:List StmT->Prop
 | []=>True
 |s::l=>nmS s/\nmSs l
end
theorem nm_s{s:StmT}(h:nmS s):s.name.b.length<4611686018427387904/\s.to.b.length<4611686018427387904/\nmE s.at_/\nmE s.val/\nmEs s.args/\nmSs s.thn/\nmSs s.els:=by cases s;rwa [nmS]at h
theorem nms_at: ∀{l:List StmT} {i:Nat},nmSs l->i<l.length->nmS (l.getD i default)
 |e::l,0,h,_=>by rw[nmSs]at h;exact h.1
 |e::l,i+1,h,hi=>by rw[nmSs]at h;exact nms_at (l:=l) h.2 (by simpa using hi)
mutual
def nS5:StmT->Nat
 |⟨_,_,_,_,a,v,ar,t,e⟩=>1+nE5 a+nE5 v+nEs5 ar+mh t+mh e
def mh:List StmT->Nat
 | []=>0
 |s::l=>nS5 s+1+mh l
end
theorem nd_s(s:StmT):nS5 s=1+nE5 s.at_+nE5 s.val+nEs5 s.args+mh s.thn+mh s.els:=by cases s;rw[nS5]
theorem nds_len: ∀l:List StmT,l.length<=mh l
 | []=>a0p _
 |e::l=>by have:=nds_len l;rw[mh,a01];omega
theorem nds_at: ∀{l:List StmT} {i:Nat},i<l.length->nS5 (l.getD i default)<mh l
 |e::l,0,_=>by rw[mh];show nS5 e<_;omega
 |e::l,i+1,h=>by have:=nds_at (l:=l) (i:=i) (by simpa using h);rw[mh];show nS5 (l.getD i default)<_;omega
def FnS{σ:Type}(ex:FuncId)(f:FnV)(m:σ->StmT->Int->σ×Bool)(ps:σ->Fp)(F0:Fz):Prop:=
 (∃fn,Try.prog.funcs[f.g]?=some fn/\(fn.body.isSome&& !(fn.name== "runtime.NumGoroutine"))=true)/\
 ∀(U O E A a8:Option Addr) (ar an al Z k8:Nat) (s:StmT) (d:Int) (w:σ) (F:Fz) (H:Heap) (R:List Fp),Fz.le F0 F->HS (.of H ((ps w).map Prod.fst)) F H [ps w] R->in64 s.kind->in64 s.n->in64 s.at_.kind->in64 s.at_.n->in64 s.at_.op->SR F (sL a8 s.at_.kids.length k8) s.at_.kids->in64 s.val.kind->in64 s.val.n->in64 s.val.op->SR F (sL A s.val.kids.length Z) s.val.kids->SR F (sL E s.args.length al) s.args->SR F (sL O s.thn.length an) s.thn->SR F (sL U s.els.length ar) s.els->in64 d->nmS s->nS5 s<4611686018427387904->
  C Try.prog 0 (KX ex) f.g (jJ f.fs (jJ [(.agg ⟨[(iI s.kind),(tX s.name.b),(tX s.to.b),(iI s.n),(iI s.at_.kind),(iI s.at_.n),(tX s.at_.name.b),(iI s.at_.op),(sL a8 s.at_.kids.length k8),(iI s.val.kind),(iI s.val.n),(tX s.val.name.b),(iI s.val.op),(sL A s.val.kids.length Z),(sL E s.args.length al),(sL O s.thn.length an),(sL U s.els.length ar)]⟩),(iI d)] f.cp)) H fun v H'=> ∃(o:Bool) (w':σ) (F':Fz),Fz.le F F'/\HS (.of H ((ps w).map Prod.fst)) F' H' [ps w'] R/\v= .bool o/\w'=(m w s d).1/\o=(m w s d).2
theorem FnS.mono{σ:Type}{ex:FuncId}{f:FnV}{m:σ->StmT->Int->σ×Bool}{ps:σ->Fp}{F F':Fz}(h:FnS ex f m ps F)(U:Fz.le F F'):FnS ex f m ps F':=⟨h.1,fun a b c d e f g O i j k l m A H R E=>h.2 a b c d e f g O i j k l m A H R (fT U E)⟩
theorem FnS.call{σ:Type}{ex:FuncId}{f:FnV}{m:σ->StmT->Int->σ×Bool}{ps:σ->Fp}{F:Fz}(h:FnS ex f m ps F){U O E A a8:Option Addr}{an al Z a_ k8:Nat}(s:StmT)(d:Int)(w:σ){H:Heap}{R:List Fp}(hs:HS (.of H ((ps w).map Prod.fst)) F H [ps w] R)(h0:in64 s.kind)(h1:in64 s.n)(h2:in64 s.at_.kind)(h3:in64 s.at_.n)(h4:in64 s.at_.op)(h5:SR F (sL a8 s.at_.kids.length k8) s.at_.kids)(h6:in64 s.val.kind)(h7:in64 s.val.n)(h8:in64 s.val.op)(h9:SR F (sL A s.val.kids.length a_) s.val.kids)(g0:SR F (sL E s.args.length Z) s.args)(g1:SR F (sL O s.thn.length al) s.thn)(g2:SR F (sL U s.els.length an) s.els)(hd:in64 d)(hx:nmS s)(hn:nS5 s<4611686018427387904):
  C Try.prog 0 (KX ex) f.g (jJ f.fs (jJ [(aG [(iI s.kind),(tX s.name.b),(tX s.to.b),(iI s.n),(iI s.at_.kind),(iI s.at_.n),(tX s.at_.name.b),(iI s.at_.op),(sL a8 s.at_.kids.length k8),(iI s.val.kind),(iI s.val.n),(tX s.val.name.b),(iI s.val.op),(sL A s.val.kids.length a_),(sL E s.args.length Z),(sL O s.thn.length al),(sL U s.els.length an)]),(iI d)] f.cp)) H fun v H'=> ∃(o:Bool) (w':σ) (F':Fz),Fz.le F F'/\HS (.of H ((ps w).map Prod.fst)) F' H' [ps w'] R/\v= .bool o/\w'=(m w s d).1/\o=(m w s d).2:=h.2 U O E A a8 an al Z a_ k8 s d w F H R (Fz.le_refl F) hs h0 h1 h2 h3 h4 h5 h6 h7 h8 h9 g0 g1 g2 hd hx hn
section
variable {σ:Type} (m:σ->StmT->Int->σ×Bool)
mutual
def wsS:StmT->σ->Int->σ×Bool
 |⟨k,nm,to,n,a,v,ar,t,e⟩,w,d=>match m w ⟨k,nm,to,n,a,v,ar,t,e⟩ d with
  |(w1,false)=>(w1,false)
  |(w1,true)=>match wsL t w1 (d+1) with
   |(w2,false)=>(w2,false)
   |(w2,true)=>wsL e w2 (d+1)
def wsL:List StmT->σ->Int->σ×Bool
 | [],w,_=>(w,true)
 |s::l,w,d=>match wsS s w d with
  |(w1,false)=>(w1,false)
  |(w1,true)=>wsL l w1 d
end
end
theorem ws_s{σ:Type}{m:σ->StmT->Int->σ×Bool}(s:StmT)(w:σ)(d:Int):wsS m s w d=match m w s d with
  |(w1,false)=>(w1,false)
  |(w1,true)=>match wsL m s.thn w1 (d+1) with
   |(A,false)=>(A,false)
   |(A,true)=>wsL m s.els A (d+1):=by cases s;rw[wsS]
section
variable {σ:Type} {m:σ->StmT->Int->σ×Bool} {l:List StmT} {i:Nat} {w:σ} {d:Int}
theorem ws_l(h:i<l.length):wsL m (l.drop i) w d=match wsS m (l.getD i default) w d with
  |(w1,false)=>(w1,false)
  |(w1,true)=>wsL m (l.drop (i+1)) w1 d:=by rw[drp5 (d:=default) h,wsL]
theorem ws_1(h:i<l.length)(c:(m w (l.getD i default) d).2=false):wsL m (l.drop i) w d=((m w (l.getD i default) d).1,false):=by rw[ws_l h,ws_s];rcases e:m w (l.getD i default) d with⟨a,b⟩;rw[e]at c;subst c;rfl
theorem ws_2(h:i<l.length)(c:(m w (l.getD i default) d).2=true)(c2:(wsL m (l.getD i default).thn (m w (l.getD i default) d).1 (d+1)).2=false):wsL m (l.drop i) w d=((wsL m (l.getD i default).thn (m w (l.getD i default) d).1 (d+1)).1,false):=by rw[ws_l h,ws_s];rcases e:m w (l.getD i default) d with⟨a,b⟩;rw[e]at c c2;subst c;dsimp only at c2⊢;rcases A:wsL m (l.getD i default).thn a (d+1) with⟨E,O⟩;rw[A]at c2;subst c2;rfl
theorem ws_3(h:i<l.length)(c:(m w (l.getD i default) d).2=true)(c2:(wsL m (l.getD i default).thn (m w (l.getD i default) d).1 (d+1)).2=true)(A:(wsL m (l.getD i default).els (wsL m (l.getD i default).thn (m w (l.getD i default) d).1 (d+1)).1 (d+1)).2=false):wsL m (l.drop i) w d=((wsL m (l.getD i default).els (wsL m (l.getD i default).thn (m w (l.getD i default) d).1 (d+1)).1 (d+1)).1,false):=by rw[ws_l h,ws_s];rcases e:m w (l.getD i default) d with⟨a,b⟩;rw[e]at c c2 A;subst c;dsimp only at c2 A⊢;rcases O:wsL m (l.getD i default).thn a (d+1) with⟨E,Z⟩;rw[O]at c2 A;subst c2;dsimp only at A⊢;rcases U:wsL m (l.getD i default).els E (d+1) with⟨a_,b3⟩;rw[U]at A;subst A;rfl
theorem ws_4(h:i<l.length)(c:(m w (l.getD i default) d).2=true)(c2:(wsL m (l.getD i default).thn (m w (l.getD i default) d).1 (d+1)).2=true)(A:(wsL m (l.getD i default).els (wsL m (l.getD i default).thn (m w (l.getD i default) d).1 (d+1)).1 (d+1)).2=true):wsL m (l.drop i) w d=wsL m (l.drop (i+1)) (wsL m (l.getD i default).els (wsL m (l.getD i default).thn (m w (l.getD i default) d).1 (d+1)).1 (d+1)).1 d:=by rw[ws_l h,ws_s];rcases e:m w (l.getD i default) d with⟨a,b⟩;rw[e]at c c2 A;subst c;dsimp only at c2 A⊢;rcases O:wsL m (l.getD i default).thn a (d+1) with⟨E,Z⟩;rw[O]at c2 A;subst c2;dsimp only at A⊢;rcases U:wsL m (l.getD i default).els E (d+1) with⟨a_,b3⟩;rw[U]at A;subst A;rfl
theorem ws_e(h:l.length<=i):wsL m (l.drop i) w d=(w,true):=by rw[ia h,wsL]
end
theorem kI: ∀(fuel:Nat) {E:Option Addr} {O:Nat} (x:ExpT) (d:Int) (fu:FnV) (m:ExpT->Int->Bool) {F:Fz} {H:Heap} {R:List Fp} (hs:HS (.of H []) F H [] R) (bl:in64 x.kind) (bn:in64 x.n) (bt:in64 x.op) (A:SR F (sL E x.kids.length O) x.kids) (a1:FnE ex fu m F) (hx:nmE x) (hd:0<=d/\d+(nE5 x:Int)<4611686018427387904),nE5 x<fuel->kKt ex 35 [(aG [(iI x.kind),(iI x.n),(tX x.name.b),(iI x.op),(sL E x.kids.length O)]),(iI d),fu.v] H fun v H'=> ∃(o:Bool) (F':Fz),Fz.le F F'/\HS (.of H []) F' H' [] R/\v= .bool o/\o=wkE m x d:=by
 intro fuel;induction fuel with
 |zero=>intros;omega
 |succ fuel ih=>
 intro E O x d fu m F H R hs bl bn bt A a1 hx hd dt;obtain⟨_,ba,bb⟩:=a1.1;obtain⟨c7,a6⟩:=nm_e hx;have c4:=nde5 x;have c5:=ndl5 x.kids;refine aI Try.func35 V V ?_;refine ap 1 V ?_;refine ad ?_;refine ce (b5 hs V V) V V ?_;rintro _ H2 _ ⟨b1,rfl,a4,_⟩;refine wa (.bool false) V V V ?_;refine am 3 V ?_;refine ad ?_;refine du 3 0 9 11 [] [(9,fu.v),(10,(aG [(iI x.kind),(iI x.n),(tX x.name.b),(iI x.op),(sL E x.kids.length O)])),(11,(iI d))] (Hr_ 1 0 Hn_) a4 V V fun _=>?_
 refine ay (ap_callc V ba bb V) V V (a1.call x d (HS.call a4) M M M A M (by first|assumption)) ?_;rintro _ H4 ⟨o4,F4,Z,an,rfl,rfl⟩;replace an:=HS.back a4 V an;replace a1:=a1.mono Z;replace A:=A.mono Z;refine dG 1 4 13 13 [] [(13,(.bool (!(m x d))))] Hn_ (by kernel_rfl) V fun _=>?_
 refine am 1 V ?_;refine ao 1 3 (v:=(!(m x d))) V V V V (fun c6=>?_) (fun c6=>?_)
 ·try simp only[BS]at c6
  have ar:=c6;refine wT 1 [] 6 6 [] [(6,(.bool false))] V fun _=>?_
  refine ag ⟨.inr V,_,V,false,_,(Z),(HS.forget an),V,(by first|exact(wk_0 ar).symm|exact(h1.trans ar).symm|exact(h1.trans (wk_end M)).symm)⟩
 try simp only[BS]at c6
 have cp:=c6;refine ef 2 14 17 [] [(15,(sL E x.kids.length O)),(16,(iI (x.kids.length:Int))),(17,(iI 0))] (Hr_ 1 0 Hn_) an V V fun _=>?_
 refine au (fun(mm:Nat) f H'=> ∃(i:Nat) (F':Fz),Fz.le F4 F'/\HS (Base.of H []) F' H' [(fP b1 [(iI x.kind),(iI x.n),(tX x.name.b),(iI x.op),(sL E x.kids.length O)])] R/\aM f [(1,(iI d)),(2,fu.v),(15,(sL E x.kids.length O)),(16,(iI (x.kids.length:Int))),(17,(iI (i:Int)))]/\mm=x.kids.length-i/\(wkE m x d=wkEs m (x.kids.drop i) (d+1))/\(i<=x.kids.length)) _ ⟨0,_,fR,an,(agC V (agC V (agC V (agC V (agC V agN))))),V,(by exact wk_1 cp),(by first|assumption|omega|(simp at *;omega))⟩ ?_;rintro c0 f9 H9 ⟨i,F9,al,aA,a8,rfl,h1,hi⟩ bw;refine aF _ a8 (fun _=>?_);clear a8;replace a1:=a1.mono al;replace A:=A.mono al;refine ap 1 V ?_;refine wT 2 [] 18 18 [] [(18,(.bool (decide ((i:Int)<(x.kids.length:Int)))))] V fun _=>?_
 refine ao 4 5 (v:=(decide ((i:Int)<(x.kids.length:Int)))) V V V V (fun a0=>?_) (fun a0=>?_)
 ·try simp only[BS]at a0
  have qa:=nda5 (l:=x.kids) (i:=i) M;refine ad ?_;obtain⟨a2,a5⟩:=Sv.view (SR.sv A aA);obtain⟨bF,b0,b2,a7⟩:=ExpT.fx (a5 i);let a9:Value:=(aG [(iI (x.kids.getD i default).kind),(iI (x.kids.getD i default).n),(tX (x.kids.getD i default).name.b),(iI (x.kids.getD i default).op),(sL (cA (a2 i) 4) (x.kids.getD i default).kids.length (cK (a2 i) 4))])
  refine dG 2 0 19 20 [] [(20,a9)] (Ha_ (Sv.ix (j:=(i:Int)) (SR.sv A aA) M M) (Hl_ 1 (qn 40 0 5 (ExpT.vw (a5 i) M) V V V V) Hn_)) (by kernel_rfl) V fun _=>?_
  refine zn aA V fun co b9 bf=>?_
  refine sgo 1 3 1 0 [] [] (Hr_ 3 1 Hn_) bf V V fun b6 ch ax=>?_
  refine am 2 V ?_;refine ad ?_;refine du 4 0 21 24 [] [(21,a9),(23,(iI (d+1))),(24,fu.v)] (Hr_ 0 1 (Ha_ (vi (n:=d+1) M) Hn_)) ax V V fun _=>?_
  refine ay (aq V V V) V V (ih (x.kids.getD i default) (d+1) fu m (HS.call ax) M M M a7 a1 (by first|omega|exact jq a6 M) (by first|omega|exact jq a6 M) (by first|omega|exact jq a6 M)) ?_;rintro _ ci ⟨c3,b8,a3,U,rfl,rfl⟩;replace U:=HS.back ax V U;refine dG 1 5 26 26 [] [(26,(.bool (!(wkE m (x.kids.getD i default) (d+1)))))] Hn_ (by kernel_rfl) V fun _=>?_
  refine am 1 V ?_;refine ao 1 2 (v:=(!(wkE m (x.kids.getD i default) (d+1)))) V V V V (fun a_=>?_) (fun a_=>?_)
  ·try simp only[BS]at a_
   have ar:=wk_no (l:=x.kids) (i:=i) M (by simpa using a_);refine wT 1 [] 6 6 [] [(6,(.bool false))] V fun _=>?_
   refine ag ⟨.inr V,_,V,false,_,(fT (fT (Z) al) a3),(HS.forget U),V,(by first|exact(wk_0 ar).symm|exact(h1.trans ar).symm|exact(h1.trans (wk_end M)).symm)⟩
  try simp only[BS]at a_
  have cp:=wk_go (l:=x.kids) (i:=i) M (by simpa using a_);refine wU 1 [] 17 17 [27] [(17,(iI ((i:Int)+1)))] (vi (n:=(i:Int)+1) M) V fun _=>?_
  refine bw _ _ _ ?_ ⟨i+1,_,(fT (al) a3),(HS.sub U (a06 _ _)),(agC V (agC V (agC V (agC V (agC V agN))))),V,(by exact h1.trans cp),(by first|assumption|omega|(simp at *;omega))⟩;omega
 try simp only[BS]at a0
 refine wT 1 [] 6 6 [] [(6,(.bool true))] V fun _=>?_
 refine ag ⟨.inr V,_,V,true,_,(fT (Z) al),(HS.forget aA),V,(by first|exact(wk_0 ar).symm|exact(h1.trans ar).symm|exact(h1.trans (wk_end M)).symm)⟩
theorem dL{A:Option Addr}{E:Nat}(x:ExpT)(d:Int)(fu:FnV)(m:ExpT->Int->Bool)(hs:HS (.of H []) F H [] R)(O:in64 x.kind)(U:in64 x.n)(a_:in64 x.op)(Z:SR F (sL A x.kids.length E) x.kids)(an:FnE ex fu m F)(hx:nmE x)(hd:0<=d/\d+(nE5 x:Int)<4611686018427387904):kKt ex 35 [(aG [(iI x.kind),(iI x.n),(tX x.name.b),(iI x.op),(sL A x.kids.length E)]),(iI d),fu.v] H fun v H'=> ∃(o:Bool) (F':Fz),Fz.le F F'/\HS (.of H []) F' H' [] R/\v= .bool o/\o=wkE m x d:=
 kI ex (nE5 x+1) x d fu m hs O U a_ Z an hx hd (a1d _)
theorem jP: ∀(fuel:Nat) {cp:Option Addr} {cv:Nat} (l:List StmT) (d:Int) {σ:Type} (fu:FnV) (m:σ->StmT->Int->σ×Bool) {ps:σ->Fp} (w:σ) {F:Fz} {H:Heap} {R:List Fp} (hs:HS (.of H ((ps w).map Prod.fst)) F H [(ps w)] R) (hl:SR F (sL cp l.length cv) l) (bl:FnS ex fu m ps F) (hx:nmSs l) (hd:0<=d/\d+(mh l:Int)<4611686018427387904),mh l<fuel->kKt ex 29 [(sL cp l.length cv),(iI d),fu.v] H fun v H'=> ∃(o:Bool) (w':σ) (F':Fz),Fz.le F F'/\HS (.of H ((ps w).map Prod.fst)) F' H' [(ps w')] R/\v= .bool o/\w'=(wsL m l w d).1/\o=(wsL m l w d).2:=by
 intro fuel;induction fuel with
 |zero=>intros;omega
 |succ fuel ih=>
 intro cp cv l d σ fu m ps w F H R hs hl bl hx hd e5;obtain⟨_,bn,bt⟩:=bl.1;have d6:=nds_len l;refine aI Try.func29 V V ?_;refine ap 1 V ?_;refine wT 3 [] 6 6 [] [(6,(.bool false))] V fun _=>?_
 refine wT 2 [] 9 11 [] [(9,(sL cp l.length cv)),(10,(iI (l.length:Int))),(11,(iI 0))] V fun _=>?_
 refine au (fun(mm:Nat) f H'=> ∃(i:Nat) (A:σ) (F':Fz),Fz.le F F'/\HS (Base.of H ((ps w).map Prod.fst)) F' H' [(ps A)] R/\aM f [(1,(iI d)),(2,fu.v),(9,(sL cp l.length cv)),(10,(iI (l.length:Int))),(11,(iI (i:Int)))]/\mm=l.length-i/\(wsL m l w d=wsL m (l.drop i) A d)/\(i<=l.length)) _ ⟨0,w,_,fR,hs,(agC V (agC V (agC V (agC V (agC V agN))))),V,q_,(by first|assumption|omega|(simp at *;omega))⟩ ?_;rintro d2 f3 H3 ⟨i,A,F3,a0,a5,ba,rfl,E,hi⟩ b1;refine aF _ ba (fun _=>?_);clear ba;replace bl:=bl.mono a0;replace hl:=hl.mono a0;refine ap 1 V ?_;refine wT 2 [] 12 12 [] [(12,(.bool (decide ((i:Int)<(l.length:Int)))))] V fun _=>?_
 refine ao 4 5 (v:=(decide ((i:Int)<(l.length:Int)))) V V V V (fun c5=>?_) (fun c5=>?_)
 ·try simp only[BS]at c5
  have qa:=nds_at (l:=l) (i:=i) M;have qs:=nd_s (l.getD i default);have e4:=nms_at hx (i:=i) M;obtain⟨_,_,_,_,_,qt,qe⟩:=nm_s e4;refine ad ?_;obtain⟨a_,bb⟩:=Sv.view (SR.sv hl a5);obtain⟨b4,b6,b8,ch,ci,co,b2,b3,bF,a8,a9,ax,Z⟩:=StmT.fx (bb i);let bf:Value:=(aG [(iI (l.getD i default).kind),(tX (l.getD i default).name.b),(tX (l.getD i default).to.b),(iI (l.getD i default).n),(iI (l.getD i default).at_.kind),(iI (l.getD i default).at_.n),(tX (l.getD i default).at_.name.b),(iI (l.getD i default).at_.op),(sL (cA (a_ i) 8) (l.getD i default).at_.kids.length (cK (a_ i) 8)),(iI (l.getD i default).val.kind),(iI (l.getD i default).val.n),(tX (l.getD i default).val.name.b),(iI (l.getD i default).val.op),(sL (cA (a_ i) 13) (l.getD i default).val.kids.length (cK (a_ i) 13)),(sL (cA (a_ i) 14) (l.getD i default).args.length (cK (a_ i) 14)),(sL (cA (a_ i) 15) (l.getD i default).thn.length (cK (a_ i) 15)),(sL (cA (a_ i) 16) (l.getD i default).els.length (cK (a_ i) 16))])
  refine dG 2 0 13 14 [] [(14,bf)] (Ha_ (Sv.ix (j:=(i:Int)) (SR.sv hl a5) M M) (Hl_ 1 (qn 49 0 17 (StmT.vw (bb i) M) V V V V) Hn_)) (by kernel_rfl) V fun _=>?_
  refine zn a5 V fun b9 dk bw=>?_
  refine sgo 1 3 1 0 [] [] (Hr_ 3 1 Hn_) bw V V fun c0 dn a2=>?_
  refine am 2 V ?_;refine ad ?_;refine wm fu.v V V V ?_;refine aP (v:=bf) (ap_ldN (i:=0) V V V (i_ a2 V) V V V) V V ?_;refine wm (iI d) V V V ?_;refine ay (ap_callc V bn bt V) V V (bl.call (l.getD i default) d A (g_ a2 V) M M M M M bF M M M a8 a9 ax Z M p_ p_) ?_;rintro _ ds ⟨d3,c3,c7,al,an,rfl,rfl,rfl⟩;replace an:=a2.bO an;replace bl:=bl.mono al;replace ax:=ax.mono al;replace Z:=Z.mono al;refine aP (v:=(.bool (!((m A (l.getD i default) d).2)))) (ap_not V) V V ?_;refine wm (.bool (!((m A (l.getD i default) d).2))) V V V ?_;refine wo_gsF (v:=(!((m A (l.getD i default) d).2))) V V (fun O=>?_) (fun O=>?_)
  ·have a3:=O;try simp only[BS]at a3
   refine aP (v:=(pT b9 15)) (ap_fa V V) V V ?_;refine eE V O ?_;refine aP (v:=(sL (cA (a_ i) 15) (l.getD i default).thn.length (cK (a_ i) 15))) (er (i:=15) V V (i_ an V) V V) V V ?_;refine eE V O ?_;refine wm (iI d) V V V ?_;refine eE V O ?_;refine aP (v:=(iI (d+1))) (ap_add V V (w_i64 (n:=d+1) M)) V V ?_;refine eE V O ?_;refine wm fu.v V V V ?_;refine eE V O ?_;refine ay (aq V V V) V V (ih (l.getD i default).thn (d+1) fu m ((m A (l.getD i default) d).1) (g_ an V) ax bl o_ o_ o_) ?_;rintro _ dt ⟨d4,c4,c8,aA,ar,rfl,rfl,rfl⟩;replace ar:=an.bO ar;replace bl:=bl.mono aA;replace Z:=Z.mono aA;refine eE V O ?_;refine aP (v:=(.bool (!((wsL m (l.getD i default).thn ((m A (l.getD i default) d).1) (d+1)).2)))) (ap_not V) V V ?_;refine aP (v:=(.bool (!((wsL m (l.getD i default).thn ((m A (l.getD i default) d).1) (d+1)).2)))) (iE V O V) V V ?_;refine wm (.bool (!((wsL m (l.getD i default).thn ((m A (l.getD i default) d).1) (d+1)).2))) V V V ?_;refine wo_gsF (v:=(!((wsL m (l.getD i default).thn ((m A (l.getD i default) d).1) (d+1)).2))) V V (fun U=>?_) (fun U=>?_)
   ·have a4:=U;try simp only[BS]at a4
    refine aP (v:=(pT b9 16)) (ap_fa V V) V V ?_;refine eE V U ?_;refine aP (v:=(sL (cA (a_ i) 16) (l.getD i default).els.length (cK (a_ i) 16))) (er (i:=16) V V (i_ ar V) V V) V V ?_;refine eE V U ?_;refine wm (iI d) V V V ?_;refine eE V U ?_;refine aP (v:=(iI (d+1))) (ap_add V V (w_i64 (n:=d+1) M)) V V ?_;refine eE V U ?_;refine wm fu.v V V V ?_;refine eE V U ?_;refine ay (aq V V V) V V (ih (l.getD i default).els (d+1) fu m ((wsL m (l.getD i default).thn ((m A (l.getD i default) d).1) (d+1)).1) (g_ ar V) Z bl o_ o_ o_) ?_;rintro _ d1 ⟨d5,c6,c9,a7,a1,rfl,rfl,rfl⟩;replace a1:=ar.bO a1;refine eE V U ?_;refine aP (v:=(.bool (!((wsL m (l.getD i default).els ((wsL m (l.getD i default).thn ((m A (l.getD i default) d).1) (d+1)).1) (d+1)).2)))) (ap_not V) V V ?_;refine aP (v:=(.bool (!((wsL m (l.getD i default).els ((wsL m (l.getD i default).thn ((m A (l.getD i default) d).1) (d+1)).1) (d+1)).2)))) (iE V U V) V V ?_;refine bW ?_;refine ap 1 V ?_;refine ao 1 2 (v:=(!((wsL m (l.getD i default).els ((wsL m (l.getD i default).thn ((m A (l.getD i default) d).1) (d+1)).1) (d+1)).2))) V V V V (fun a6=>?_) (fun a6=>?_)
    ·try simp only[BS]at a6
     refine wT 1 [] 6 6 [] [(6,(.bool false))] V fun _=>?_
     refine ag ⟨.inr V,_,V,false,(wsL m (l.getD i default).els ((wsL m (l.getD i default).thn ((m A (l.getD i default) d).1) (d+1)).1) (d+1)).1,_,(fT (fT (fT (a0) al) aA) a7),(HS.first a1),V,(by first|(rw[E,ws_e M];done)|(rw[E,ws_1 M X];done)|(rw[E,ws_2 M X X];done)|(rw[E,ws_3 M X X X];done)),(by first|(rw[E,ws_e M];done)|(rw[E,ws_1 M X];done)|(rw[E,ws_2 M X X];done)|(rw[E,ws_3 M X X X];done))⟩
    try simp only[BS]at a6
    refine wU 1 [] 11 11 [38] [(11,(iI ((i:Int)+1)))] (vi (n:=(i:Int)+1) M) V fun _=>?_
    refine b1 _ _ _ ?_ ⟨i+1,(wsL m (l.getD i default).els ((wsL m (l.getD i default).thn ((m A (l.getD i default) d).1) (d+1)).1) (d+1)).1,_,(fT (fT (fT (a0) al) aA) a7),(HS.sub a1 (a06 _ _)),(agC V (agC V (agC V (agC V (agC V agN))))),V,(by rw[E,ws_4 M X X X]),(by first|assumption|omega|(simp at *;omega))⟩;omega
   have a4:=U;try simp only[BS]at a4
   refine cN V U V ?_;refine cN V U V ?_;refine cN V U V ?_;refine cN V U V ?_;refine cN V U V ?_;refine cN V U V ?_;refine aP (v:=(.bool true)) (gD V U V) V V ?_;refine bW ?_;refine ap 1 V ?_;refine cL 1 (v:=true) V V V V ?_;refine wT 1 [] 6 6 [] [(6,(.bool false))] V fun _=>?_
   refine ag ⟨.inr V,_,V,false,(wsL m (l.getD i default).thn ((m A (l.getD i default) d).1) (d+1)).1,_,(fT (fT (a0) al) aA),(HS.first ar),V,(by first|(rw[E,ws_e M];done)|(rw[E,ws_1 M X];done)|(rw[E,ws_2 M X X];done)|(rw[E,ws_3 M X X X];done)),(by first|(rw[E,ws_e M];done)|(rw[E,ws_1 M X];done)|(rw[E,ws_2 M X X];done)|(rw[E,ws_3 M X X X];done))⟩
  have a3:=O;try simp only[BS]at a3
  refine cN V O V ?_;refine cN V O V ?_;refine cN V O V ?_;refine cN V O V ?_;refine cN V O V ?_;refine cN V O V ?_;refine aP (v:=(.bool true)) (gD V O V) V V ?_;refine wm (.bool true) V V V ?_;refine cN V V V ?_;refine cN V V V ?_;refine cN V V V ?_;refine cN V V V ?_;refine cN V V V ?_;refine cN V V V ?_;refine cN V V V ?_;refine aP (v:=(.bool true)) (gD V V V) V V ?_;refine bW ?_;refine ap 1 V ?_;refine cL 1 (v:=true) V V V V ?_;refine wT 1 [] 6 6 [] [(6,(.bool false))] V fun _=>?_
  refine ag ⟨.inr V,_,V,false,(m A (l.getD i default) d).1,_,(fT (a0) al),(HS.first an),V,(by first|(rw[E,ws_e M];done)|(rw[E,ws_1 M X];done)|(rw[E,ws_2 M X X];done)|(rw[E,ws_3 M X X X];done)),(by first|(rw[E,ws_e M];done)|(rw[E,ws_1 M X];done)|(rw[E,ws_2 M X X];done)|(rw[E,ws_3 M X X X];done))⟩
 try simp only[BS]at c5
 refine wT 1 [] 6 6 [] [(6,(.bool true))] V fun _=>?_
 refine ag ⟨.inr V,_,V,true,A,_,(a0),(HS.first a5),V,(by first|(rw[E,ws_e M];done)|(rw[E,ws_1 M X];done)|(rw[E,ws_2 M X X];done)|(rw[E,ws_3 M X X X];done)),(by first|(rw[E,ws_e M];done)|(rw[E,ws_1 M X];done)|(rw[E,ws_2 M X X];done)|(rw[E,ws_3 M X X X];done))⟩
theorem gL{A:Option Addr}{E:Nat}(l:List StmT)(d:Int){σ:Type}(O:FnV)(m:σ->StmT->Int->σ×Bool){ps:σ->Fp}(w:σ)(hs:HS (.of H ((ps w).map Prod.fst)) F H [(ps w)] R)(Z:SR F (sL A l.length E) l)(U:FnS ex O m ps F)(hx:nmSs l)(hd:0<=d/\d+(mh l:Int)<4611686018427387904):kKt ex 29 [(sL A l.length E),(iI d),O.v] H fun v H'=> ∃(o:Bool) (w':σ) (F':Fz),Fz.le F F'/\HS (.of H ((ps w).map Prod.fst)) F' H' [(ps w')] R/\v= .bool o/\w'=(wsL m l w d).1/\o=(wsL m l w d).2:=
 jP ex (mh l+1) l d O m w hs Z U hx hd (a1d _)
end Go.Proofs.Ytkpgbdkkgcdhmaa.db
