/-
How the checker of the program walks through expressions and statements with a function. No condition but that names have less than 2^62 bytes.
-/
import Derived.Test.YtkpgbdkkgcdhmaaGreatZPL1
import Derived.Test.YtkpgbdkkgcdhmaaGreatZPDA
noncomputable section
namespace Go.Proofs.YtkpgbdkkgcdhmaaGreat.db
open Go.R
set_option maxRecDepth 10000
set_option linter.unusedVariables false
set_option linter.unusedSimpArgs false
variable (ex:FuncId) {F:Fz} {H:Heap} {R:List Fp}
open w3 l1 pt da
structure FnV where
 g:FuncId
 fs:List Value
 cp:List Value
abbrev FnV.v(f:FnV):Value:= .func (.func f.g) ⟨f.fs⟩ ⟨f.cp⟩
mutual
def nE5:ExpT->Nat
 |⟨_,_,_,_,ks⟩=>1+nEs5 ks
def nEs5:List ExpT->Nat
 | []=>0
 |e::l=>nE5 e+1+nEs5 l
end
theorem nde5(e:ExpT):nE5 e=1+nEs5 e.kids:=by cases e;rw[nE5]
theorem ndl5: ∀l:List ExpT,l.length<=nEs5 l
 | []=>a0B _
 |e::l=>by have:=ndl5 l;rw[nEs5,a03];omega
theorem nda5: ∀{l:List ExpT} {i:Nat},i<l.length->nE5 (l.getD i default)<nEs5 l
 |e::l,0,_=>by rw[nEs5];show nE5 e<_;omega
 |e::l,i+1,h=>by have:=nda5 (l:=l) (i:=i) (by simpa using h);rw[nEs5];show nE5 (l.getD i default)<_;omega
def FnE(ex:FuncId)(f:FnV)(m:ExpT->Int->Bool)(A:Fz):Prop:=
 (∃fn,Tryz.prog.funcs[f.g]?=some fn/\(fn.body.isSome&& !(fn.name== "runtime.NumGoroutine"))=true)/\
 ∀(a:Option Addr) (k:Nat) (x:ExpT) (d:Int) (F:Fz) (H:Heap) (R:List Fp),Fz.le A F->HS (.of H []) F H [] R->in64 x.kind->in64 x.n->in64 x.op->SR F (.slice a x.kids.length k) x.kids->in64 d->nmE x->
  C Tryz.prog 0 (KX ex) f.g (jD f.fs (jD [(.agg ⟨[(.int .i64 x.kind),(.int .i64 x.n),(.string ⟨⟨x.name.b⟩⟩),(.int .i64 x.op),(.slice a x.kids.length k)]⟩),(.int .i64 d)] f.cp)) H fun v H'=> ∃(o:Bool) (F':Fz),Fz.le F F'/\HS (.of H []) F' H' [] R/\v= .bool o/\o=m x d
theorem FnE.mono{ex:FuncId}{f:FnV}{m:ExpT->Int->Bool}{F F':Fz}(h:FnE ex f m F)(O:Fz.le F F'):FnE ex f m F':=⟨h.1,fun a k x d A H R E=>h.2 a k x d A H R (fT O E)⟩
theorem FnE.call{ex:FuncId}{f:FnV}{m:ExpT->Int->Bool}{F:Fz}(h:FnE ex f m F){a:Option Addr}{k:Nat}(x:ExpT)(d:Int){H:Heap}{R:List Fp}(hs:HS (.of H []) F H [] R)(A:in64 x.kind)(E:in64 x.n)(O:in64 x.op)(T:SR F (sL a x.kids.length k) x.kids)(hd:in64 d)(U:nmE x):
  C Tryz.prog 0 (KX ex) f.g (jD f.fs (jD [(aG [(iI x.kind),(iI x.n),(.string ⟨⟨x.name.b⟩⟩),(iI x.op),(sL a x.kids.length k)]),(iI d)] f.cp)) H fun v H'=> ∃(o:Bool) (F':Fz),Fz.le F F'/\HS (.of H []) F' H' [] R/\v= .bool o/\o=m x d:=h.2 a k x d F H R (Fz.le_refl F) hs A E O T hd U
mutual
def wkE(m:ExpT->Int->Bool):ExpT->Int->Bool
 |⟨k,n,nm,op,ks⟩,d=>m ⟨k,n,nm,op,ks⟩ d&&wkEs m ks (d+1)
def wkEs(m:ExpT->Int->Bool):List ExpT->Int->Bool
 | [],_=>true
 |e::l,d=>wkE m e d&&wkEs m l d
end
theorem wk_e{m:ExpT->Int->Bool}(x:ExpT)(d:Int):wkE m x d=(m x d&&wkEs m x.kids (d+1)):=by cases x;rw[wkE]
theorem wk_0{m:ExpT->Int->Bool}{x:ExpT}{d:Int}(h:m x d=false):wkE m x d=false:=by rw[wk_e,h];rfl
theorem wk_1{m:ExpT->Int->Bool}{x:ExpT}{d:Int}(h:m x d=true):wkE m x d=wkEs m x.kids (d+1):=by rw[wk_e,h];rfl
theorem wk_no{m:ExpT->Int->Bool}{l:List ExpT}{i:Nat}{d:Int}(h:i<l.length)(c:wkE m (l.getD i default) d=false):wkEs m (l.drop i) d=false:=by rw[drp5 (d:=default) h,wkEs,c];rfl
theorem wk_go{m:ExpT->Int->Bool}{l:List ExpT}{i:Nat}{d:Int}(h:i<l.length)(c:wkE m (l.getD i default) d=true):wkEs m (l.drop i) d=wkEs m (l.drop (i+1)) d:=by rw[drp5 (d:=default) h,wkEs,c];rfl
theorem wk_end{m:ExpT->Int->Bool}{l:List ExpT}{i:Nat}{d:Int}(h:l.length<=i):wkEs m (l.drop i) d=true:=by rw[dre5 h,wkEs]
mutual
def nmS:StmT->Prop
 |⟨_,nm,to,_,a,v,ar,t,e⟩=>nm.b.length<4611686018427387904/\to.b.length<4611686018427387904/\nmE a/\nmE v/\nmEs ar/\nmSs t/\nmSs e
def nmSs:List StmT->Prop
 | []=>True
 |s::l=>nmS s/\nmSs l
end
theorem nm_s{s:StmT}(h:nmS s):s.name.b.length<4611686018427387904/\s.to.b.length<4611686018427387904/\nmE s.at_/\nmE s.val/\nmEs s.args/\nmSs s.thn/\nmSs s.els:=by cases s;rwa [nmS]at h
theorem nms_at: ∀{l:List StmT} {i:Nat},nmSs l->i<l.length->nmS (l.getD i default)
 |e::l,0,h,_=>by rw[nmSs]at h;exact h.1
 |e::l,i+1,h,hi=>by rw[nmSs]at h;exact nms_at (l:=l) h.2 (by simpa using hi)
mutual
def nS5:StmT->Nat
 |⟨_,_,_,_,a,v,ar,t,e⟩=>1+nE5 a+nE5 v+nEs5 ar+nSs5 t+nSs5 e
def nSs5:List StmT->Nat
 | []=>0
 |s::l=>nS5 s+1+nSs5 l
end
theorem nd_s(s:StmT):nS5 s=1+nE5 s.at_+nE5 s.val+nEs5 s.args+nSs5 s.thn+nSs5 s.els:=by cases s;rw[nS5]
theorem nds_len: ∀l:List StmT,l.length<=nSs5 l
 | []=>a0B _
 |e::l=>by have:=nds_len l;rw[nSs5,a03];omega
theorem nds_at: ∀{l:List StmT} {i:Nat},i<l.length->nS5 (l.getD i default)<nSs5 l
 |e::l,0,_=>by rw[nSs5];show nS5 e<_;omega
 |e::l,i+1,h=>by have:=nds_at (l:=l) (i:=i) (by simpa using h);rw[nSs5];show nS5 (l.getD i default)<_;omega
def FnS{σ:Type}(ex:FuncId)(f:FnV)(m:σ->StmT->Int->σ×Bool)(ps:σ->Fp)(F0:Fz):Prop:=
 (∃fn,Tryz.prog.funcs[f.g]?=some fn/\(fn.body.isSome&& !(fn.name== "runtime.NumGoroutine"))=true)/\
 ∀(T O E A a8:Option Addr) (Z Y V U k8:Nat) (s:StmT) (d:Int) (w:σ) (F:Fz) (H:Heap) (R:List Fp),Fz.le F0 F->HS (.of H ((ps w).map Prod.fst)) F H [ps w] R->in64 s.kind->in64 s.n->in64 s.at_.kind->in64 s.at_.n->in64 s.at_.op->SR F (.slice a8 s.at_.kids.length k8) s.at_.kids->in64 s.val.kind->in64 s.val.n->in64 s.val.op->SR F (.slice A s.val.kids.length U) s.val.kids->SR F (.slice E s.args.length V) s.args->SR F (.slice O s.thn.length Y) s.thn->SR F (.slice T s.els.length Z) s.els->in64 d->nmS s->nS5 s<4611686018427387904->
  C Tryz.prog 0 (KX ex) f.g (jD f.fs (jD [(.agg ⟨[(.int .i64 s.kind),(.string ⟨⟨s.name.b⟩⟩),(.string ⟨⟨s.to.b⟩⟩),(.int .i64 s.n),(.int .i64 s.at_.kind),(.int .i64 s.at_.n),(.string ⟨⟨s.at_.name.b⟩⟩),(.int .i64 s.at_.op),(.slice a8 s.at_.kids.length k8),(.int .i64 s.val.kind),(.int .i64 s.val.n),(.string ⟨⟨s.val.name.b⟩⟩),(.int .i64 s.val.op),(.slice A s.val.kids.length U),(.slice E s.args.length V),(.slice O s.thn.length Y),(.slice T s.els.length Z)]⟩),(.int .i64 d)] f.cp)) H fun v H'=> ∃(o:Bool) (w':σ) (F':Fz),Fz.le F F'/\HS (.of H ((ps w).map Prod.fst)) F' H' [ps w'] R/\v= .bool o/\w'=(m w s d).1/\o=(m w s d).2
theorem FnS.mono{σ:Type}{ex:FuncId}{f:FnV}{m:σ->StmT->Int->σ×Bool}{ps:σ->Fp}{F F':Fz}(h:FnS ex f m ps F)(T:Fz.le F F'):FnS ex f m ps F':=⟨h.1,fun a b c d e f g O i j k l m A H R E=>h.2 a b c d e f g O i j k l m A H R (fT T E)⟩
theorem FnS.call{σ:Type}{ex:FuncId}{f:FnV}{m:σ->StmT->Int->σ×Bool}{ps:σ->Fp}{F:Fz}(h:FnS ex f m ps F){T O E A a8:Option Addr}{Z Y V U k8:Nat}(s:StmT)(d:Int)(w:σ){H:Heap}{R:List Fp}(hs:HS (.of H ((ps w).map Prod.fst)) F H [ps w] R)(h0:in64 s.kind)(h1:in64 s.n)(h2:in64 s.at_.kind)(h3:in64 s.at_.n)(h4:in64 s.at_.op)(h5:SR F (sL a8 s.at_.kids.length k8) s.at_.kids)(h6:in64 s.val.kind)(h7:in64 s.val.n)(h8:in64 s.val.op)(h9:SR F (sL A s.val.kids.length U) s.val.kids)(g0:SR F (sL E s.args.length V) s.args)(g1:SR F (sL O s.thn.length Y) s.thn)(g2:SR F (sL T s.els.length Z) s.els)(hd:in64 d)(hx:nmS s)(hn:nS5 s<4611686018427387904):
  C Tryz.prog 0 (KX ex) f.g (jD f.fs (jD [(aG [(iI s.kind),(.string ⟨⟨s.name.b⟩⟩),(.string ⟨⟨s.to.b⟩⟩),(iI s.n),(iI s.at_.kind),(iI s.at_.n),(.string ⟨⟨s.at_.name.b⟩⟩),(iI s.at_.op),(sL a8 s.at_.kids.length k8),(iI s.val.kind),(iI s.val.n),(.string ⟨⟨s.val.name.b⟩⟩),(iI s.val.op),(sL A s.val.kids.length U),(sL E s.args.length V),(sL O s.thn.length Y),(sL T s.els.length Z)]),(iI d)] f.cp)) H fun v H'=> ∃(o:Bool) (w':σ) (F':Fz),Fz.le F F'/\HS (.of H ((ps w).map Prod.fst)) F' H' [ps w'] R/\v= .bool o/\w'=(m w s d).1/\o=(m w s d).2:=h.2 T O E A a8 Z Y V U k8 s d w F H R (Fz.le_refl F) hs h0 h1 h2 h3 h4 h5 h6 h7 h8 h9 g0 g1 g2 hd hx hn
section
variable {σ:Type} (m:σ->StmT->Int->σ×Bool)
mutual
def wsS:StmT->σ->Int->σ×Bool
 |⟨k,nm,to,n,a,v,ar,t,e⟩,w,d=>match m w ⟨k,nm,to,n,a,v,ar,t,e⟩ d with
  |(w1,false)=>(w1,false)
  |(w1,true)=>match wsL t w1 (d+1) with
   |(w2,false)=>(w2,false)
   |(w2,true)=>wsL e w2 (d+1)
def wsL:List StmT->σ->Int->σ×Bool
 | [],w,_=>(w,true)
 |s::l,w,d=>match wsS s w d with
  |(w1,false)=>(w1,false)
  |(w1,true)=>wsL l w1 d
end
end
theorem ws_s{σ:Type}{m:σ->StmT->Int->σ×Bool}(s:StmT)(w:σ)(d:Int):wsS m s w d=match m w s d with
  |(w1,false)=>(w1,false)
  |(w1,true)=>match wsL m s.thn w1 (d+1) with
   |(A,false)=>(A,false)
   |(A,true)=>wsL m s.els A (d+1):=by cases s;rw[wsS]
section
variable {σ:Type} {m:σ->StmT->Int->σ×Bool} {l:List StmT} {i:Nat} {w:σ} {d:Int}
theorem ws_l(h:i<l.length):wsL m (l.drop i) w d=match wsS m (l.getD i default) w d with
  |(w1,false)=>(w1,false)
  |(w1,true)=>wsL m (l.drop (i+1)) w1 d:=by rw[drp5 (d:=default) h,wsL]
theorem ws_1(h:i<l.length)(c:(m w (l.getD i default) d).2=false):wsL m (l.drop i) w d=((m w (l.getD i default) d).1,false):=by rw[ws_l h,ws_s];rcases e:m w (l.getD i default) d with⟨a,b⟩;rw[e]at c;subst c;rfl
theorem ws_2(h:i<l.length)(c:(m w (l.getD i default) d).2=true)(c2:(wsL m (l.getD i default).thn (m w (l.getD i default) d).1 (d+1)).2=false):wsL m (l.drop i) w d=((wsL m (l.getD i default).thn (m w (l.getD i default) d).1 (d+1)).1,false):=by rw[ws_l h,ws_s];rcases e:m w (l.getD i default) d with⟨a,b⟩;rw[e]at c c2;subst c;dsimp only at c2⊢;rcases A:wsL m (l.getD i default).thn a (d+1) with⟨E,O⟩;rw[A]at c2;subst c2;rfl
theorem ws_3(h:i<l.length)(c:(m w (l.getD i default) d).2=true)(c2:(wsL m (l.getD i default).thn (m w (l.getD i default) d).1 (d+1)).2=true)(A:(wsL m (l.getD i default).els (wsL m (l.getD i default).thn (m w (l.getD i default) d).1 (d+1)).1 (d+1)).2=false):wsL m (l.drop i) w d=((wsL m (l.getD i default).els (wsL m (l.getD i default).thn (m w (l.getD i default) d).1 (d+1)).1 (d+1)).1,false):=by rw[ws_l h,ws_s];rcases e:m w (l.getD i default) d with⟨a,b⟩;rw[e]at c c2 A;subst c;dsimp only at c2 A⊢;rcases O:wsL m (l.getD i default).thn a (d+1) with⟨E,V⟩;rw[O]at c2 A;subst c2;dsimp only at A⊢;rcases T:wsL m (l.getD i default).els E (d+1) with⟨U,Y⟩;rw[T]at A;subst A;rfl
theorem ws_4(h:i<l.length)(c:(m w (l.getD i default) d).2=true)(c2:(wsL m (l.getD i default).thn (m w (l.getD i default) d).1 (d+1)).2=true)(A:(wsL m (l.getD i default).els (wsL m (l.getD i default).thn (m w (l.getD i default) d).1 (d+1)).1 (d+1)).2=true):wsL m (l.drop i) w d=wsL m (l.drop (i+1)) (wsL m (l.getD i default).els (wsL m (l.getD i default).thn (m w (l.getD i default) d).1 (d+1)).1 (d+1)).1 d:=by rw[ws_l h,ws_s];rcases e:m w (l.getD i default) d with⟨a,b⟩;rw[e]at c c2 A;subst c;dsimp only at c2 A⊢;rcases O:wsL m (l.getD i default).thn a (d+1) with⟨E,V⟩;rw[O]at c2 A;subst c2;dsimp only at A⊢;rcases T:wsL m (l.getD i default).els E (d+1) with⟨U,Y⟩;rw[T]at A;subst A;rfl
theorem ws_e(h:l.length<=i):wsL m (l.drop i) w d=(w,true):=by rw[dre5 h,wsL]
end
theorem kB: ∀(fuel:Nat) {A:Option Addr} {E:Nat} (x:ExpT) (d:Int) (fu:FnV) (m:ExpT->Int->Bool) {F:Fz} {H:Heap} {R:List Fp} (hs:HS (.of H []) F H [] R) (bk:in64 x.kind) (bl:in64 x.n) (bn:in64 x.op) (O:SR F (sL A x.kids.length E) x.kids) (a1:FnE ex fu m F) (hx:nmE x) (hd:0<=d/\d+(nE5 x:Int)<4611686018427387904),nE5 x<fuel->kKt ex 92 [(aG [(iI x.kind),(iI x.n),(.string ⟨⟨x.name.b⟩⟩),(iI x.op),(sL A x.kids.length E)]),(iI d),fu.v] H fun v H'=> ∃(o:Bool) (F':Fz),Fz.le F F'/\HS (.of H []) F' H' [] R/\v= .bool o/\o=wkE m x d:=by
 intro fuel;induction fuel with
 |zero=>intros;omega
 |succ fuel ih=>
 intro A E x d fu m F H R hs bk bl bn O a1 hx hd c5;obtain⟨_,ba,bb⟩:=a1.1;obtain⟨c4,b2⟩:=nm_e hx;have c0:=nde5 x;have c3:=ndl5 x.kids;refine av Tryz.func92 rfl rfl (aj 1 rfl (ab (aw (bX hs rfl rfl) rfl rfl ?_)));rintro _ H2 _ ⟨b1,rfl,(a3:HS _ _ _ [(fP b1 [(iI x.kind),(iI x.n),(.string ⟨⟨x.name.b⟩⟩),(iI x.op),(sL A x.kids.length E)])] _),_⟩;let a8:Value:=(aG [(iI x.kind),(iI x.n),(.string ⟨⟨x.name.b⟩⟩),(iI x.op),(sL A x.kids.length E)])
 refine za (.bool false) (ad 3 rfl (ab (wUo 3 0 [(1,.o a8)] 9 11 [] [(9,fu.v),(10,a8),(11,(iI d))] (qn 46 0 5 (HS.hc a3 (i:=0) rfl) rfl rfl rfl rfl) rfl fun _=>jH (ap_callc rfl ba bb rfl) rfl rfl (a1.call x d (HS.call a3) (by omega) (by omega) (by omega) O (by omega) (by assumption)) ?_)));rintro _ H4 ⟨o4,F4,Y,al,rfl,rfl⟩;replace al:HS _ _ _ [_] _:=HS.back a3 rfl al;replace a1:=a1.mono Y;replace O:=O.mono Y;refine wTo 1 4 [] 13 13 [] [(13,(.bool (!(m x d))))] rfl fun _=>ad 1 rfl (zi 1 3 (fun c6=>?_) fun c6=>?_)
 ·try simp only[BS]at c6
  have bt:=c6;refine wT 1 [] 6 6 [] [(6,(.bool false))] rfl fun _=>ae ⟨.inr rfl,_,rfl,false,_,(Y),(HS.forget al),rfl,(wk_0 bt).symm⟩
 try simp only[BS]at c6
 have cl:=c6;refine wU 2 [(1,.o (sL A x.kids.length E))] 14 17 [] [(15,(sL A x.kids.length E)),(16,(iI (x.kids.length:Int))),(17,(iI 0))] (ql 44 4 (HS.hc al (i:=0) rfl) rfl rfl) rfl fun _=>aq (fun(mm:Nat) f H'=> ∃(i:Nat) (F':Fz),Fz.le F4 F'/\HS (Base.of H []) F' H' [(fP b1 [(iI x.kind),(iI x.n),(.string ⟨⟨x.name.b⟩⟩),(iI x.op),(sL A x.kids.length E)])] R/\aN f [(1,(iI d)),(2,fu.v),(15,(sL A x.kids.length E)),(16,(iI (x.kids.length:Int))),(17,(iI (i:Int)))]/\mm=x.kids.length-i/\(wkE m x d=wkEs m (x.kids.drop i) (d+1))/\(i<=x.kids.length)) _ ⟨0,_,fR,al,⟨rfl,rfl,rfl,rfl,rfl,trivial⟩,rfl,(wk_1 cl),(by omega)⟩ ?_
 rintro ci f9 H9 ⟨i,F9,Z,ar,a7,rfl,h1,hi⟩ b0;refine aC _ a7 (fun _=>?_);clear a7;replace a1:=a1.mono Z;replace O:=O.mono Z;refine aj 1 rfl (wT 2 [] 18 18 [] [(18,(.bool (decide ((i:Int)<(x.kids.length:Int)))))] rfl fun _=>zd 4 5 (fun bw=>?_) fun bw=>?_)
 ·have qa:=nda5 (l:=x.kids) (i:=i) (by omega);refine ab ?_;obtain⟨T,a4⟩:=Sv.view (SR.sv O ar);obtain⟨b3,b4,b5,a5⟩:=ExpT.fx (a4 i);let ax:Value:=(aG [(iI (x.kids.getD i default).kind),(iI (x.kids.getD i default).n),(.string ⟨⟨(x.kids.getD i default).name.b⟩⟩),(iI (x.kids.getD i default).op),(sL (cA (T i) 4) (x.kids.getD i default).kids.length (cK (T i) 4))])
  refine wRo 2 0 [(1,.o ax)] 19 20 [] [(20,ax)] (vA (Sv.ix (j:=(i:Int)) (SR.sv O ar)) (vA (qn 46 0 5 (ExpT.vw (a4 i)) rfl rfl rfl rfl) trivial)) rfl fun _=>aw (aH ar rfl) rfl rfl ?_
  rintro _ b8 _ ⟨a6,rfl,(bf:HS _ _ _ [_,(fP a6 [(iI 0),(iI 0),(.string ⟨⟨[]⟩⟩),(iI 0),(sL none 0 0)])] _),_⟩;refine ay (am (q:=1) bf rfl rfl rfl rfl rfl rfl rfl rfl rfl) rfl ?_;rintro _ b9 _ ⟨(an:HS _ _ _ [_,(fP a6 [(iI (x.kids.getD i default).kind),(iI (x.kids.getD i default).n),(.string ⟨⟨(x.kids.getD i default).name.b⟩⟩),(iI (x.kids.getD i default).op),(sL (cA (T i) 4) (x.kids.getD i default).kids.length (cK (T i) 4))])] _),_⟩;refine ad 2 rfl (ab (wRo 4 0 [(0,.o ax)] 21 24 [] [(21,ax),(23,(iI (d+1))),(24,fu.v)] (vA (qn 46 0 5 (HS.hc an (i:=1) rfl) rfl rfl rfl rfl) (vA (vi (n:=d+1)) trivial)) rfl fun _=>zc (ih (x.kids.getD i default) (d+1) fu m (HS.call an) (by omega) (by omega) (by omega) a5 a1 (nm_at b2 (by omega)) (by omega) (by omega)) ?_));rintro _ ch ⟨co,b7,a2,U,rfl,rfl⟩;replace U:HS _ _ _ [_,_] _:=HS.back an rfl U;refine wTo 1 5 [] 26 26 [] [(26,(.bool (!(wkE m (x.kids.getD i default) (d+1)))))] rfl fun _=>ad 1 rfl (zi 1 2 (fun V=>?_) fun V=>?_)
  ·try simp only[BS]at V
   have bt:=wk_no (l:=x.kids) (i:=i) (by omega) (by simpa using V);refine wT 1 [] 6 6 [] [(6,(.bool false))] rfl fun _=>ae ⟨.inr rfl,_,rfl,false,_,(fT (fT (Y) Z) a2),(HS.forget U),rfl,(h1.trans bt).symm⟩
  try simp only[BS]at V
  have cl:=wk_go (l:=x.kids) (i:=i) (by omega) (by simpa using V);refine wU 1 [] 17 17 [27] [(17,(iI ((i:Int)+1)))] (vi (n:=(i:Int)+1)) rfl fun _=>?_
  refine b0 _ _ _ ?_ ⟨i+1,_,(fT (Z) a2),(HS.sub U (a0b _ _)),⟨rfl,rfl,rfl,rfl,rfl,trivial⟩,rfl,(h1.trans cl),(by omega)⟩;omega
 refine wT 1 [] 6 6 [] [(6,(.bool true))] rfl fun _=>ae ⟨.inr rfl,_,rfl,true,_,(fT (Y) Z),(HS.forget ar),rfl,(h1.trans (wk_end (by omega))).symm⟩
theorem dB{A:Option Addr}{E:Nat}(x:ExpT)(d:Int)(Y:FnV)(m:ExpT->Int->Bool)(hs:HS (.of H []) F H [] R)(O:in64 x.kind)(T:in64 x.n)(U:in64 x.op)(V:SR F (sL A x.kids.length E) x.kids)(Z:FnE ex Y m F)(hx:nmE x)(hd:0<=d/\d+(nE5 x:Int)<4611686018427387904):kKt ex 92 [(aG [(iI x.kind),(iI x.n),(.string ⟨⟨x.name.b⟩⟩),(iI x.op),(sL A x.kids.length E)]),(iI d),Y.v] H fun v H'=> ∃(o:Bool) (F':Fz),Fz.le F F'/\HS (.of H []) F' H' [] R/\v= .bool o/\o=wkE m x d:=
 kB ex (nE5 x+1) x d Y m hs O T U V Z hx hd (a1b _)
theorem jK: ∀(fuel:Nat) {b3:Option Addr} {cl:Nat} (l:List StmT) (d:Int) {σ:Type} (fu:FnV) (m:σ->StmT->Int->σ×Bool) {ps:σ->Fp} (w:σ) {F:Fz} {H:Heap} {R:List Fp} (hs:HS (.of H ((ps w).map Prod.fst)) F H [(ps w)] R) (hl:SR F (sL b3 l.length cl) l) (ax:FnS ex fu m ps F) (hx:nmSs l) (hd:0<=d/\d+(nSs5 l:Int)<4611686018427387904),nSs5 l<fuel->kKt ex 86 [(sL b3 l.length cl),(iI d),fu.v] H fun v H'=> ∃(o:Bool) (w':σ) (F':Fz),Fz.le F F'/\HS (.of H ((ps w).map Prod.fst)) F' H' [(ps w')] R/\v= .bool o/\w'=(wsL m l w d).1/\o=(wsL m l w d).2:=by
 intro fuel;induction fuel with
 |zero=>intros;omega
 |succ fuel ih=>
 intro b3 cl l d σ fu m ps w F H R hs hl ax hx hd ee;obtain⟨_,bl,bn⟩:=ax.1;have d3:=nds_len l;refine av Tryz.func86 rfl rfl (aj 1 rfl (wT 3 [] 6 6 [] [(6,(.bool false))] rfl fun _=>wT 2 [] 9 11 [] [(9,(sL b3 l.length cl)),(10,(iI (l.length:Int))),(11,(iI 0))] rfl fun _=>aq (fun(mm:Nat) f H'=> ∃(i:Nat) (A:σ) (F':Fz),Fz.le F F'/\HS (Base.of H ((ps w).map Prod.fst)) F' H' [(ps A)] R/\aN f [(1,(iI d)),(2,fu.v),(9,(sL b3 l.length cl)),(10,(iI (l.length:Int))),(11,(iI (i:Int)))]/\mm=l.length-i/\(wsL m l w d=wsL m (l.drop i) A d)/\(i<=l.length)) _ ⟨0,w,_,fR,hs,⟨rfl,rfl,rfl,rfl,rfl,trivial⟩,rfl,(by rfl),(by omega)⟩ ?_));rintro ds f3 H3 ⟨i,A,F3,ar,a5,bf,rfl,h1,hi⟩ b0;refine aC _ bf (fun _=>?_);clear bf;replace ax:=ax.mono ar;replace hl:=hl.mono ar;refine aj 1 rfl (wT 2 [] 12 12 [] [(12,(.bool (decide ((i:Int)<(l.length:Int)))))] rfl fun _=>zd 4 5 (fun c5=>?_) fun c5=>?_)
 ·have qa:=nds_at (l:=l) (i:=i) (by omega);have qs:=nd_s (l.getD i default);have d9:=nms_at hx (i:=i) (by omega);obtain⟨_,_,_,_,_,qt,qe⟩:=nm_s d9;refine ab ?_;obtain⟨E,bk⟩:=Sv.view (SR.sv hl a5);obtain⟨b4,b5,b6,b7,b8,ch,b1,b2,bw,ba,bb,al,U⟩:=StmT.fx (bk i);let a8:Value:=(aG [(iI (l.getD i default).kind),(.string ⟨⟨(l.getD i default).name.b⟩⟩),(.string ⟨⟨(l.getD i default).to.b⟩⟩),(iI (l.getD i default).n),(iI (l.getD i default).at_.kind),(iI (l.getD i default).at_.n),(.string ⟨⟨(l.getD i default).at_.name.b⟩⟩),(iI (l.getD i default).at_.op),(sL (cA (E i) 8) (l.getD i default).at_.kids.length (cK (E i) 8)),(iI (l.getD i default).val.kind),(iI (l.getD i default).val.n),(.string ⟨⟨(l.getD i default).val.name.b⟩⟩),(iI (l.getD i default).val.op),(sL (cA (E i) 13) (l.getD i default).val.kids.length (cK (E i) 13)),(sL (cA (E i) 14) (l.getD i default).args.length (cK (E i) 14)),(sL (cA (E i) 15) (l.getD i default).thn.length (cK (E i) 15)),(sL (cA (E i) 16) (l.getD i default).els.length (cK (E i) 16))])
  refine wRo 2 0 [(1,.o a8)] 13 14 [] [(14,a8)] (vA (Sv.ix (j:=(i:Int)) (SR.sv hl a5)) (vA (qn 63 0 17 (StmT.vw (bk i)) rfl rfl rfl rfl) trivial)) rfl fun _=>aw (aH a5 rfl) rfl rfl ?_
  rintro _ c7 _ ⟨b9,rfl,(bt:HS _ _ _ [(ps A),(fP b9 [(iI 0),(.string ⟨⟨[]⟩⟩),(.string ⟨⟨[]⟩⟩),(iI 0),(iI 0),(iI 0),(.string ⟨⟨[]⟩⟩),(iI 0),(sL none 0 0),(iI 0),(iI 0),(.string ⟨⟨[]⟩⟩),(iI 0),(sL none 0 0),(sL none 0 0),(sL none 0 0),(sL none 0 0)])] _),_⟩;refine ay (am (q:=1) bt rfl rfl rfl rfl rfl rfl rfl rfl rfl) rfl ?_;rintro _ c8 _ ⟨(a2:HS _ _ _ [_,(fP b9 [(iI (l.getD i default).kind),(.string ⟨⟨(l.getD i default).name.b⟩⟩),(.string ⟨⟨(l.getD i default).to.b⟩⟩),(iI (l.getD i default).n),(iI (l.getD i default).at_.kind),(iI (l.getD i default).at_.n),(.string ⟨⟨(l.getD i default).at_.name.b⟩⟩),(iI (l.getD i default).at_.op),(sL (cA (E i) 8) (l.getD i default).at_.kids.length (cK (E i) 8)),(iI (l.getD i default).val.kind),(iI (l.getD i default).val.n),(.string ⟨⟨(l.getD i default).val.name.b⟩⟩),(iI (l.getD i default).val.op),(sL (cA (E i) 13) (l.getD i default).val.kids.length (cK (E i) 13)),(sL (cA (E i) 14) (l.getD i default).args.length (cK (E i) 14)),(sL (cA (E i) 15) (l.getD i default).thn.length (cK (E i) 15)),(sL (cA (E i) 16) (l.getD i default).els.length (cK (E i) 16))])] _),_⟩;refine ad 2 rfl (ab (zm fu.v (ak (v:=a8) (cV (i:=0) rfl rfl rfl (HS.hc a2 (i:=1) rfl) rfl rfl rfl) rfl rfl (zm (iI d) (jH (ap_callc rfl bl bn rfl) rfl rfl (ax.call (l.getD i default) d A (HS.callOwn a2 (i:=0) rfl) (by omega) (by omega) (by omega) (by omega) (by omega) bw (by omega) (by omega) (by omega) ba bb al U (by omega) (by omega) (by omega)) ?_)))));rintro _ c9 ⟨dt,ci,c3,V,Y,rfl,rfl,rfl⟩;replace Y:HS _ _ _ [(ps ((m A (l.getD i default) d).1)),_] _:=HS.backOwn a2 (i:=0) rfl rfl (fun _ hb=>hb) Y;replace ax:=ax.mono V;replace al:=al.mono V;replace U:=U.mono V;refine ak (v:=(.bool (!((m A (l.getD i default) d).2)))) (eb rfl) rfl rfl (zm (.bool (!((m A (l.getD i default) d).2))) (fJ (v:=(!((m A (l.getD i default) d).2))) rfl rfl (fun O=>?_) (fun O=>?_)))
  ·have a3:=O;try simp only[BS]at a3
   refine ak (v:=(pT b9 15)) (jr rfl rfl) rfl rfl (aX rfl O (ak (v:=(sL (cA (E i) 15) (l.getD i default).thn.length (cK (E i) 15))) (eN (i:=15) rfl rfl (HS.hc Y (i:=1) rfl) rfl rfl) rfl rfl (aX rfl O (zm (iI d) (aX rfl O ?_)))));refine ak (v:=(iI (d+1))) (fF rfl rfl (iD (n:=d+1) (by omega))) rfl rfl (aX rfl O (zm fu.v (aX rfl O (zc (ih (l.getD i default).thn (d+1) fu m ((m A (l.getD i default) d).1) (HS.callOwn Y (i:=0) rfl) al ax (by omega) (by omega) (by omega)) ?_))));rintro _ dk ⟨d1,co,c4,an,Z,rfl,rfl,rfl⟩;replace Z:HS _ _ _ [(ps ((wsL m (l.getD i default).thn ((m A (l.getD i default) d).1) (d+1)).1)),_] _:=HS.backOwn Y (i:=0) rfl rfl (fun _ hb=>hb) Z;replace ax:=ax.mono an;replace U:=U.mono an;refine aX rfl O (ak (v:=(.bool (!((wsL m (l.getD i default).thn ((m A (l.getD i default) d).1) (d+1)).2)))) (eb rfl) rfl rfl (ak (v:=(.bool (!((wsL m (l.getD i default).thn ((m A (l.getD i default) d).1) (d+1)).2)))) (aO rfl O rfl) rfl rfl (zm (.bool (!((wsL m (l.getD i default).thn ((m A (l.getD i default) d).1) (d+1)).2))) (fJ (v:=(!((wsL m (l.getD i default).thn ((m A (l.getD i default) d).1) (d+1)).2))) rfl rfl (fun T=>?_) (fun T=>?_)))))
   ·have a4:=T;try simp only[BS]at a4
    refine ak (v:=(pT b9 16)) (jr rfl rfl) rfl rfl (aX rfl T (ak (v:=(sL (cA (E i) 16) (l.getD i default).els.length (cK (E i) 16))) (eN (i:=16) rfl rfl (HS.hc Z (i:=1) rfl) rfl rfl) rfl rfl (aX rfl T (zm (iI d) (aX rfl T ?_)))));refine ak (v:=(iI (d+1))) (fF rfl rfl (iD (n:=d+1) (by omega))) rfl rfl (aX rfl T (zm fu.v (aX rfl T (zc (ih (l.getD i default).els (d+1) fu m ((wsL m (l.getD i default).thn ((m A (l.getD i default) d).1) (d+1)).1) (HS.callOwn Z (i:=0) rfl) U ax (by omega) (by omega) (by omega)) ?_))));rintro _ dn ⟨d2,c0,c6,a7,a1,rfl,rfl,rfl⟩;replace a1:HS _ _ _ [(ps ((wsL m (l.getD i default).els ((wsL m (l.getD i default).thn ((m A (l.getD i default) d).1) (d+1)).1) (d+1)).1)),_] _:=HS.backOwn Z (i:=0) rfl rfl (fun _ hb=>hb) a1;refine aX rfl T (ak (v:=(.bool (!((wsL m (l.getD i default).els ((wsL m (l.getD i default).thn ((m A (l.getD i default) d).1) (d+1)).1) (d+1)).2)))) (eb rfl) rfl rfl (ak (v:=(.bool (!((wsL m (l.getD i default).els ((wsL m (l.getD i default).thn ((m A (l.getD i default) d).1) (d+1)).1) (d+1)).2)))) (aO rfl T rfl) rfl rfl (aA (aj 1 rfl (zi 1 2 (fun a6=>?_) fun a6=>?_)))))
    ·try simp only[BS]at a6
     refine wT 1 [] 6 6 [] [(6,(.bool false))] rfl fun _=>ae ⟨.inr rfl,_,rfl,false,(wsL m (l.getD i default).els ((wsL m (l.getD i default).thn ((m A (l.getD i default) d).1) (d+1)).1) (d+1)).1,_,(fT (fT (fT (ar) V) an) a7),(HS.first a1),rfl,(by(rw[h1,ws_3 (by omega) (by assumption) (by assumption) (by assumption)];done)),(by(rw[h1,ws_3 (by omega) (by assumption) (by assumption) (by assumption)];done))⟩
    try simp only[BS]at a6
    refine wU 1 [] 11 11 [38] [(11,(iI ((i:Int)+1)))] (vi (n:=(i:Int)+1)) rfl fun _=>?_
    refine b0 _ _ _ ?_ ⟨i+1,(wsL m (l.getD i default).els ((wsL m (l.getD i default).thn ((m A (l.getD i default) d).1) (d+1)).1) (d+1)).1,_,(fT (fT (fT (ar) V) an) a7),(HS.sub a1 (a0b _ _)),⟨rfl,rfl,rfl,rfl,rfl,trivial⟩,rfl,(by rw[h1,ws_4 (by omega) (by assumption) (by assumption) (by assumption)]),(by omega)⟩;omega
   have a4:=T;try simp only[BS]at a4
   refine aR rfl T rfl (aR rfl T rfl (aR rfl T rfl (aR rfl T rfl (aR rfl T rfl (aR rfl T rfl ?_)))));refine ak (v:=(.bool true)) (aP rfl T rfl) rfl rfl (aA (aj 1 rfl (bI 1 (v:=true) rfl rfl rfl rfl (wT 1 [] 6 6 [] [(6,(.bool false))] rfl fun _=>ae ⟨.inr rfl,_,rfl,false,(wsL m (l.getD i default).thn ((m A (l.getD i default) d).1) (d+1)).1,_,(fT (fT (ar) V) an),(HS.first Z),rfl,(by(rw[h1,ws_2 (by omega) (by assumption) (by assumption)];done)),(by(rw[h1,ws_2 (by omega) (by assumption) (by assumption)];done))⟩))))
  have a3:=O;try simp only[BS]at a3
  refine aR rfl O rfl (aR rfl O rfl (aR rfl O rfl (aR rfl O rfl (aR rfl O rfl (aR rfl O rfl ?_)))));refine ak (v:=(.bool true)) (aP rfl O rfl) rfl rfl (zm (.bool true) (aR rfl rfl rfl (aR rfl rfl rfl (aR rfl rfl rfl (aR rfl rfl rfl ?_)))));refine aR rfl rfl rfl (aR rfl rfl rfl (aR rfl rfl rfl (ak (v:=(.bool true)) (aP rfl rfl rfl) rfl rfl (aA (aj 1 rfl ?_)))));refine bI 1 (v:=true) rfl rfl rfl rfl (wT 1 [] 6 6 [] [(6,(.bool false))] rfl fun _=>ae ⟨.inr rfl,_,rfl,false,(m A (l.getD i default) d).1,_,(fT (ar) V),(HS.first Y),rfl,(by(rw[h1,ws_1 (by omega) (by assumption)];done)),(by(rw[h1,ws_1 (by omega) (by assumption)];done))⟩)
 refine wT 1 [] 6 6 [] [(6,(.bool true))] rfl fun _=>ae ⟨.inr rfl,_,rfl,true,A,_,(ar),(HS.first a5),rfl,(by(rw[h1,ws_e (by omega)];done)),(by(rw[h1,ws_e (by omega)];done))⟩
theorem gF{A:Option Addr}{E:Nat}(l:List StmT)(d:Int){σ:Type}(O:FnV)(m:σ->StmT->Int->σ×Bool){ps:σ->Fp}(w:σ)(hs:HS (.of H ((ps w).map Prod.fst)) F H [(ps w)] R)(U:SR F (sL A l.length E) l)(T:FnS ex O m ps F)(V:nmSs l)(hd:0<=d/\d+(nSs5 l:Int)<4611686018427387904):kKt ex 86 [(sL A l.length E),(iI d),O.v] H fun v H'=> ∃(o:Bool) (w':σ) (F':Fz),Fz.le F F'/\HS (.of H ((ps w).map Prod.fst)) F' H' [(ps w')] R/\v= .bool o/\w'=(wsL m l w d).1/\o=(wsL m l w d).2:=
 jK ex (nSs5 l+1) l d O m w hs U T V hd (a1b _)
end Go.Proofs.YtkpgbdkkgcdhmaaGreat.db
