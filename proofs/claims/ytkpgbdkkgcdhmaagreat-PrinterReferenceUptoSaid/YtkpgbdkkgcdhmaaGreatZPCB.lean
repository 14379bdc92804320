/-
The check of the reference: which programs a parser can give, each function by a symbolic run. No condition but that the program has less than 2^62 parts.
-/
import Derived.Test.YtkpgbdkkgcdhmaaGreatZPL1
import Derived.Test.YtkpgbdkkgcdhmaaGreatZPCA
noncomputable section
namespace Go.Proofs.YtkpgbdkkgcdhmaaGreat.cb
open Go.R
set_option maxRecDepth 10000
set_option maxHeartbeats 800000
set_option linter.unusedVariables false
set_option linter.unusedSimpArgs false
variable (ex:FuncId) {F:Fz} {H:Heap} {R:List Fp}
open w3 l1 pt ca
abbrev zCB1:List Str:=[⟨[97,114,114,97,121]⟩,⟨[102,117,110,99]⟩,⟨[118,97,114]⟩,⟨[114,101,116,117,114,110]⟩,⟨[105,102]⟩,⟨[101,108,115,101]⟩,⟨[119,104,105,108,101]⟩,⟨[111,117,116]⟩,⟨[116,114,97,112]⟩]
abbrev lI:List UInt8:=[]
theorem jl{B:Base}{F:Fz}{L R:List Fp}{H:Heap}(hs:HS B F H L R){b:Nat}{cs:List Value}{w:Value}(t:TypeId)(i j:Nat)(A:aggOf Tryz.prog t=some false)(h:L[j]?=some [(b,.cells cs none false)])(E:cs[i]?=some w): ∀H,JJ B F L R H->LDv Tryz.prog H t (pT b i) w:=jl0 hs t i j A h E
theorem jn{B:Base}{F:Fz}{L R:List Fp}{H:Heap}(hs:HS B F H L R){b:Nat}{cs l:List Value}(t:TypeId)(i n j:Nat)(A:aggOf Tryz.prog t=some true)(U:cT Tryz.prog t=some n)(h:L[j]?=some [(b,.cells cs none false)])(O:Nat.ble (i+n) cs.length=true)(E:dL (dX cs i) n=l): ∀H,JJ B F L R H->LDv Tryz.prog H t (pT b i) (.agg ⟨l⟩):=jn0 hs t i n j A U h O E
theorem wf_e(e:ExpT):wfE e=(hU e.kids&&wfN e.kind e.n e.name.b e.op (e.kids.length:Int)):=by cases e;rw[wfE]
theorem ws_go{l:List ExpT}{i:Nat}(h:i<l.length)(c:wfE (l.getD i default)=true):hU (l.drop i)=hU (l.drop (i+1)):=by rw[bQ (d:=default) h,hU,c];rfl
theorem ws_no{l:List ExpT}{i:Nat}(h:i<l.length)(c:wfE (l.getD i default)=false):hU (l.drop i)=false:=by rw[bQ (d:=default) h,hU,c];rfl
theorem wf_no{l:List ExpT}{b:Bool}(h:hU l=false):(hU l&&b)=false:=by rw[h];rfl
theorem iM{l:List ExpT}{i:Nat}{b:Bool}(h:hU l=hU (l.drop i))(hi:l.length<=i):(hU l&&b)=b:=by rw[h,cP hi,hU];rfl
mutual
def nbE:ExpT->Prop
 |⟨_,_,nm,_,ks⟩=>nm.b.length<4611686018427387904/\nbEs ks
def nbEs:List ExpT->Prop
 | []=>True
 |e::l=>nbE e/\nbEs l
end
theorem nb_e{e:ExpT}(h:nbE e):e.name.b.length<4611686018427387904/\nbEs e.kids:=by cases e;rwa [nbE]at h
theorem nbs_at: ∀{l:List ExpT} {i:Nat},nbEs l->i<l.length->nbE (l.getD i default)
 |e::l,0,h,_=>by rw[nbEs]at h;exact h.1
 |e::l,i+1,h,hi=>by rw[nbEs]at h;exact nbs_at (l:=l) h.2 (by simpa using hi)
theorem et_s(x:StmT):(⟨x.kind,⟨x.name.b⟩,⟨x.to.b⟩,x.n,x.at_,x.val,x.args,x.thn,x.els⟩:StmT)=x:=by cases x;rfl
mutual
def nbS:StmT->Prop
 |⟨_,nm,to,_,a,v,ar,t,e⟩=>nm.b.length<4611686018427387904/\to.b.length<4611686018427387904/\nbE a/\nbE v/\nbEs ar/\nbSs t/\nbSs e
def nbSs:List StmT->Prop
 | []=>True
 |s::l=>nbS s/\nbSs l
end
theorem nb_s{s:StmT}(h:nbS s):s.name.b.length<4611686018427387904/\s.to.b.length<4611686018427387904/\nbE s.at_/\nbE s.val/\nbEs s.args/\nbSs s.thn/\nbSs s.els:=by cases s;rwa [nbS]at h
theorem nbs_s: ∀{l:List StmT} {i:Nat},nbSs l->i<l.length->nbS (l.getD i default)
 |e::l,0,h,_=>by rw[nbSs]at h;exact h.1
 |e::l,i+1,h,hi=>by rw[nbSs]at h;exact nbs_s (l:=l) h.2 (by simpa using hi)
def wfA(s:StmT):Bool:=hU s.args&&wfK s
theorem wf_s(s:StmT):wfS s=(wfA s&&dJ s.thn&&dJ s.els):=by cases s;rw[wfS];rfl
theorem wt_go{l:List StmT}{i:Nat}(h:i<l.length)(c:(wfA (l.getD i default)=true/\dJ (l.getD i default).thn=true)/\dJ (l.getD i default).els=true):dJ (l.drop i)=dJ (l.drop (i+1)):=by rw[bQ (d:=default) h,dJ,wf_s,c.1.1,c.1.2,c.2];rfl
theorem wt_no{l:List StmT}{i:Nat}(h:i<l.length)(c:(wfA (l.getD i default)=false\/dJ (l.getD i default).thn=false)\/dJ (l.getD i default).els=false):dJ (l.drop i)=false:=by
 rw[bQ (d:=default) h,dJ,wf_s];rcases c with(c|c)|c
 ·rw[c];rfl
 ·rw[c,a1m];rfl
 rw[c,a1m];rfl
theorem wt_end{l:List StmT}{i:Nat}(h:l.length<=i):dJ (l.drop i)=true:=by rw[cP h,dJ]
def anB(a:ArrT):Bool:=vnm a.name.b
def snB(s:Str):Bool:=vnm s.b
def wlF(f:FunT):List Str:=[f.name]++f.pars++f.locs
def NbP(p:PrgT):Prop:=(∀a∈p.arrs,a.name.b.length<4611686018427387904)/\∀f∈p.funs,f.name.b.length<4611686018427387904/\(∀s∈f.pars,s.b.length<4611686018427387904)/\(∀s∈f.locs,s.b.length<4611686018427387904)/\nbSs f.body/\nbE f.val
theorem wl_len(f:FunT):(wlF f).length=1+f.pars.length+f.locs.length:=by unfold wlF;rw[a00,a00];rfl
theorem wl_nb{f:FunT}{k:Nat}(h:f.name.b.length<4611686018427387904/\(∀s∈f.pars,s.b.length<4611686018427387904)/\(∀s∈f.locs,s.b.length<4611686018427387904)/\nbSs f.body/\nbE f.val)(E:k<(wlF f).length):((wlF f).getD k default).b.length<4611686018427387904:=by
 have:=dO (l:=wlF f) E;revert this;generalize (wlF f).getD k default=s;intro A;unfold wlF at A;rcases a0e.1 A with A|A
 ·rcases a0e.1 A with A|A
  ·rw[a0L.1 A];exact h.1
  exact h.2.1 s A
 exact h.2.2.1 s A
theorem al_go{α:Type} [Inhabited α]{p:α->Bool}{l:List α}{i:Nat}(h:i<l.length)(c:p (l.getD i default)=true):(l.drop i).all p=(l.drop (i+1)).all p:=by rw[all_drop h,c];rfl
theorem al_no{α:Type} [Inhabited α]{p:α->Bool}{l:List α}{i:Nat}(h:i<l.length)(c:p (l.getD i default)=false):(l.drop i).all p=false:=by rw[all_drop h,c];rfl
theorem wf_f(f:FunT):wfF f=((wlF f).all snB&&dJ f.body&&wfE f.val):=rfl
theorem wf_lno{l:List FunT}{i:Nat}(h:i<l.length)(c:(wlF (l.getD i default)).all snB=false):(l.drop i).all wfF=false:=al_no h (by rw[wf_f,c];rfl)
theorem wf_no2{l:List FunT}{i:Nat}(h:i<l.length)(c:dJ (l.getD i default).body=false\/wfE (l.getD i default).val=false):(l.drop i).all wfF=false:=al_no h (by rw[wf_f];rcases c with c|c<;>rw[c,a1m];rfl)
theorem wf_go2{l:List FunT}{i:Nat}(h:i<l.length)(k:(wlF (l.getD i default)).all snB=true)(c:dJ (l.getD i default).body=true/\wfE (l.getD i default).val=true):(l.drop i).all wfF=(l.drop (i+1)).all wfF:=al_go h (by rw[wf_f,k,c.1,c.2];rfl)
theorem wp_1{p:PrgT}(h:p.arrs.all anB=false):wfP p=false:=by show(p.arrs.all anB&&_)=false;rw[h];rfl
theorem wp_2{p:PrgT}(h:p.funs.all wfF=false):wfP p=false:=by show(_&&p.funs.all wfF)=false;rw[h,a1m]
theorem wp_3{p:PrgT}(h:p.arrs.all anB=true)(g:p.funs.all wfF=true):wfP p=true:=by show(p.arrs.all anB&&p.funs.all wfF)=true;rw[h,g];rfl
theorem in_no{s:List UInt8}{i:Nat}(h:i<s.length)(c:bN (s.getD i 0)=false/\(bK (s.getD i 0)=false\/(i:Int)=0)):inNm s=false:=by
 unfold inNm;rcases c with⟨c1,c2|c2⟩
 ·have:s.all bT=false:=by rw[List.all_eq_false];refine⟨s.getD i 0,?_,by unfold bT;rw[c1,c2];decide⟩;rw[a0b,a09 h];exact a1z h
  rw[this,a1m];rfl
 obtain rfl:i=0:=M
 rw[c1];rfl
theorem in_s1{s:List UInt8}{i:Nat}(h: ∀j,j<i->bT (s.getD j 0)=true)(c:bN (s.getD i 0)=false->bK (s.getD i 0)=true/\(i:Int)≠0): ∀j,j<i+1->bT (s.getD j 0)=true:=fun j E=>by
 rcases Nat.lt_succ_iff_lt_or_eq.1 E with A|rfl
 ·exact h j A
 unfold bT;cases e:bN (s.getD j 0) with
 |true=>rfl
 |false=>rw[(c e).1];rfl
theorem in_s2{s:List UInt8}{i:Nat}(h:0<i->bN (s.getD 0 0)=true)(c:bN (s.getD i 0)=false->bK (s.getD i 0)=true/\(i:Int)≠0):0<i+1->bN (s.getD 0 0)=true:=fun _=>by
 rcases a1c i with rfl|A
 ·cases e:bN (s.getD 0 0) with
  |true=>rfl
  |false=>exact absurd V (c e).2
 exact h A
theorem in_end{s:List UInt8}{i:Nat}(h:s.length<=i)(A: ∀j,j<i->bT (s.getD j 0)=true)(E:0<i->bN (s.getD 0 0)=true):(decide ((1:Int)<=(s.length:Int))&&decide ((s.length:Int)<=16))=inNm s:=by
 unfold inNm;have:s.all bT=true:=by rw[a0u];intro x U;obtain⟨j,O,rfl⟩:=a1V U;have:=A j M;rwa [a0b,a09 O]at this
 rw[this,a0A,a11];simp only[a06,decide_eq_true_eq];constructor
 ·intro h;exact⟨⟨E M,by omega⟩,by omega⟩
 intro h;exact⟨by omega,by omega⟩
theorem bLetter_c(c:UInt8)(H:Heap):kKt ex 100 [(.int .u8 (c.toNat:Int))] H fun v H'=> ∃(r:Bool),H'=H/\v= .bool r/\r=bN c:=by refine av Tryz.func100 V V (ai 1 V (wT 2 [] 2 2 [] [(2,(.bool false))] V fun _=>wT 1 [] 2 20 [] [(2,(.bool ((((decide ((97:Int)<=(c.toNat:Int)))&&(decide ((c.toNat:Int)<=122)))||((decide ((65:Int)<=(c.toNat:Int)))&&(decide ((c.toNat:Int)<=90))))||((c.toNat:Int)==95))))] V fun _=>ae ⟨.inr V,_,V,((((decide ((97:Int)<=(c.toNat:Int)))&&(decide ((c.toNat:Int)<=122)))||((decide ((65:Int)<=(c.toNat:Int)))&&(decide ((c.toNat:Int)<=90))))||((c.toNat:Int)==95)),V,V,(by simp[bN];grind)⟩))
theorem bLetter_c_q(c:UInt8)(H:Heap):kKt ex 100 [(.int .u8 (c.toNat:Int))] H fun v H'=>v=(.bool (bN c))/\H'=H:=
 cq (bLetter_c ex c H) (by rintro _ _ ⟨_,rfl,rfl,rfl⟩;exact⟨V,V⟩)
theorem bDigit_c(c:UInt8)(H:Heap):kKt ex 101 [(.int .u8 (c.toNat:Int))] H fun v H'=> ∃(r:Bool),H'=H/\v= .bool r/\r=bK c:=by refine av Tryz.func101 V V (ai 1 V (wT 2 [] 2 2 [] [(2,(.bool false))] V fun _=>wT 1 [] 2 8 [] [(2,(.bool ((decide ((48:Int)<=(c.toNat:Int)))&&(decide ((c.toNat:Int)<=57)))))] V fun _=>ae ⟨.inr V,_,V,((decide ((48:Int)<=(c.toNat:Int)))&&(decide ((c.toNat:Int)<=57))),V,V,(by simp[bK];grind)⟩))
theorem bDigit_c_q(c:UInt8)(H:Heap):kKt ex 101 [(.int .u8 (c.toNat:Int))] H fun v H'=>v=(.bool (bK c))/\H'=H:=
 cq (bDigit_c ex c H) (by rintro _ _ ⟨_,rfl,rfl,rfl⟩;exact⟨V,V⟩)
theorem isname_c(s:List UInt8)(H:Heap)(hl:s.length<4611686018427387904):kKt ex 108 [(tX s)] H fun v H'=> ∃(o:Bool),H'=H/\v= .bool o/\o=inNm s:=by
 refine av Tryz.func108 V V (ai 1 V (wT 3 [] 2 2 [] [(2,(.bool false))] V fun _=>wT 2 [] 1 0 [3] [(3,(iI 0))] V fun _=>aj (fun(mm:Nat) f H'=> ∃(i:Nat),H'=H/\aC f [(0,(tX s)),(3,(iI (i:Int)))]/\mm=s.length-i/\(∀j,j<i->bT (s.getD j 0)=true)/\(0<i->bN (s.getD 0 0)=true)/\(i<=s.length)) _ ⟨0,V,⟨V,V,trivial⟩,V,(fun j h=>absurd h (a1W j)),(fun h=>absurd h (Nat.lt_irrefl 0)),M⟩ ?_));rintro ax f3 H ⟨i,rfl,E,rfl,U,a_,hi⟩ Z;refine ap _ E (fun _=>?_);clear E;refine ai 2 V (wT 1 [] 4 7 [] [(7,(.bool (decide ((i:Int)<(s.length:Int)))))] V fun _=>zd 4 5 (fun c5=>?_) fun c5=>?_)
 ·have an:=kF (s.getD i 0);have ar:=kF (s.getD i 0);refine wR 1 [(3,.o (.bool (bN (s.getD i 0)))),(9,.o (.bool (bK (s.getD i 0))))] 10 25 [] [(25,(.bool ((!(bN (s.getD i 0)))&&((!(bK (s.getD i 0)))||((i:Int)==0)))))] (vA (vA (show(0:Int)<=(i:Int) from by omega) (show(i:Int)<(((s:List UInt8).length:Nat):Int) from by omega)) (vA (bLetter_c_q ex (s.getD i 0) H) (vA (fun(O:(!(bN (s.getD i 0)))=true)=>(vA (show(0:Int)<=(i:Int) from by(try simp only[BS]at O);(first|omega|(dsimp only;omega))) (show(i:Int)<(((s:List UInt8).length:Nat):Int) from by(try simp only[BS]at O);(first|omega|(dsimp only;omega))))) (vA (fun(O:(!(bN (s.getD i 0)))=true)=>(bDigit_c_q ex (s.getD i 0) H)) trivial)))) V fun _=>zi 1 2 (fun A=>?_) fun A=>?_
  ·try simp only[BS]at A
   have aA:=in_no (s:=s) (i:=i) M A;refine wT 1 [] 2 2 [] [(2,(.bool false))] V fun _=>ae ⟨.inr V,_,V,false,V,V,(aA.symm)⟩
  try simp only[BS]at A
  have al:=A;refine wU 1 [] 8 9 [3] [(3,(iI ((i:Int)+1)))] (vi (n:=(i:Int)+1)) V fun _=>?_
  refine Z _ _ _ ?_ ⟨i+1,V,⟨V,V,trivial⟩,V,(in_s1 U al),(in_s2 a_ al),M⟩;omega
 refine wT 1 [] 26 33 [2] [(2,(.bool ((decide ((1:Int)<=(s.length:Int)))&&(decide ((s.length:Int)<=16)))))] V fun _=>ae ⟨.inr V,_,V,((decide ((1:Int)<=(s.length:Int)))&&(decide ((s.length:Int)<=16))),V,V,(in_end M U a_)⟩
theorem isname_c_q(s:List UInt8)(H:Heap)(A:s.length<4611686018427387904):kKt ex 108 [(tX s)] H fun v H'=>v=(.bool (inNm s))/\H'=H:=
 cq (isname_c ex s H A) (by rintro _ _ ⟨_,rfl,rfl,rfl⟩;exact⟨V,V⟩)
theorem breserved_c(s:List UInt8)(hs:HS (.of H []) F H [] R):kKt ex 109 [(tX s)] H fun v H'=> ∃(o:Bool) (F':Fz),Fz.le F F'/\HS (.of H []) F' H' [] R/\v= .bool o/\o=resV s:=by
 refine av Tryz.func109 V V (ai 1 V (wT 2 [] 2 2 [] [(2,(.bool false))] V fun _=>ab (zlo zCB1 hs V j_ V fun a2 k2 p2 H3 E A=>za (sL a2 zCB1.length k2) ?_)));refine ag 3 V (wT 2 [] 1 0 [4] [(4,(iI 0))] V fun _=>bY (ai 2 V (wT 1 [] 6 9 [] [(9,(.bool true))] V fun _=>bI 4 (v:=true) V V V V ?_)));obtain⟨b1,a9⟩:=Sv.view (OS.sv E A (i:=0) V);refine wrp 1 12 17 [] [(17,(.bool ((zCB1.getD 0 default).b==s)))] (Ha_ (Sv.ix (j:=0) (OS.sv E A (i:=0) V) e_ (show(0:Int)<(9:Int) from by decide)) (Hl_ 3 (ql 9 0 (vS (a9 0) (show 0<9 from by decide)) V V) Hn_)) (by kernel_rfl) V fun _=>zi 1 2 (fun c9=>?_) fun c9=>?_
 ·try simp only[BS]at c9
  refine wT 1 [] 2 2 [] [(2,(.bool true))] V fun _=>ae ⟨.inr V,_,V,true,_,fR,(HS.forget A),V,(by(simp_all[resV,resL];done))⟩
 try simp only[BS]at c9
 refine wU 1 [] 10 11 [4] [(4,(iI 1))] (vi (n:=(1:Int))) V fun _=>bY (ai 2 V (wT 1 [] 6 9 [] [(9,(.bool true))] V fun _=>bI 4 (v:=true) V V V V ?_))
 obtain⟨bb,a0⟩:=Sv.view (OS.sv E A (i:=0) V);refine wrp 1 12 17 [] [(17,(.bool ((zCB1.getD 1 default).b==s)))] (Ha_ (Sv.ix (j:=1) (OS.sv E A (i:=0) V) e_ (show(1:Int)<(9:Int) from by decide)) (Hl_ 3 (ql 9 0 (vS (a0 1) (show 1<9 from by decide)) V V) Hn_)) (by kernel_rfl) V fun _=>zi 1 2 (fun O=>?_) fun O=>?_
 ·try simp only[BS]at O
  refine wT 1 [] 2 2 [] [(2,(.bool true))] V fun _=>ae ⟨.inr V,_,V,true,_,fR,(HS.forget A),V,(by(simp_all[resV,resL];done))⟩
 try simp only[BS]at O
 refine wU 1 [] 10 11 [4] [(4,(iI 2))] (vi (n:=(2:Int))) V fun _=>bY (ai 2 V (wT 1 [] 6 9 [] [(9,(.bool true))] V fun _=>bI 4 (v:=true) V V V V ?_))
 obtain⟨bf,a1⟩:=Sv.view (OS.sv E A (i:=0) V);refine wrp 1 12 17 [] [(17,(.bool ((zCB1.getD 2 default).b==s)))] (Ha_ (Sv.ix (j:=2) (OS.sv E A (i:=0) V) e_ (show(2:Int)<(9:Int) from by decide)) (Hl_ 3 (ql 9 0 (vS (a1 2) (show 2<9 from by decide)) V V) Hn_)) (by kernel_rfl) V fun _=>zi 1 2 (fun U=>?_) fun U=>?_
 ·try simp only[BS]at U
  refine wT 1 [] 2 2 [] [(2,(.bool true))] V fun _=>ae ⟨.inr V,_,V,true,_,fR,(HS.forget A),V,(by(simp_all[resV,resL];done))⟩
 try simp only[BS]at U
 refine wU 1 [] 10 11 [4] [(4,(iI 3))] (vi (n:=(3:Int))) V fun _=>bY (ai 2 V (wT 1 [] 6 9 [] [(9,(.bool true))] V fun _=>bI 4 (v:=true) V V V V ?_))
 obtain⟨bl,a3⟩:=Sv.view (OS.sv E A (i:=0) V);refine wrp 1 12 17 [] [(17,(.bool ((zCB1.getD 3 default).b==s)))] (Ha_ (Sv.ix (j:=3) (OS.sv E A (i:=0) V) e_ (show(3:Int)<(9:Int) from by decide)) (Hl_ 3 (ql 9 0 (vS (a3 3) (show 3<9 from by decide)) V V) Hn_)) (by kernel_rfl) V fun _=>zi 1 2 (fun a_=>?_) fun a_=>?_
 ·try simp only[BS]at a_
  refine wT 1 [] 2 2 [] [(2,(.bool true))] V fun _=>ae ⟨.inr V,_,V,true,_,fR,(HS.forget A),V,(by(simp_all[resV,resL];done))⟩
 try simp only[BS]at a_
 refine wU 1 [] 10 11 [4] [(4,(iI 4))] (vi (n:=(4:Int))) V fun _=>bY (ai 2 V (wT 1 [] 6 9 [] [(9,(.bool true))] V fun _=>bI 4 (v:=true) V V V V ?_))
 obtain⟨bn,a4⟩:=Sv.view (OS.sv E A (i:=0) V);refine wrp 1 12 17 [] [(17,(.bool ((zCB1.getD 4 default).b==s)))] (Ha_ (Sv.ix (j:=4) (OS.sv E A (i:=0) V) e_ (show(4:Int)<(9:Int) from by decide)) (Hl_ 3 (ql 9 0 (vS (a4 4) (show 4<9 from by decide)) V V) Hn_)) (by kernel_rfl) V fun _=>zi 1 2 (fun Z=>?_) fun Z=>?_
 ·try simp only[BS]at Z
  refine wT 1 [] 2 2 [] [(2,(.bool true))] V fun _=>ae ⟨.inr V,_,V,true,_,fR,(HS.forget A),V,(by(simp_all[resV,resL];done))⟩
 try simp only[BS]at Z
 refine wU 1 [] 10 11 [4] [(4,(iI 5))] (vi (n:=(5:Int))) V fun _=>bY (ai 2 V (wT 1 [] 6 9 [] [(9,(.bool true))] V fun _=>bI 4 (v:=true) V V V V ?_))
 obtain⟨bt,a5⟩:=Sv.view (OS.sv E A (i:=0) V);refine wrp 1 12 17 [] [(17,(.bool ((zCB1.getD 5 default).b==s)))] (Ha_ (Sv.ix (j:=5) (OS.sv E A (i:=0) V) e_ (show(5:Int)<(9:Int) from by decide)) (Hl_ 3 (ql 9 0 (vS (a5 5) (show 5<9 from by decide)) V V) Hn_)) (by kernel_rfl) V fun _=>zi 1 2 (fun al=>?_) fun al=>?_
 ·try simp only[BS]at al
  refine wT 1 [] 2 2 [] [(2,(.bool true))] V fun _=>ae ⟨.inr V,_,V,true,_,fR,(HS.forget A),V,(by(simp_all[resV,resL];done))⟩
 try simp only[BS]at al
 refine wU 1 [] 10 11 [4] [(4,(iI 6))] (vi (n:=(6:Int))) V fun _=>bY (ai 2 V (wT 1 [] 6 9 [] [(9,(.bool true))] V fun _=>bI 4 (v:=true) V V V V ?_))
 obtain⟨bw,a6⟩:=Sv.view (OS.sv E A (i:=0) V);refine wrp 1 12 17 [] [(17,(.bool ((zCB1.getD 6 default).b==s)))] (Ha_ (Sv.ix (j:=6) (OS.sv E A (i:=0) V) e_ (show(6:Int)<(9:Int) from by decide)) (Hl_ 3 (ql 9 0 (vS (a6 6) (show 6<9 from by decide)) V V) Hn_)) (by kernel_rfl) V fun _=>zi 1 2 (fun an=>?_) fun an=>?_
 ·try simp only[BS]at an
  refine wT 1 [] 2 2 [] [(2,(.bool true))] V fun _=>ae ⟨.inr V,_,V,true,_,fR,(HS.forget A),V,(by(simp_all[resV,resL];done))⟩
 try simp only[BS]at an
 refine wU 1 [] 10 11 [4] [(4,(iI 7))] (vi (n:=(7:Int))) V fun _=>bY (ai 2 V (wT 1 [] 6 9 [] [(9,(.bool true))] V fun _=>bI 4 (v:=true) V V V V ?_))
 obtain⟨bF,a7⟩:=Sv.view (OS.sv E A (i:=0) V);refine wrp 1 12 17 [] [(17,(.bool ((zCB1.getD 7 default).b==s)))] (Ha_ (Sv.ix (j:=7) (OS.sv E A (i:=0) V) e_ (show(7:Int)<(9:Int) from by decide)) (Hl_ 3 (ql 9 0 (vS (a7 7) (show 7<9 from by decide)) V V) Hn_)) (by kernel_rfl) V fun _=>zi 1 2 (fun ar=>?_) fun ar=>?_
 ·try simp only[BS]at ar
  refine wT 1 [] 2 2 [] [(2,(.bool true))] V fun _=>ae ⟨.inr V,_,V,true,_,fR,(HS.forget A),V,(by(simp_all[resV,resL];done))⟩
 try simp only[BS]at ar
 refine wU 1 [] 10 11 [4] [(4,(iI 8))] (vi (n:=(8:Int))) V fun _=>bY (ai 2 V (wT 1 [] 6 9 [] [(9,(.bool true))] V fun _=>bI 4 (v:=true) V V V V ?_))
 obtain⟨b0,a8⟩:=Sv.view (OS.sv E A (i:=0) V);refine wrp 1 12 17 [] [(17,(.bool ((zCB1.getD 8 default).b==s)))] (Ha_ (Sv.ix (j:=8) (OS.sv E A (i:=0) V) e_ (show(8:Int)<(9:Int) from by decide)) (Hl_ 3 (ql 9 0 (vS (a8 8) (show 8<9 from by decide)) V V) Hn_)) (by kernel_rfl) V fun _=>zi 1 2 (fun ax=>?_) fun ax=>?_
 ·try simp only[BS]at ax
  refine wT 1 [] 2 2 [] [(2,(.bool true))] V fun _=>ae ⟨.inr V,_,V,true,_,fR,(HS.forget A),V,(by(simp_all[resV,resL];done))⟩
 try simp only[BS]at ax
 refine wU 1 [] 10 11 [4] [(4,(iI 9))] (vi (n:=(9:Int))) V fun _=>bY (ai 2 V (wT 1 [] 6 9 [] [(9,(.bool false))] V fun _=>wk_iff 5 (v:=false) V V V V (wT 1 [] 2 2 [] [(2,(.bool false))] V fun _=>?_)))
 refine ae ⟨.inr V,_,V,false,_,fR,(HS.forget A),V,(by(symm;unfold resV;rw[decide_eq_false_iff_not];unfold resL;intro h;simp only[a0o,a0a,or_false]at h;rcases h with h|h|h|h|h|h|h|h|h<;>simp_all))⟩
theorem ge(s:List UInt8)(hs:HS (.of H []) F H [] R)(Z:s.length<4611686018427387904):kKt ex 70 [(tX s)] H fun v H'=> ∃(o:Bool) (F':Fz),Fz.le F F'/\HS (.of H []) F' H' [] R/\v= .bool o/\o=vnm s:=by refine av Tryz.func70 V V (ai 1 V (wT 2 [] 2 2 [] [(2,(.bool false))] V fun _=>sj 1 2 9 [] [(2,(.bool (inNm s&&(!(resV s)))))] (Hk_ 1 (jp hs fun h=>isname_c_q ex s h M) (fX 4 (fun _=>(jc hs fun _ _ _ q=>breserved_c ex s q)) Hn_)) hs V V fun O a_ U A E=>ae ⟨.inr V,_,V,(inNm s&&(!(resV s))),_,(A),(HS.forget E),V,k_⟩))
theorem gQ{E:Option Addr}{O:Nat}(e:ExpT)(hs:HS (.of H []) F H [] R)(U:in64 e.kind)(a_:in64 e.n)(Z:in64 e.op)(al:SR F (sL E e.kids.length O) e.kids):kKt ex 130 [(aG [(iI e.kind),(iI e.n),(tX e.name.b),(iI e.op),(sL E e.kids.length O)])] H fun v H'=> ∃(o:Bool) (F':Fz),Fz.le F F'/\HS (.of H []) F' H' [] R/\v= .bool o/\o=isZ e:=by refine av Tryz.func130 V V (ai 1 V (ab (bc (aX hs V V) V V ?_)));rintro _ H2 _ ⟨b1,rfl,A,_⟩;refine za (.bool false) (ag 2 V (bH 1 2 26 [] [(2,(.bool (((((e.kind==0)&&(e.n==0))&&(e.name.b==lI))&&(e.op==0))&&((e.kids.length:Int)==0))))] (Hr_ 1 0 (dK 5 (fun _=>(ql 2 1 (h_ A V) V V)) (dK 10 (fun _=>(ql 9 2 (h_ A V) V V)) (dK 15 (fun _=>(ql 3 3 (h_ A V) V V)) (dK 20 (fun _=>(ql 44 4 (h_ A V) V V)) Hn_))))) A V V fun _=>ae ⟨.inr V,_,V,(((((e.kind==0)&&(e.n==0))&&(e.name.b==lI))&&(e.op==0))&&((e.kids.length:Int)==0)),_,fR,(HS.forget A),V,k_⟩))
theorem isbin_c(o:Int)(H:Heap):kKt ex 111 [(iI o)] H fun v H'=> ∃(x:Bool),H'=H/\v= .bool x/\x=binO o:=by refine av Tryz.func111 V V (ai 1 V (wT 2 [] 2 2 [] [(2,(.bool false))] V fun _=>wT 1 [] 2 8 [] [(2,(.bool ((decide ((4:Int)<=o))&&(decide (o<=18)))))] V fun _=>ae ⟨.inr V,_,V,((decide ((4:Int)<=o))&&(decide (o<=18))),V,V,k_⟩))
theorem isbin_c_q(o:Int)(H:Heap):kKt ex 111 [(iI o)] H fun v H'=>v=(.bool (binO o))/\H'=H:=
 cq (isbin_c ex o H) (by rintro _ _ ⟨_,rfl,rfl,rfl⟩;exact⟨V,V⟩)
theorem only_c{a_:Option Addr}{ar:Nat}{U:Option Addr}{an:Nat}{O:Option Addr}{al:Nat}{E:Option Addr}{Z:Nat}{ax:Option Addr}{aA:Nat}(s:StmT)(hs:HS (.of H []) F H [] R)(ba:in64 s.kind)(bb:in64 s.n)(bf:in64 s.at_.kind)(bl:in64 s.at_.n)(bn:in64 s.at_.op)(a1:SR F (sL ax s.at_.kids.length aA) s.at_.kids)(bt:in64 s.val.kind)(a4:in64 s.val.n)(a5:in64 s.val.op)(a6:SR F (sL E s.val.kids.length Z) s.val.kids)(a7:SR F (sL O s.args.length al) s.args)(a8:SR F (sL U s.thn.length an) s.thn)(a9:SR F (sL a_ s.els.length ar) s.els):kKt ex 131 [(aG [(iI s.kind),(tX s.name.b),(tX s.to.b),(iI s.n),(iI s.at_.kind),(iI s.at_.n),(tX s.at_.name.b),(iI s.at_.op),(sL ax s.at_.kids.length aA),(iI s.val.kind),(iI s.val.n),(tX s.val.name.b),(iI s.val.op),(sL E s.val.kids.length Z),(sL O s.args.length al),(sL U s.thn.length an),(sL a_ s.els.length ar)])] H fun v H'=> ∃(o:Bool) (F':Fz),Fz.le F F'/\HS (.of H []) F' H' [] R/\v= .bool o/\o=onV s:=by refine av Tryz.func131 V V (ai 1 V (ab (bc (aX hs V V) V V ?_)));rintro _ H2 _ ⟨b1,rfl,A,_⟩;refine za (.bool false) (ag 2 V (sj 1 2 26 [] [(2,(.bool (((((s.name.b==lI)&&(s.to.b==lI))&&(s.n==0))&&isZ s.at_)&&((s.args.length:Int)==0))))] (Hr_ 1 0 (cI 5 (fun _=>(jl A 9 2 0 V V V)) (cI 10 (fun _=>(jl A 3 3 0 V V V)) (cI 15 (fun _=>(jn A 46 4 5 0 V V V V V)) (fX 16 (fun g1=>(jc A fun _ _ j q=>gQ ex s.at_ q (by(try simp only[BS]at g1);(first|omega|(dsimp only;omega))) (by(try simp only[BS]at g1);(first|omega|(dsimp only;omega))) (by(try simp only[BS]at g1);(first|omega|(dsimp only;omega))) (a1.mono j))) (cI 20 (fun _=>(jl A 44 14 0 V V V)) Hn_)))))) A V V fun bw H3 F3 a2 a3=>?_));refine ae ⟨.inr V,_,V,(((((s.name.b==lI)&&(s.to.b==lI))&&(s.n==0))&&isZ s.at_)&&((s.args.length:Int)==0)),_,(a2),(HS.forget a3),V,k_⟩
theorem wfexpr_c_aux: ∀(fuel:Nat) {a_:Option Addr} {al:Nat} (e:ExpT) {F:Fz} {H:Heap} {R:List Fp} (hs:HS (.of H []) F H [] R) (ba:in64 e.kind) (bb:in64 e.n) (bf:in64 e.op) (O:SR F (sL a_ e.kids.length al) e.kids) (hn:ndE e<4611686018427387904) (hx:nbE e),ndE e<fuel->kKt ex 72 [(aG [(iI e.kind),(iI e.n),(tX e.name.b),(iI e.op),(sL a_ e.kids.length al)])] H fun v H'=> ∃(o:Bool) (F':Fz),Fz.le F F'/\HS (.of H []) F' H' [] R/\v= .bool o/\o=wfE e:=by
 intro fuel;induction fuel with
 |zero=>intros;omega
 |succ fuel ih=>
 intro a_ al e F H R hs ba bb bf O hn hx d6;have dk:=nd_e e;have dn:=iQ e.kids;have U:=wf_e e;obtain⟨a7,b2⟩:=nb_e hx;refine av Tryz.func72 V V (ai 1 V (ab (bc (aX hs V V) V V ?_)));rintro _ H2 _ ⟨b1,rfl,bF,_⟩;refine za (.bool false) (ag 3 V (wT 2 [] 1 0 [3] [(3,(iI 0))] V fun _=>aj (fun(mm:Nat) f H'=> ∃(i:Nat) (F':Fz),Fz.le F F'/\HS (Base.of H []) F' H' [(fP b1 [(iI e.kind),(iI e.n),(tX e.name.b),(iI e.op),(sL a_ e.kids.length al)])] R/\aC f [(1,(pT b1 0)),(3,(iI (i:Int)))]/\mm=e.kids.length-i/\(hU e.kids=hU (e.kids.drop i))/\(i<=e.kids.length)) _ ⟨0,_,fR,bF,⟨V,V,trivial⟩,V,k_,M⟩ ?_));rintro c8 f4 H4 ⟨i,F4,E,A,a5,rfl,h1,hi⟩ b0;refine ap _ a5 (fun _=>?_);clear a5;replace O:=O.mono E;refine ai 2 V (bH 1 5 9 [] [(9,(.bool (decide ((i:Int)<(e.kids.length:Int)))))] (Hr_ 2 0 Hn_) A V V fun _=>zd 4 5 (fun c6=>?_) fun c6=>?_)
 ·have qa:=lN (l:=e.kids) (i:=i) M;refine ab ?_;obtain⟨a4,a6⟩:=Sv.view (SR.sv O A);obtain⟨b6,b8,b9,bt⟩:=ExpT.fx (a6 i);refine bW 5 0 12 16 [] [(16,(aG [(iI (e.kids.getD i default).kind),(iI (e.kids.getD i default).n),(tX (e.kids.getD i default).name.b),(iI (e.kids.getD i default).op),(sL (cA (a4 i) 4) (e.kids.getD i default).kids.length (cK (a4 i) 4))]))] (Hr_ 1 0 (Ha_ (Sv.ix (j:=(i:Int)) (SR.sv O A)) (Hl_ 4 (qn 46 0 5 (ExpT.vw (a6 i)) V V V V) Hn_))) A V V fun _=>zc (ih (e.kids.getD i default) (HS.call A) M M M bt M (nbs_at b2 M) M) ?_
  rintro _ c4 ⟨c9,co,a3,Z,rfl,rfl⟩;replace Z:=HS.back A V Z;refine bV 1 6 18 18 [] [(18,(.bool (!(wfE (e.kids.getD i default)))))] Hn_ (by kernel_rfl) V fun _=>ag 1 V (zi 1 2 (fun an=>?_) fun an=>?_)
  ·try simp only[BS]at an
   have dt:=ws_no (l:=e.kids) (i:=i) M (by simpa only[aT] using an);refine wT 1 [] 2 2 [] [(2,(.bool false))] V fun _=>ae ⟨.inr V,_,V,false,_,(fT (E) a3),(HS.forget Z),V,(U.trans (wf_no (h1.trans dt))).symm⟩
  try simp only[BS]at an
  have d4:=ws_go (l:=e.kids) (i:=i) M (by simpa only[aT] using an);refine wU 1 [] 10 11 [3] [(3,(iI ((i:Int)+1)))] (vi (n:=(i:Int)+1)) V fun _=>?_
  refine b0 _ _ _ ?_ ⟨i+1,_,(fT (E) a3),Z,⟨V,V,trivial⟩,V,(h1.trans d4),M⟩;omega
 refine bH 3 19 21 [4] [(4,(iI (e.kids.length:Int)))] (Hr_ 1 0 Hn_) A V V fun _=>bH 3 22 23 [] [(23,(iI e.kind))] (Hr_ 1 0 Hn_) A V V fun _=>wT 1 [] 24 25 [] [(24,(.bool (e.kind==1)))] V fun _=>zi 1 1 (fun ax=>?_) fun ax=>?_
 ·try simp only[BS]at ax
  refine wrp 1 26 37 [2] [(2,(.bool ((((e.kids.length:Int)==0)&&(e.name.b==lI))&&(e.op==0))))] (dK 4 (fun _=>(ql 9 2 (h_ A V) V V)) (dK 9 (fun _=>(ql 3 3 (h_ A V) V V)) Hn_)) V V fun _=>ae ⟨.inr V,_,V,((((e.kids.length:Int)==0)&&(e.name.b==lI))&&(e.op==0)),_,(E),(HS.forget A),V,(by exact(U.trans ((iM h1 M).trans (by unfold wfN;(repeat rw[if_neg M])<;>first|rfl|(rw[if_pos M]<;>rfl)))).symm)⟩
 try simp only[BS]at ax
 refine wT 1 [] 38 39 [] [(38,(.bool (e.kind==2)))] V fun _=>zi 1 1 (fun aA=>?_) fun aA=>?_
 ·try simp only[BS]at aA
  refine sj 1 40 56 [2] [(2,(.bool (((((e.kids.length:Int)==0)&&(e.n==0))&&(e.op==0))&&vnm e.name.b)))] (cI 4 (fun _=>(jl A 2 1 0 V V V)) (cI 9 (fun _=>(jl A 3 3 0 V V V)) (cI 14 (fun _=>(jl A 9 2 0 V V V)) (fX 15 (fun _=>(jc A fun _ _ _ q=>ge ex e.name.b q (a7))) Hn_)))) A V V fun ch c5 c0 a8 bl=>?_
  refine ae ⟨.inr V,_,V,(((((e.kids.length:Int)==0)&&(e.n==0))&&(e.op==0))&&vnm e.name.b),_,(fT (E) a8),(HS.forget bl),V,(by exact(U.trans ((iM h1 M).trans (by unfold wfN;(repeat rw[if_neg M])<;>first|rfl|(rw[if_pos M]<;>rfl)))).symm)⟩
 try simp only[BS]at aA
 refine wT 1 [] 57 58 [] [(57,(.bool (e.kind==3)))] V fun _=>zi 1 1 (fun a0=>?_) fun a0=>?_
 ·try simp only[BS]at a0
  refine sj 1 59 75 [2] [(2,(.bool (((((e.kids.length:Int)==1)&&(e.n==0))&&(e.op==0))&&vnm e.name.b)))] (cI 4 (fun _=>(jl A 2 1 0 V V V)) (cI 9 (fun _=>(jl A 3 3 0 V V V)) (cI 14 (fun _=>(jl A 9 2 0 V V V)) (fX 15 (fun _=>(jc A fun _ _ _ q=>ge ex e.name.b q (a7))) Hn_)))) A V V fun ci c7 c3 a9 bn=>?_
  refine ae ⟨.inr V,_,V,(((((e.kids.length:Int)==1)&&(e.n==0))&&(e.op==0))&&vnm e.name.b),_,(fT (E) a9),(HS.forget bn),V,(by exact(U.trans ((iM h1 M).trans (by unfold wfN;(repeat rw[if_neg M])<;>first|rfl|(rw[if_pos M]<;>rfl)))).symm)⟩
 try simp only[BS]at a0
 refine wT 1 [] 76 77 [] [(76,(.bool (e.kind==4)))] V fun _=>zi 1 1 (fun a1=>?_) fun a1=>?_
 ·try simp only[BS]at a1
  refine bH 1 78 108 [2] [(2,(.bool (((e.n==0)&&(e.name.b==lI))&&((((e.kids.length:Int)==2)&&binO e.op)||(((e.kids.length:Int)==1)&&((e.op==20)||(e.op==21)))))))] (Hr_ 1 0 (dK 5 (fun _=>(ql 9 2 (h_ A V) V V)) (Hl2_ 13 (fun _ _=>(ql 3 3 (h_ A V) V V)) (Hc2_ 14 (fun _ _=>(isbin_c_q ex e.op H4)) (Hl3_ 21 (fun _ _ _=>(ql 3 3 (h_ A V) V V)) (Ho_ 25 (.o (iI e.op)) (fun(g1:(e.op==20)=false) (g2:((e.kids.length:Int)==1)=true) (g3:(((e.kids.length:Int)==2)&&binO e.op)=false) (g4:((e.n==0)&&(e.name.b==lI))=true)=>(ql 3 3 (h_ A V) V V)) Hn_)))))) A V V fun _=>ae ⟨.inr V,_,V,(((e.n==0)&&(e.name.b==lI))&&((((e.kids.length:Int)==2)&&binO e.op)||(((e.kids.length:Int)==1)&&((e.op==20)||(e.op==21))))),_,(E),(HS.forget A),V,(by exact(U.trans ((iM h1 M).trans (by unfold wfN;(repeat rw[if_neg M])<;>first|rfl|(rw[if_pos M]<;>rfl)))).symm)⟩
 try simp only[BS]at a1
 refine wT 1 [] 109 110 [] [(109,(.bool (e.kind==5)))] V fun _=>zi 1 3 (fun a2=>?_) fun a2=>?_
 ·try simp only[BS]at a2
  refine wrp 1 111 127 [2] [(2,(.bool (((((e.kids.length:Int)==3)&&(e.n==0))&&(e.name.b==lI))&&(e.op==0))))] (dK 4 (fun _=>(ql 2 1 (h_ A V) V V)) (dK 9 (fun _=>(ql 9 2 (h_ A V) V V)) (dK 14 (fun _=>(ql 3 3 (h_ A V) V V)) Hn_))) V V fun _=>ae ⟨.inr V,_,V,(((((e.kids.length:Int)==3)&&(e.n==0))&&(e.name.b==lI))&&(e.op==0)),_,(E),(HS.forget A),V,(by exact(U.trans ((iM h1 M).trans (by unfold wfN;(repeat rw[if_neg M])<;>first|rfl|(rw[if_pos M]<;>rfl)))).symm)⟩
 try simp only[BS]at a2
 refine wT 1 [] 2 2 [] [(2,(.bool false))] V fun _=>ae ⟨.inr V,_,V,false,_,(E),(HS.forget A),V,(by exact(U.trans ((iM h1 M).trans (by unfold wfN;(repeat rw[if_neg M])<;>first|rfl|(rw[if_pos M]<;>rfl)))).symm)⟩
theorem eT{A:Option Addr}{E:Nat}(e:ExpT)(hs:HS (.of H []) F H [] R)(O:in64 e.kind)(U:in64 e.n)(a_:in64 e.op)(Z:SR F (sL A e.kids.length E) e.kids)(hn:ndE e<4611686018427387904)(hx:nbE e):kKt ex 72 [(aG [(iI e.kind),(iI e.n),(tX e.name.b),(iI e.op),(sL A e.kids.length E)])] H fun v H'=> ∃(o:Bool) (F':Fz),Fz.le F F'/\HS (.of H []) F' H' [] R/\v= .bool o/\o=wfE e:=
 wfexpr_c_aux ex (ndE e+1) e hs O U a_ Z hn hx (a0x _)
theorem wfstmt_c{a1:Option Addr}{a6:Nat}{a0:Option Addr}{a5:Nat}{aA:Option Addr}{a4:Nat}{ax:Option Addr}{a3:Nat}{a8:Option Addr}{a9:Nat}(s:StmT)(hs:HS (.of H []) F H [] R)(e2:in64 s.kind)(e3:in64 s.n)(e4:in64 s.at_.kind)(e5:in64 s.at_.n)(e6:in64 s.at_.op)(Z:SR F (sL a8 s.at_.kids.length a9) s.at_.kids)(e7:in64 s.val.kind)(d2:in64 s.val.n)(d3:in64 s.val.op)(O:SR F (sL ax s.val.kids.length a3) s.val.kids)(a_:SR F (sL aA s.args.length a4) s.args)(al:SR F (sL a0 s.thn.length a5) s.thn)(an:SR F (sL a1 s.els.length a6) s.els)(hn:ndS s<4611686018427387904)(hx:nbS s):kKt ex 110 [(aG [(iI s.kind),(tX s.name.b),(tX s.to.b),(iI s.n),(iI s.at_.kind),(iI s.at_.n),(tX s.at_.name.b),(iI s.at_.op),(sL a8 s.at_.kids.length a9),(iI s.val.kind),(iI s.val.n),(tX s.val.name.b),(iI s.val.op),(sL ax s.val.kids.length a3),(sL aA s.args.length a4),(sL a0 s.thn.length a5),(sL a1 s.els.length a6)])] H fun v H'=> ∃(o:Bool) (F':Fz),Fz.le F F'/\HS (.of H []) F' H' [] R/\v= .bool o/\o=wfA s:=by
 have g2:=ns_s s;have g3:=iQ s.args;obtain⟨g4,g5,g6,g7,d1,e8,fb⟩:=nb_s hx;refine av Tryz.func110 V V (ai 1 V (ab (bc (aX hs V V) V V ?_)));rintro _ H2 _ ⟨b1,rfl,ds,_⟩;refine za (.bool false) (ag 3 V (wT 2 [] 1 0 [3] [(3,(iI 0))] V fun _=>aj (fun(mm:Nat) f H'=> ∃(i:Nat) (F':Fz),Fz.le F F'/\HS (Base.of H []) F' H' [(fP b1 [(iI s.kind),(tX s.name.b),(tX s.to.b),(iI s.n),(iI s.at_.kind),(iI s.at_.n),(tX s.at_.name.b),(iI s.at_.op),(sL a8 s.at_.kids.length a9),(iI s.val.kind),(iI s.val.n),(tX s.val.name.b),(iI s.val.op),(sL ax s.val.kids.length a3),(sL aA s.args.length a4),(sL a0 s.thn.length a5),(sL a1 s.els.length a6)])] R/\aC f [(1,(pT b1 0)),(3,(iI (i:Int)))]/\mm=s.args.length-i/\(hU s.args=hU (s.args.drop i))/\(i<=s.args.length)) _ ⟨0,_,fR,ds,⟨V,V,trivial⟩,V,k_,M⟩ ?_));rintro gq f4 H4 ⟨i,F4,U,A,b2,rfl,h1,hi⟩ dt;refine ap _ b2 (fun _=>?_);clear b2;replace O:=O.mono U;replace a_:=a_.mono U;replace al:=al.mono U;replace an:=an.mono U;replace Z:=Z.mono U;refine ai 2 V (bH 1 5 9 [] [(9,(.bool (decide ((i:Int)<(s.args.length:Int)))))] (Hr_ 2 0 Hn_) A V V fun _=>zd 4 5 (fun c6=>?_) fun c6=>?_)
 ·have qa:=lN (l:=s.args) (i:=i) M;refine ab ?_;obtain⟨b0,b3⟩:=Sv.view (SR.sv a_ A);obtain⟨d5,d6,d7,dk⟩:=ExpT.fx (b3 i);refine bW 5 0 12 16 [] [(16,(aG [(iI (s.args.getD i default).kind),(iI (s.args.getD i default).n),(tX (s.args.getD i default).name.b),(iI (s.args.getD i default).op),(sL (cA (b0 i) 4) (s.args.getD i default).kids.length (cK (b0 i) 4))]))] (Hr_ 1 0 (Ha_ (Sv.ix (j:=(i:Int)) (SR.sv a_ A)) (Hl_ 4 (qn 46 0 5 (ExpT.vw (b3 i)) V V V V) Hn_))) A V V fun _=>zc (eT ex (s.args.getD i default) (HS.call A) M M M dk M (nbs_at d1 M)) ?_
  rintro _ f3 ⟨g0,fd,bF,a2,rfl,rfl⟩;replace a2:=HS.back A V a2;refine bV 1 6 18 18 [] [(18,(.bool (!(wfE (s.args.getD i default)))))] Hn_ (by kernel_rfl) V fun _=>ag 1 V (zi 1 2 (fun a7=>?_) fun a7=>?_)
  ·try simp only[BS]at a7
   have ho:=ws_no (l:=s.args) (i:=i) M (by simpa only[aT] using a7);refine wT 1 [] 2 2 [] [(2,(.bool false))] V fun _=>ae ⟨.inr V,_,V,false,_,(fT (U) bF),(HS.forget a2),V,(wf_no (b:=wfK s) (h1.trans ho)).symm⟩
  try simp only[BS]at a7
  have hr:=ws_go (l:=s.args) (i:=i) M (by simpa only[aT] using a7);refine wU 1 [] 10 11 [3] [(3,(iI ((i:Int)+1)))] (vi (n:=(i:Int)+1)) V fun _=>?_
  refine dt _ _ _ ?_ ⟨i+1,_,(fT (U) bF),a2,⟨V,V,trivial⟩,V,(h1.trans hr),M⟩;omega
 refine bH 3 19 28 [4] [(4,(.bool (((s.thn.length:Int)==0)&&((s.els.length:Int)==0))))] (Hr_ 1 0 (dK 6 (fun _=>(ql 51 16 (h_ A V) V V)) Hn_)) A V V fun _=>bH 3 29 30 [] [(30,(iI s.kind))] (Hr_ 1 0 Hn_) A V V fun _=>wT 1 [] 31 32 [] [(31,(.bool (s.kind==1)))] V fun _=>zi 1 1 (fun ba=>?_) fun ba=>?_
 ·try simp only[BS]at ba
  refine sj 1 33 64 [2] [(2,(.bool (((((((((s.thn.length:Int)==0)&&((s.els.length:Int)==0))&&vnm s.name.b)&&(s.to.b==lI))&&(s.n==0))&&isZ s.at_)&&((s.args.length:Int)==0))&&wfE s.val)))] (cI 3 (fun _=>(jl A 9 1 0 V V V)) (fX 4 (fun _=>(jc A fun _ _ _ q=>ge ex s.name.b q X)) (cI 8 (fun _=>(jl A 9 2 0 V V V)) (cI 13 (fun _=>(jl A 3 3 0 V V V)) (cI 18 (fun _=>(jn A 46 4 5 0 V V V V V)) (fX 19 (fun E=>(jc A fun _ _ j q=>gQ ex s.at_ q (by(try simp only[BS]at E);(first|omega|(dsimp only;omega))) (by(try simp only[BS]at E);(first|omega|(dsimp only;omega))) (by(try simp only[BS]at E);(first|omega|(dsimp only;omega))) (Z.mono j))) (cI 23 (fun _=>(jl A 44 14 0 V V V)) (cI 29 (fun _=>(jn A 46 9 5 0 V V V V V)) (fX 30 (fun E=>(jc A fun _ _ j q=>eT ex s.val q (by(try simp only[BS]at E);(first|omega|(dsimp only;omega))) (by(try simp only[BS]at E);(first|omega|(dsimp only;omega))) (by(try simp only[BS]at E);(first|omega|(dsimp only;omega))) (O.mono j) M M)) Hn_))))))))) A V V fun d8 f5 fi b4 c0=>?_
  refine ae ⟨.inr V,_,V,(((((((((s.thn.length:Int)==0)&&((s.els.length:Int)==0))&&vnm s.name.b)&&(s.to.b==lI))&&(s.n==0))&&isZ s.at_)&&((s.args.length:Int)==0))&&wfE s.val),_,(fT (U) b4),(HS.forget c0),V,(by exact((iM (b:=wfK s) h1 M).trans (by unfold wfK;(repeat rw[if_neg M])<;>first|rfl|(rw[if_pos M]<;>first|rfl|(simp only[aT]<;>rfl)))).symm)⟩
 try simp only[BS]at ba
 refine wT 1 [] 65 66 [] [(65,(.bool (s.kind==2)))] V fun _=>zi 1 1 (fun bb=>?_) fun bb=>?_
 ·try simp only[BS]at bb
  refine sj 1 67 98 [2] [(2,(.bool (((((((((s.thn.length:Int)==0)&&((s.els.length:Int)==0))&&vnm s.name.b)&&(s.to.b==lI))&&(s.n==0))&&wfE s.at_)&&((s.args.length:Int)==0))&&wfE s.val)))] (cI 3 (fun _=>(jl A 9 1 0 V V V)) (fX 4 (fun _=>(jc A fun _ _ _ q=>ge ex s.name.b q X)) (cI 8 (fun _=>(jl A 9 2 0 V V V)) (cI 13 (fun _=>(jl A 3 3 0 V V V)) (cI 18 (fun _=>(jn A 46 4 5 0 V V V V V)) (fX 19 (fun E=>(jc A fun _ _ j q=>eT ex s.at_ q (by(try simp only[BS]at E);(first|omega|(dsimp only;omega))) (by(try simp only[BS]at E);(first|omega|(dsimp only;omega))) (by(try simp only[BS]at E);(first|omega|(dsimp only;omega))) (Z.mono j) M M)) (cI 23 (fun _=>(jl A 44 14 0 V V V)) (cI 29 (fun _=>(jn A 46 9 5 0 V V V V V)) (fX 30 (fun E=>(jc A fun _ _ j q=>eT ex s.val q (by(try simp only[BS]at E);(first|omega|(dsimp only;omega))) (by(try simp only[BS]at E);(first|omega|(dsimp only;omega))) (by(try simp only[BS]at E);(first|omega|(dsimp only;omega))) (O.mono j) M M)) Hn_))))))))) A V V fun ee f6 fk b6 c3=>?_
  refine ae ⟨.inr V,_,V,(((((((((s.thn.length:Int)==0)&&((s.els.length:Int)==0))&&vnm s.name.b)&&(s.to.b==lI))&&(s.n==0))&&wfE s.at_)&&((s.args.length:Int)==0))&&wfE s.val),_,(fT (U) b6),(HS.forget c3),V,(by exact((iM (b:=wfK s) h1 M).trans (by unfold wfK;(repeat rw[if_neg M])<;>first|rfl|(rw[if_pos M]<;>first|rfl|(simp only[aT]<;>rfl)))).symm)⟩
 try simp only[BS]at bb
 refine wT 1 [] 99 100 [] [(99,(.bool (s.kind==3)))] V fun _=>zi 1 1 (fun bf=>?_) fun bf=>?_
 ·try simp only[BS]at bf
  refine sj 1 101 107 [2] [(2,(.bool (onV s&&wfE s.val)))] (Hr_ 0 0 (Hk_ 1 (jc A fun _ _ j q=>only_c ex s q M M M M M (Z.mono j) M M M (O.mono j) (a_.mono j) (al.mono j) (an.mono j)) (cI 4 (fun _=>(jn A 46 9 5 0 V V V V V)) (fX 5 (fun E=>(jc A fun _ _ j q=>eT ex s.val q (by(try simp only[BS]at E);(first|omega|(dsimp only;omega))) (by(try simp only[BS]at E);(first|omega|(dsimp only;omega))) (by(try simp only[BS]at E);(first|omega|(dsimp only;omega))) (O.mono j) M M)) Hn_)))) A V V fun em f7 fq b8 c4=>?_
  refine ae ⟨.inr V,_,V,(onV s&&wfE s.val),_,(fT (U) b8),(HS.forget c4),V,(by exact((iM (b:=wfK s) h1 M).trans (by unfold wfK;(repeat rw[if_neg M])<;>first|rfl|(rw[if_pos M]<;>first|rfl|(simp only[aT]<;>rfl)))).symm)⟩
 try simp only[BS]at bf
 refine wT 1 [] 108 109 [] [(108,(.bool (s.kind==4)))] V fun _=>zi 1 1 (fun bl=>?_) fun bl=>?_
 ·try simp only[BS]at bl
  refine sj 1 110 122 [2] [(2,(.bool ((onV s&&wfE s.val)&&((s.els.length:Int)==0))))] (Hr_ 0 0 (Hk_ 1 (jc A fun _ _ j q=>only_c ex s q M M M M M (Z.mono j) M M M (O.mono j) (a_.mono j) (al.mono j) (an.mono j)) (cI 4 (fun _=>(jn A 46 9 5 0 V V V V V)) (fX 5 (fun E=>(jc A fun _ _ j q=>eT ex s.val q (by(try simp only[BS]at E);(first|omega|(dsimp only;omega))) (by(try simp only[BS]at E);(first|omega|(dsimp only;omega))) (by(try simp only[BS]at E);(first|omega|(dsimp only;omega))) (O.mono j) M M)) (cI 9 (fun _=>(jl A 51 16 0 V V V)) Hn_))))) A V V fun et f8 fu b9 c5=>?_
  refine ae ⟨.inr V,_,V,((onV s&&wfE s.val)&&((s.els.length:Int)==0)),_,(fT (U) b9),(HS.forget c5),V,(by exact((iM (b:=wfK s) h1 M).trans (by unfold wfK;(repeat rw[if_neg M])<;>first|rfl|(rw[if_pos M]<;>first|rfl|(simp only[aT]<;>rfl)))).symm)⟩
 try simp only[BS]at bl
 refine wT 1 [] 123 124 [] [(123,(.bool (s.kind==5)))] V fun _=>zi 1 1 (fun bn=>?_) fun bn=>?_
 ·try simp only[BS]at bn
  refine sj 1 125 134 [2] [(2,(.bool (((((s.thn.length:Int)==0)&&((s.els.length:Int)==0))&&onV s)&&wfE s.val)))] (cI 2 (fun _=>(jn A 63 0 17 0 V V V V V)) (fX 3 (fun E=>(jc A fun _ _ j q=>only_c ex s q (by(try simp only[BS]at E);(first|omega|(dsimp only;omega))) (by(try simp only[BS]at E);(first|omega|(dsimp only;omega))) (by(try simp only[BS]at E);(first|omega|(dsimp only;omega))) (by(try simp only[BS]at E);(first|omega|(dsimp only;omega))) (by(try simp only[BS]at E);(first|omega|(dsimp only;omega))) (Z.mono j) (by(try simp only[BS]at E);(first|omega|(dsimp only;omega))) (by(try simp only[BS]at E);(first|omega|(dsimp only;omega))) (by(try simp only[BS]at E);(first|omega|(dsimp only;omega))) (O.mono j) (a_.mono j) (al.mono j) (an.mono j))) (cI 7 (fun _=>(jn A 46 9 5 0 V V V V V)) (fX 8 (fun E=>(jc A fun _ _ j q=>eT ex s.val q (by(try simp only[BS]at E);(first|omega|(dsimp only;omega))) (by(try simp only[BS]at E);(first|omega|(dsimp only;omega))) (by(try simp only[BS]at E);(first|omega|(dsimp only;omega))) (O.mono j) M M)) Hn_)))) A V V fun ez f9 f0 ch c7=>?_
  refine ae ⟨.inr V,_,V,(((((s.thn.length:Int)==0)&&((s.els.length:Int)==0))&&onV s)&&wfE s.val),_,(fT (U) ch),(HS.forget c7),V,(by exact((iM (b:=wfK s) h1 M).trans (by unfold wfK;(repeat rw[if_neg M])<;>first|rfl|(rw[if_pos M]<;>first|rfl|(simp only[aT]<;>rfl)))).symm)⟩
 try simp only[BS]at bn
 refine wT 1 [] 135 136 [] [(135,(.bool (s.kind==6)))] V fun _=>zi 1 1 (fun bt=>?_) fun bt=>?_
 ·try simp only[BS]at bt
  refine sj 1 137 162 [2] [(2,(.bool ((((((((s.thn.length:Int)==0)&&((s.els.length:Int)==0))&&vnm s.name.b)&&vnm s.to.b)&&(s.n==0))&&isZ s.at_)&&isZ s.val)))] (cI 3 (fun _=>(jl A 9 1 0 V V V)) (fX 4 (fun _=>(jc A fun _ _ _ q=>ge ex s.name.b q X)) (cI 8 (fun _=>(jl A 9 2 0 V V V)) (fX 9 (fun _=>(jc A fun _ _ _ q=>ge ex s.to.b q X)) (cI 13 (fun _=>(jl A 3 3 0 V V V)) (cI 18 (fun _=>(jn A 46 4 5 0 V V V V V)) (fX 19 (fun E=>(jc A fun _ _ j q=>gQ ex s.at_ q (by(try simp only[BS]at E);(first|omega|(dsimp only;omega))) (by(try simp only[BS]at E);(first|omega|(dsimp only;omega))) (by(try simp only[BS]at E);(first|omega|(dsimp only;omega))) (Z.mono j))) (cI 23 (fun _=>(jn A 46 9 5 0 V V V V V)) (fX 24 (fun E=>(jc A fun _ _ j q=>gQ ex s.val q (by(try simp only[BS]at E);(first|omega|(dsimp only;omega))) (by(try simp only[BS]at E);(first|omega|(dsimp only;omega))) (by(try simp only[BS]at E);(first|omega|(dsimp only;omega))) (O.mono j))) Hn_))))))))) A V V fun e0 gm f1 ci c8=>?_
  refine ae ⟨.inr V,_,V,((((((((s.thn.length:Int)==0)&&((s.els.length:Int)==0))&&vnm s.name.b)&&vnm s.to.b)&&(s.n==0))&&isZ s.at_)&&isZ s.val),_,(fT (U) ci),(HS.forget c8),V,(by exact((iM (b:=wfK s) h1 M).trans (by unfold wfK;(repeat rw[if_neg M])<;>first|rfl|(rw[if_pos M]<;>first|rfl|(simp only[aT]<;>rfl)))).symm)⟩
 try simp only[BS]at bt
 refine wT 1 [] 163 164 [] [(163,(.bool (s.kind==7)))] V fun _=>zi 1 3 (fun bw=>?_) fun bw=>?_
 ·try simp only[BS]at bw
  refine sj 1 165 201 [2] [(2,(.bool ((((((((((s.thn.length:Int)==0)&&((s.els.length:Int)==0))&&(s.name.b==lI))&&(s.to.b==lI))&&(decide ((0:Int)<=s.n)))&&(decide (s.n<=1000000)))&&isZ s.at_)&&isZ s.val)&&((s.args.length:Int)==0))))] (cI 3 (fun _=>(jl A 9 1 0 V V V)) (cI 8 (fun _=>(jl A 9 2 0 V V V)) (cI 13 (fun _=>(jl A 3 3 0 V V V)) (cI 18 (fun _=>(jl A 3 3 0 V V V)) (cI 23 (fun _=>(jn A 46 4 5 0 V V V V V)) (fX 24 (fun E=>(jc A fun _ _ j q=>gQ ex s.at_ q (by(try simp only[BS]at E);(first|omega|(dsimp only;omega))) (by(try simp only[BS]at E);(first|omega|(dsimp only;omega))) (by(try simp only[BS]at E);(first|omega|(dsimp only;omega))) (Z.mono j))) (cI 28 (fun _=>(jn A 46 9 5 0 V V V V V)) (fX 29 (fun E=>(jc A fun _ _ j q=>gQ ex s.val q (by(try simp only[BS]at E);(first|omega|(dsimp only;omega))) (by(try simp only[BS]at E);(first|omega|(dsimp only;omega))) (by(try simp only[BS]at E);(first|omega|(dsimp only;omega))) (O.mono j))) (cI 33 (fun _=>(jl A 44 14 0 V V V)) Hn_))))))))) A V V fun e1 go f2 co c9=>?_
  refine ae ⟨.inr V,_,V,((((((((((s.thn.length:Int)==0)&&((s.els.length:Int)==0))&&(s.name.b==lI))&&(s.to.b==lI))&&(decide ((0:Int)<=s.n)))&&(decide (s.n<=1000000)))&&isZ s.at_)&&isZ s.val)&&((s.args.length:Int)==0)),_,(fT (U) co),(HS.forget c9),V,(by exact((iM (b:=wfK s) h1 M).trans (by unfold wfK;(repeat rw[if_neg M])<;>first|rfl|(rw[if_pos M]<;>first|rfl|(simp only[aT]<;>rfl)))).symm)⟩
 try simp only[BS]at bw
 refine wT 1 [] 2 2 [] [(2,(.bool false))] V fun _=>ae ⟨.inr V,_,V,false,_,(U),(HS.forget A),V,(by exact((iM (b:=wfK s) h1 M).trans (by unfold wfK;(repeat rw[if_neg M])<;>first|rfl|(rw[if_pos M]<;>first|rfl|(simp only[aT]<;>rfl)))).symm)⟩
theorem mO: ∀(fuel:Nat) {b9:Option Addr} {cp:Nat} (l:List StmT) {F:Fz} {H:Heap} {R:List Fp} (hs:HS (.of H []) F H [] R) (hl:SR F (sL b9 l.length cp) l) (hn:ev l<4611686018427387904) (hx:nbSs l),ev l<fuel->kKt ex 71 [(sL b9 l.length cp)] H fun v H'=> ∃(x:Bool) (F':Fz),Fz.le F F'/\HS (.of H []) F' H' [] R/\v= .bool x/\x=dJ l:=by
 intro fuel;induction fuel with
 |zero=>intros;omega
 |succ fuel ih=>
 intro b9 cp l F H R hs hl hn hx hw;have hu:=kW l;refine av Tryz.func71 V V (ai 1 V (wT 3 [] 2 2 [] [(2,(.bool false))] V fun _=>wT 2 [] 1 0 [3] [(3,(iI 0))] V fun _=>aj (fun(mm:Nat) f H'=> ∃(i:Nat) (F':Fz),Fz.le F F'/\HS (Base.of H []) F' H' [] R/\aC f [(0,(sL b9 l.length cp)),(3,(iI (i:Int)))]/\mm=l.length-i/\(dJ l=dJ (l.drop i))/\(i<=l.length)) _ ⟨0,_,fR,hs,⟨V,V,trivial⟩,V,k_,M⟩ ?_));rintro hp f3 H3 ⟨i,F3,a0,al,b8,rfl,h1,hi⟩ d6;refine ap _ b8 (fun _=>?_);clear b8;replace hl:=hl.mono a0;refine ai 2 V (wT 1 [] 4 7 [] [(7,(.bool (decide ((i:Int)<(l.length:Int)))))] V fun _=>zd 4 5 (fun c5=>?_) fun c5=>?_)
 ·have qa:=ns_at (l:=l) (i:=i) M;have qs:=ns_s (l.getD i default);have e6:=nbs_s hx (i:=i) M;obtain⟨_,_,_,_,_,g9,ha⟩:=nb_s e6;refine hO 10 33 [] [(33,(.bool (((!(wfA (l.getD i default)))||(!(dJ (l.getD i default).thn)))||(!(dJ (l.getD i default).els)))))] (fun H'=> ∃F',Fz.le F3 F'/\HS (Base.of H []) F' H' [] R) ?_ ?_
  ·refine ab (zm (sL b9 l.length cp) (zm (iI (i:Int)) (ao (v:=(.pointer (some ⟨sB (sL b9 l.length cp),sO (sL b9 l.length cp)+i *Rp.sz StmT,none⟩))) (cH (α:=StmT) (j:=(i:Int)) V V V V (SR.sv hl al) M M) V V ?_)));obtain⟨g6,c3,ci⟩:=Sv.at (SR.sv hl al) (bC (x:=default) (show i<l.length from by omega));obtain⟨b3,b4,a1,a9,a2,ba,a3,bb,a4,bf,rfl,fb,fd,fi,fk,fq,fu,dt,d1,b6,bt,bw,bF,b0⟩:=(StmT.out c3)
   refine ao (v:=(aG [(iI (l.getD i default).kind),(tX (l.getD i default).name.b),(tX (l.getD i default).to.b),(iI (l.getD i default).n),(iI (l.getD i default).at_.kind),(iI (l.getD i default).at_.n),(tX (l.getD i default).at_.name.b),(iI (l.getD i default).at_.op),(sL b3 (l.getD i default).at_.kids.length b4),(iI (l.getD i default).val.kind),(iI (l.getD i default).val.n),(tX (l.getD i default).val.name.b),(iI (l.getD i default).val.op),(sL a1 (l.getD i default).val.kids.length a9),(sL a2 (l.getD i default).args.length ba),(sL a3 (l.getD i default).thn.length bb),(sL a4 (l.getD i default).els.length bf)])) (en (i:=0) V V V ci V V V) V V (zc (wfstmt_c ex (l.getD i default) (HS.call al) M M M M M b6 M M M bt bw bF b0 M M) ?_);rintro _ hj ⟨hq,he,a_,O,rfl,rfl⟩;replace O:=HS.back al V O;replace hl:=hl.mono a_;refine ao (v:=(.bool (!(wfA (l.getD i default))))) (gE V) V V (zm (.bool (!(wfA (l.getD i default)))) (eI (v:=(!(wfA (l.getD i default)))) V V (fun A=>?_) (fun A=>?_)))
   ·have ax:=A;try simp only[BS]at ax
    refine zm (sL b9 l.length cp) (aV V A (zm (iI (i:Int)) (aV V A (ao (v:=(.pointer (some ⟨sB (sL b9 l.length cp),sO (sL b9 l.length cp)+i *Rp.sz StmT,none⟩))) (cH (α:=StmT) (j:=(i:Int)) V V V V (SR.sv hl O) M M) V V (aV V A ?_)))));refine ao (v:=(.pointer (some ⟨sB (sL b9 l.length cp),sO (sL b9 l.length cp)+i *Rp.sz StmT+15,none⟩))) (eP V V) V V (aV V A ?_);obtain⟨g7,c4,co⟩:=Sv.at (SR.sv hl O) (bC (x:=default) (show i<l.length from by omega));obtain⟨e7,g0,c7,d7,c8,d8,a5,bl,c9,ee,rfl,f0,f1,f2,f4,f5,f6,d2,d3,g2,e0,e1,b1,e2⟩:=(StmT.out c4)
    refine ao (v:=(sL a5 (l.getD i default).thn.length bl)) (bL (i:=15) V V co V V) V V (aV V A (zc (ih (l.getD i default).thn (HS.call O) b1 M M M) ?_));rintro _ hk ⟨hr,hf,an,U,rfl,rfl⟩;replace U:=HS.back O V U;replace hl:=hl.mono an;refine aV V A (ao (v:=(.bool (!(dJ (l.getD i default).thn)))) (gE V) V V (ao (v:=(.bool (!(dJ (l.getD i default).thn)))) (bz V A V) V V (zm (.bool (!(dJ (l.getD i default).thn))) (eI (v:=(!(dJ (l.getD i default).thn))) V V (fun E=>?_) (fun E=>?_)))))
    ·have aA:=E;try simp only[BS]at aA
     refine zm (sL b9 l.length cp) (aV V E (zm (iI (i:Int)) (aV V E (ao (v:=(.pointer (some ⟨sB (sL b9 l.length cp),sO (sL b9 l.length cp)+i *Rp.sz StmT,none⟩))) (cH (α:=StmT) (j:=(i:Int)) V V V V (SR.sv hl U) M M) V V (aV V E ?_)))));refine ao (v:=(.pointer (some ⟨sB (sL b9 l.length cp),sO (sL b9 l.length cp)+i *Rp.sz StmT+16,none⟩))) (eP V V) V V (aV V E ?_);obtain⟨g8,c6,c0⟩:=Sv.at (SR.sv hl U) (bC (x:=default) (show i<l.length from by omega));obtain⟨e8,g1,dk,em,dn,et,ds,ez,a6,bn,rfl,f7,f8,f9,gm,go,gq,d4,d5,g3,e3,e4,e5,b2⟩:=(StmT.out c6)
     refine ao (v:=(sL a6 (l.getD i default).els.length bn)) (bL (i:=16) V V c0 V V) V V (aV V E (zc (ih (l.getD i default).els (HS.call U) b2 M M M) ?_));rintro _ hm ⟨ht,hg,ch,ar,rfl,rfl⟩;replace ar:=HS.back U V ar;refine aV V E (ao (v:=(.bool (!(dJ (l.getD i default).els)))) (gE V) V V (ao (v:=(.bool (!(dJ (l.getD i default).els)))) (bz V E V) V V (aQ ?_)));exact aD ⟨V,⟨_,(fT (fT (fT fR a_) an) ch),HS.sub ar (List.Sublist.refl _)⟩,(by repeat' first|exact Lr|refine Lu V ?_),(agC (congrArg Value.bool (show(!(dJ (l.getD i default).els))=(((!(wfA (l.getD i default)))||(!(dJ (l.getD i default).thn)))||(!(dJ (l.getD i default).els))) by simp only[↓A,↓E,BT])) agN)⟩
    have aA:=E;try simp only[BS]at aA
    refine aw V E V (aw V E V (aw V E V (aw V E V (aw V E V (aw V E V ?_)))));refine ao (v:=(.bool true)) (aI V E V) V V (aQ ?_);exact aD ⟨V,⟨_,(fT (fT fR a_) an),HS.sub U (List.Sublist.refl _)⟩,(by repeat' first|exact Lr|refine Lu V ?_),(agC (congrArg Value.bool (show true=(((!(wfA (l.getD i default)))||(!(dJ (l.getD i default).thn)))||(!(dJ (l.getD i default).els))) by simp only[↓A,↓E,BT])) agN)⟩
   have ax:=A;try simp only[BS]at ax
   refine aw V A V (aw V A V (aw V A V (aw V A V (aw V A V (aw V A V ?_)))));refine ao (v:=(.bool true)) (aI V A V) V V (zm (.bool true) (aw V V V (aw V V V (aw V V V (aw V V V ?_)))));refine aw V V V (aw V V V (aw V V V (ao (v:=(.bool true)) (aI V V V) V V (aQ ?_))));exact aD ⟨V,⟨_,(fT fR a_),HS.sub O (List.Sublist.refl _)⟩,(by repeat' first|exact Lr|refine Lu V ?_),(agC (congrArg Value.bool (show true=(((!(wfA (l.getD i default)))||(!(dJ (l.getD i default).thn)))||(!(dJ (l.getD i default).els))) by simp only[↓A,BT])) agN)⟩
  skip;rintro ho hh ⟨hb,a7,a8⟩;refine ai 1 V (zi 1 2 (fun Z=>?_) fun Z=>?_)
  ·try simp only[BS]at Z
   have g4:=wt_no (l:=l) (i:=i) M Z;refine wT 1 [] 2 2 [] [(2,(.bool false))] V fun _=>ae ⟨.inr V,_,V,false,_,(fT (a0) a7),(HS.forget a8),V,(h1.trans g4).symm⟩
  try simp only[BS]at Z
  have g5:=wt_go (l:=l) (i:=i) M Z;refine wU 1 [] 8 9 [3] [(3,(iI ((i:Int)+1)))] (vi (n:=(i:Int)+1)) V fun _=>?_
  refine d6 _ _ _ ?_ ⟨i+1,_,(fT (a0) a7),a8,⟨V,V,trivial⟩,V,(h1.trans g5),M⟩;omega
 refine wT 1 [] 2 2 [] [(2,(.bool true))] V fun _=>ae ⟨.inr V,_,V,true,_,(a0),(HS.forget al),V,(h1.trans (wt_end M)).symm⟩
theorem wfstmts_c{A:Option Addr}{E:Nat}(l:List StmT)(hs:HS (.of H []) F H [] R)(O:SR F (sL A l.length E) l)(U:ev l<4611686018427387904)(Z:nbSs l):kKt ex 71 [(sL A l.length E)] H fun v H'=> ∃(x:Bool) (F':Fz),Fz.le F F'/\HS (.of H []) F' H' [] R/\v= .bool x/\x=dJ l:=
 mO ex (ev l+1) l hs O U Z (a0x _)
theorem wf_c{ba:Option Addr}{bl:Nat}{a9:Option Addr}{bf:Nat}(p:PrgT)(hs:HS (.of H []) F H [] R)(aA:SR F (sL a9 p.arrs.length bf) p.arrs)(U:SR F (sL ba p.funs.length bl) p.funs)(hn:SmP p)(hx:NbP p):kKt ex 33 [(aG [(sL a9 p.arrs.length bf),(sL ba p.funs.length bl)])] H fun v H'=> ∃(x:Bool) (F':Fz),Fz.le F F'/\HS (.of H []) F' H' [] R/\v= .bool x/\x=wfP p:=by
 obtain⟨hW,hX,hv⟩:=hn;obtain⟨ht,hu⟩:=hx;refine av Tryz.func33 V V (ai 1 V (ab (bc (aX hs V V) V V ?_)));rintro _ H2 _ ⟨b1,rfl,d4,_⟩;let b8:Fp:=(fP b1 [(sL a9 p.arrs.length bf),(sL ba p.funs.length bl)])
 refine za (.bool false) (ag 3 V (wT 2 [] 1 0 [3] [(3,(iI 0))] V fun _=>aj (fun(mm:Nat) f H'=> ∃(i:Nat) (F':Fz),Fz.le F F'/\HS (Base.of H []) F' H' [b8] R/\aC f [(1,(pT b1 0)),(3,(iI (i:Int)))]/\mm=p.arrs.length-i/\(p.arrs.all anB=(p.arrs.drop i).all anB)/\(i<=p.arrs.length)) _ ⟨0,_,fR,d4,⟨V,V,trivial⟩,V,k_,M⟩ ?_));rintro g2 f4 H4 ⟨i,F4,al,an,c0,rfl,h1,hi⟩ d5;refine ap _ c0 (fun _=>?_);clear c0;replace aA:=aA.mono al;replace U:=U.mono al;refine ai 2 V (bH 1 8 12 [] [(12,(.bool (decide ((i:Int)<(p.arrs.length:Int)))))] (Hr_ 2 0 Hn_) an V V fun _=>zd 4 6 (fun c6=>?_) fun c6=>?_)
 ·refine ab ?_;obtain⟨f9,c3⟩:=Sv.view (SR.sv aA an);have e3:=ArrT.fx (c3 i);refine bW 6 0 15 20 [] [(20,(tX (p.arrs.getD i default).name.b))] (Hr_ 1 0 (Ha_ (Sv.ix (j:=(i:Int)) (SR.sv aA an)) (Hl_ 5 (ql 9 0 (ArrT.vw (c3 i)) V V) Hn_))) an V V fun _=>zc (ge ex (p.arrs.getD i default).name.b (HS.call an) (ht _ (dO M))) ?_
  rintro _ fu ⟨g3,fd,bt,a0,rfl,rfl⟩;replace a0:=HS.back an V a0;refine bV 1 7 22 22 [] [(22,(.bool (!(vnm (p.arrs.getD i default).name.b))))] Hn_ (by kernel_rfl) V fun _=>ag 1 V (zi 1 2 (fun a5=>?_) fun a5=>?_)
  ·try simp only[BS]at a5
   have a8:=al_no (p:=anB) (l:=p.arrs) (i:=i) M a5;refine wT 1 [] 2 2 [] [(2,(.bool false))] V fun _=>ae ⟨.inr V,_,V,false,_,(fT (al) bt),(HS.forget a0),V,(wp_1 (h1.trans a8)).symm⟩
  try simp only[BS]at a5
  have b9:=al_go (p:=anB) (l:=p.arrs) (i:=i) M a5;refine wU 1 [] 13 14 [3] [(3,(iI ((i:Int)+1)))] (vi (n:=(i:Int)+1)) V fun _=>?_
  refine d5 _ _ _ ?_ ⟨i+1,_,(fT (al) bt),a0,⟨V,V,trivial⟩,V,(h1.trans b9),M⟩;omega
 have h2:=h1.trans (lD M);refine wT 2 [] 1 0 [4] [(4,(iI 0))] V fun _=>aj (fun(mm:Nat) f H'=> ∃(i:Nat) (F':Fz),Fz.le F4 F'/\HS (Base.of H []) F' H' [b8] R/\aC f [(1,(pT b1 0)),(4,(iI (i:Int)))]/\mm=p.funs.length-i/\(p.funs.all wfF=(p.funs.drop i).all wfF)/\(i<=p.funs.length)) _ ⟨0,_,fR,an,⟨V,V,trivial⟩,V,k_,M⟩ ?_
 rintro e8 gm f0 ⟨i,d1,Z,a_,b0,rfl,g1,hk⟩ ds;refine ap _ b0 (fun _=>?_);clear b0;replace U:=U.mono Z;refine ai 2 V (bH 1 23 27 [] [(27,(.bool (decide ((i:Int)<(p.funs.length:Int)))))] (Hr_ 2 0 Hn_) a_ V V fun _=>zd 4 5 (fun d2=>?_) fun d2=>?_)
 ·have hV:((([⟨(p.funs.getD i default).name.b⟩]:List Str)++(p.funs.getD i default).pars)++(p.funs.getD i default).locs).length=(wlF (p.funs.getD i default)).length:=rfl;have e7:=wl_len (p.funs.getD i default);have hT:=hv (p.funs.getD i default) (dO M);have e1:=hu (p.funs.getD i default) (dO M);refine ab ?_;obtain⟨A,b6⟩:=Sv.view (SR.sv U a_);obtain⟨d7,d8,ee,ch,ci,a3,a4⟩:=FunT.fx (b6 i);refine bW 5 0 30 34 [] [(34,(aG [(tX (p.funs.getD i default).name.b),(sL (cA (A i) 1) (p.funs.getD i default).pars.length (cK (A i) 1)),(sL (cA (A i) 2) (p.funs.getD i default).locs.length (cK (A i) 2)),(sL (cA (A i) 3) (p.funs.getD i default).body.length (cK (A i) 3)),(iI (p.funs.getD i default).val.kind),(iI (p.funs.getD i default).val.n),(tX (p.funs.getD i default).val.name.b),(iI (p.funs.getD i default).val.op),(sL (cA (A i) 8) (p.funs.getD i default).val.kids.length (cK (A i) 8))]))] (Hr_ 1 0 (Ha_ (Sv.ix (j:=(i:Int)) (SR.sv U a_)) (Hl_ 4 (qn 53 0 9 (FunT.vw (b6 i)) V V V V) Hn_))) a_ V V fun _=>zn a_ V fun bn f1 c9=>sgo 1 6 1 0 [] [] (Hr_ 6 1 Hn_) c9 V V fun e4 f2 b3=>ag 2 V (aq V (br 2 35 36 [] [(36,(tX (p.funs.getD i default).name.b))] (Hr_ 1 1 Hn_) b3 V V fun _=>?_))
  refine zld ([⟨(p.funs.getD i default).name.b⟩]:List Str) b3 V (RL.cs V RL.nl) V fun f7 gq g5 et c7 a1=>br 2 38 39 [] [(39,(sL (cA (A i) 1) (p.funs.getD i default).pars.length (cK (A i) 1)))] (Hr_ 4 1 Hn_) a1 V V fun _=>zad 2 c7 a1 (SR.sv ch a1) V V V M (kb V) fun f8 g0 g6 ez c8 bb=>zp 2 (aM (v:=(sL (cA (A i) 2) (p.funs.getD i default).locs.length (cK (A i) 2))) (id:= .l bn) (bL (i:=2) V V (HS.hc bb.log0 (i:=1) V) V V) V V (eR V) (⟨.inl V,⟨.inr (HS.nin a1 (i:=1) (j:=2) V V e_ (List.Mem.head _)),⟨.inr trivial,⟨.inr trivial,⟨.inr trivial,⟨.inr trivial,⟨.inr trivial,trivial⟩⟩⟩⟩⟩⟩⟩) (zad 2 c8 bb (SR.sv ci bb) V V V M (kb V) fun co c4 d6 e0 ax dk=>?_))
  refine fa (sL co ((([⟨(p.funs.getD i default).name.b⟩]:List Str)++(p.funs.getD i default).pars)++(p.funs.getD i default).locs).length c4) V V V (aO 3 V (wT 2 [] 1 0 [7] [(7,(iI 0))] V fun _=>aj (fun(mm:Nat) f H'=> ∃(k:Nat) (F':Fz),Fz.le d1 F'/\HS (Base.of H []) F' H' [b8,(fP bn [(tX (p.funs.getD i default).name.b),(sL (cA (A i) 1) (p.funs.getD i default).pars.length (cK (A i) 1)),(sL (cA (A i) 2) (p.funs.getD i default).locs.length (cK (A i) 2)),(sL (cA (A i) 3) (p.funs.getD i default).body.length (cK (A i) 3)),(iI (p.funs.getD i default).val.kind),(iI (p.funs.getD i default).val.n),(tX (p.funs.getD i default).val.name.b),(iI (p.funs.getD i default).val.op),(sL (cA (A i) 8) (p.funs.getD i default).val.kids.length (cK (A i) 8))]),d6] R/\aC f [(1,(pT b1 0)),(4,(iI (i:Int))),(5,(pT bn 0)),(6,(sL co ((([⟨(p.funs.getD i default).name.b⟩]:List Str)++(p.funs.getD i default).pars)++(p.funs.getD i default).locs).length c4)),(7,(iI (k:Int)))]/\mm=(wlF (p.funs.getD i default)).length-k/\((wlF (p.funs.getD i default)).all snB=((wlF (p.funs.getD i default)).drop k).all snB)/\(k<=(wlF (p.funs.getD i default)).length)) _ ⟨0,_,fR,dk,⟨V,V,V,V,V,trivial⟩,V,k_,M⟩ ?_));rintro fb go f3 ⟨k,fi,O,E,b2,rfl,k1,hkk⟩ dt;refine ap _ b2 (fun _=>?_);clear b2;replace ax:=ax.mono O;replace a3:=a3.mono O;replace a4:=a4.mono O;refine ai 2 V (wT 1 [] 44 47 [] [(47,(.bool (decide ((k:Int)<(((([⟨(p.funs.getD i default).name.b⟩]:List Str)++(p.funs.getD i default).pars)++(p.funs.getD i default).locs).length:Int)))))] V fun _=>zd 4 5 (fun d3=>?_) fun d3=>?_)
  ·refine ab ?_;obtain⟨e2,dn⟩:=Sv.view (OS.sv ax E (i:=2) V);refine bV 4 0 50 53 [] [(53,(tX (((([⟨(p.funs.getD i default).name.b⟩]:List Str)++(p.funs.getD i default).pars)++(p.funs.getD i default).locs).getD k default).b))] (Ha_ (Sv.ix (j:=(k:Int)) (OS.sv ax E (i:=2) V)) (Hl_ 3 (ql 9 0 (vS (dn k)) V V) Hn_)) (by kernel_rfl) V fun _=>zc (ge ex ((((([⟨(p.funs.getD i default).name.b⟩]:List Str)++(p.funs.getD i default).pars)++(p.funs.getD i default).locs).getD k default).b) (HS.call E) (wl_nb e1 M)) ?_
   rintro _ f5 ⟨g4,fk,bw,a2,rfl,rfl⟩;replace a2:=HS.back E V a2;refine bV 1 5 55 55 [] [(55,(.bool (!(vnm ((((([⟨(p.funs.getD i default).name.b⟩]:List Str)++(p.funs.getD i default).pars)++(p.funs.getD i default).locs).getD k default).b)))))] Hn_ (by kernel_rfl) V fun _=>ag 1 V (zi 1 2 (fun a6=>?_) fun a6=>?_)
   ·try simp only[BS]at a6
    have a8:=al_no (p:=snB) (l:=wlF (p.funs.getD i default)) (i:=k) M a6;refine wT 1 [] 2 2 [] [(2,(.bool false))] V fun _=>ae ⟨.inr V,_,V,false,_,(fT (fT (fT (al) Z) O) bw),(HS.forget a2),V,((wp_2 (g1.trans (wf_lno M (k1.trans a8)))).symm)⟩
   try simp only[BS]at a6
   have b9:=al_go (p:=snB) (l:=wlF (p.funs.getD i default)) (i:=k) M a6;refine wU 1 [] 48 49 [7] [(7,(iI ((k:Int)+1)))] (vi (n:=(k:Int)+1)) V fun _=>?_
   refine dt _ _ _ ?_ ⟨k+1,_,(fT (O) bw),a2,⟨V,V,V,V,V,trivial⟩,V,(k1.trans b9),M⟩;omega
  have k2:=k1.trans (lD M);refine sj 1 56 65 [] [(65,(.bool ((!(dJ (p.funs.getD i default).body))||(!(wfE (p.funs.getD i default).val)))))] (Hr_ 1 1 (Hk_ 2 (jc E fun _ _ j q=>wfstmts_c ex (p.funs.getD i default).body q (a3.mono j) M (e1.2.2.2.1)) (cI 6 (fun _=>(jn E 46 4 5 1 V V V V V)) (fX 7 (fun g1=>(jc E fun _ _ j q=>eT ex (p.funs.getD i default).val q (by(try simp only[BS]at g1);(first|omega|(dsimp only;omega)|(rw[ar];omega)|(show 1+_<_;omega))) (by(try simp only[BS]at g1);(first|omega|(dsimp only;omega)|(rw[ar];omega)|(show 1+_<_;omega))) (by(try simp only[BS]at g1);(first|omega|(dsimp only;omega)|(rw[ar];omega)|(show 1+_<_;omega))) (a4.mono j) M (e1.2.2.2.2))) Hn_)))) E V V fun e5 f6 fq bF b4=>?_
  refine zi 1 2 (fun a7=>?_) fun a7=>?_
  ·try simp only[BS]at a7
   have a8:=wf_no2 (l:=p.funs) (i:=i) M (by simpa only[aT] using a7);refine wT 1 [] 2 2 [] [(2,(.bool false))] V fun _=>ae ⟨.inr V,_,V,false,_,(fT (fT (fT (al) Z) O) bF),(HS.forget b4),V,(wp_2 (g1.trans a8)).symm⟩
  try simp only[BS]at a7
  have b9:=wf_go2 (l:=p.funs) (i:=i) M k2 (by simpa only[aT] using a7);refine wU 1 [] 28 29 [4] [(4,(iI ((i:Int)+1)))] (vi (n:=(i:Int)+1)) V fun _=>?_
  refine ds _ _ _ ?_ ⟨i+1,_,(fT (fT (Z) O) bF),(HS.sub b4 (a05 _ _)),⟨V,V,trivial⟩,V,(g1.trans b9),M⟩;omega
 refine wT 1 [] 2 2 [] [(2,(.bool true))] V fun _=>ae ⟨.inr V,_,V,true,_,(fT (al) Z),(HS.forget a_),V,((wp_3 h2 (g1.trans (lD M))).symm)⟩
end Go.Proofs.YtkpgbdkkgcdhmaaGreat.cb
