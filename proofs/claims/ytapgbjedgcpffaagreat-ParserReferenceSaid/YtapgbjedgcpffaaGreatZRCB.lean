/-
The check of the reference: which programs a parser can give, each function by a symbolic run. No condition but that the program has less than 2^62 parts.
-/
import Derived.Test.YtapgbjedgcpffaaGreatZRL1
import Derived.Test.YtapgbjedgcpffaaGreatZRCA
noncomputable section
namespace Go.Proofs.YtapgbjedgcpffaaGreat.cb
open Go.R
set_option maxRecDepth 10000
set_option maxHeartbeats 800000
set_option linter.unusedVariables false
set_option linter.unusedSimpArgs false
variable (ex:FuncId) {F:Fz} {H:Heap} {R:List Fp}
open w3 l1 pt ca
abbrev zCB1:List Str:=[⟨[97,114,114,97,121]⟩,⟨[102,117,110,99]⟩,⟨[118,97,114]⟩,⟨[114,101,116,117,114,110]⟩,⟨[105,102]⟩,⟨[101,108,115,101]⟩,⟨[119,104,105,108,101]⟩,⟨[111,117,116]⟩,⟨[116,114,97,112]⟩]
abbrev zCB2:List UInt8:=[]
theorem jl{B:Base}{F:Fz}{L R:List Fp}{H:Heap}(hs:HS B F H L R){b:Nat}{cs:List Value}{w:Value}(t:TypeId)(i j:Nat)(ha:fN Tryz.prog t=some false)(h:L[j]?=some [(b,.cells cs none false)])(E:cs[i]?=some w): ∀H,JJ B F L R H->LDv Tryz.prog H t (pT b i) w:=jl0 hs t i j ha h E
theorem jn{B:Base}{F:Fz}{L R:List Fp}{H:Heap}(hs:HS B F H L R){b:Nat}{cs l:List Value}(t:TypeId)(i n j:Nat)(ha:fN Tryz.prog t=some true)(T:dV Tryz.prog t=some n)(h:L[j]?=some [(b,.cells cs none false)])(O:Nat.ble (i+n) cs.length=true)(E:en (ev cs i) n=l): ∀H,JJ B F L R H->LDv Tryz.prog H t (pT b i) (.agg ⟨l⟩):=jn0 hs t i n j ha T h O E
theorem wf_e(e:ExpT):wfE e=(fC e.kids&&wfN e.kind e.n e.name.b e.op (e.kids.length:Int)):=by cases e;rw[wfE]
theorem ws_go{l:List ExpT}{i:Nat}(h:i<l.length)(c:wfE (l.getD i default)=true):fC (l.drop i)=fC (l.drop (i+1)):=by rw[cz (d:=default) h,fC,c];rfl
theorem ws_no{l:List ExpT}{i:Nat}(h:i<l.length)(c:wfE (l.getD i default)=false):fC (l.drop i)=false:=by rw[cz (d:=default) h,fC,c];rfl
theorem wf_no{l:List ExpT}{b:Bool}(h:fC l=false):(fC l&&b)=false:=by rw[h];rfl
theorem ja{l:List ExpT}{i:Nat}{b:Bool}(h:fC l=fC (l.drop i))(hi:l.length<=i):(fC l&&b)=b:=by rw[h,d5 hi,fC];rfl
mutual
def nbE:ExpT->Prop
 |⟨_,_,nm,_,ks⟩=>nm.b.length<4611686018427387904/\gF ks
def gF:List ExpT->Prop
 | []=>True
 |e::l=>nbE e/\gF l
end
theorem nb_e{e:ExpT}(h:nbE e):e.name.b.length<4611686018427387904/\gF e.kids:=by cases e;rwa [nbE]at h
theorem nbs_at: ∀{l:List ExpT} {i:Nat},gF l->i<l.length->nbE (l.getD i default)
 |e::l,0,h,_=>by rw[gF]at h;exact h.1
 |e::l,i+1,h,hi=>by rw[gF]at h;exact nbs_at (l:=l) h.2 (by simpa using hi)
theorem et_s(x:StmT):(⟨x.kind,⟨x.name.b⟩,⟨x.to.b⟩,x.n,x.at_,x.val,x.args,x.thn,x.els⟩:StmT)=x:=by cases x;rfl
mutual
def nbS:StmT->Prop
 |⟨_,nm,to,_,a,v,ar,t,e⟩=>nm.b.length<4611686018427387904/\to.b.length<4611686018427387904/\nbE a/\nbE v/\gF ar/\nbSs t/\nbSs e
def nbSs:List StmT->Prop
 | []=>True
 |s::l=>nbS s/\nbSs l
end
theorem nb_s{s:StmT}(h:nbS s):s.name.b.length<4611686018427387904/\s.to.b.length<4611686018427387904/\nbE s.at_/\nbE s.val/\gF s.args/\nbSs s.thn/\nbSs s.els:=by cases s;rwa [nbS]at h
theorem nbs_s: ∀{l:List StmT} {i:Nat},nbSs l->i<l.length->nbS (l.getD i default)
 |e::l,0,h,_=>by rw[nbSs]at h;exact h.1
 |e::l,i+1,h,hi=>by rw[nbSs]at h;exact nbs_s (l:=l) h.2 (by simpa using hi)
def wfA(s:StmT):Bool:=fC s.args&&wfK s
theorem wf_s(s:StmT):wfS s=(wfA s&&eO s.thn&&eO s.els):=by cases s;rw[wfS];rfl
theorem wt_go{l:List StmT}{i:Nat}(h:i<l.length)(c:(wfA (l.getD i default)=true/\eO (l.getD i default).thn=true)/\eO (l.getD i default).els=true):eO (l.drop i)=eO (l.drop (i+1)):=by rw[cz (d:=default) h,eO,wf_s,c.1.1,c.1.2,c.2];rfl
theorem wt_no{l:List StmT}{i:Nat}(h:i<l.length)(c:(wfA (l.getD i default)=false\/eO (l.getD i default).thn=false)\/eO (l.getD i default).els=false):eO (l.drop i)=false:=by
 rw[cz (d:=default) h,eO,wf_s];rcases c with(c|c)|c
 ·rw[c];rfl
 ·rw[c,a18];rfl
 rw[c,a18];rfl
theorem wt_end{l:List StmT}{i:Nat}(h:l.length<=i):eO (l.drop i)=true:=by rw[d5 h,eO]
def anB(a:ArrT):Bool:=vnm a.name.b
def snB(s:Str):Bool:=vnm s.b
def wlF(f:FunT):List Str:=[f.name]++f.pars++f.locs
def NbP(p:PrgT):Prop:=(∀a∈p.arrs,a.name.b.length<4611686018427387904)/\∀f∈p.funs,f.name.b.length<4611686018427387904/\(∀s∈f.pars,s.b.length<4611686018427387904)/\(∀s∈f.locs,s.b.length<4611686018427387904)/\nbSs f.body/\nbE f.val
theorem wl_len(f:FunT):(wlF f).length=1+f.pars.length+f.locs.length:=by unfold wlF;rw[a00,a00];rfl
theorem wl_nb{f:FunT}{k:Nat}(h:f.name.b.length<4611686018427387904/\(∀s∈f.pars,s.b.length<4611686018427387904)/\(∀s∈f.locs,s.b.length<4611686018427387904)/\nbSs f.body/\nbE f.val)(O:k<(wlF f).length):((wlF f).getD k default).b.length<4611686018427387904:=by
 have:=eJ (l:=wlF f) O;revert this;generalize (wlF f).getD k default=s;intro E;unfold wlF at E;rcases a0e.1 E with E|E
 ·rcases a0e.1 E with E|E
  ·rw[a0v.1 E];exact h.1
  exact h.2.1 s E
 exact h.2.2.1 s E
theorem al_go{α:Type} [Inhabited α]{p:α->Bool}{l:List α}{i:Nat}(h:i<l.length)(c:p (l.getD i default)=true):(l.drop i).all p=(l.drop (i+1)).all p:=by rw[all_drop h,c];rfl
theorem al_no{α:Type} [Inhabited α]{p:α->Bool}{l:List α}{i:Nat}(h:i<l.length)(c:p (l.getD i default)=false):(l.drop i).all p=false:=by rw[all_drop h,c];rfl
theorem wf_f(f:FunT):wfF f=((wlF f).all snB&&eO f.body&&wfE f.val):=rfl
theorem wf_lno{l:List FunT}{i:Nat}(h:i<l.length)(c:(wlF (l.getD i default)).all snB=false):(l.drop i).all wfF=false:=al_no h (by rw[wf_f,c];rfl)
theorem wf_no2{l:List FunT}{i:Nat}(h:i<l.length)(c:eO (l.getD i default).body=false\/wfE (l.getD i default).val=false):(l.drop i).all wfF=false:=al_no h (by rw[wf_f];rcases c with c|c<;>rw[c,a18];rfl)
theorem wf_go2{l:List FunT}{i:Nat}(h:i<l.length)(k:(wlF (l.getD i default)).all snB=true)(c:eO (l.getD i default).body=true/\wfE (l.getD i default).val=true):(l.drop i).all wfF=(l.drop (i+1)).all wfF:=al_go h (by rw[wf_f,k,c.1,c.2];rfl)
theorem wp_1{p:PrgT}(h:p.arrs.all anB=false):wfP p=false:=by show(p.arrs.all anB&&_)=false;rw[h];rfl
theorem wp_2{p:PrgT}(h:p.funs.all wfF=false):wfP p=false:=by show(_&&p.funs.all wfF)=false;rw[h,a18]
theorem wp_3{p:PrgT}(h:p.arrs.all anB=true)(g:p.funs.all wfF=true):wfP p=true:=by show(p.arrs.all anB&&p.funs.all wfF)=true;rw[h,g];rfl
theorem in_no{s:List UInt8}{i:Nat}(h:i<s.length)(c:bT (s.getD i 0)=false/\(bo (s.getD i 0)=false\/(i:Int)=0)):inNm s=false:=by
 unfold inNm;rcases c with⟨c1,c2|c2⟩
 ·have:s.all aR=false:=by rw[List.all_eq_false];refine⟨_,?_,by unfold aR;rw[c1,c2];decide⟩;rw[a08,a09 h];exact a0E h
  rw[this,a18];rfl
 obtain rfl:i=0:=M
 rw[c1];rfl
theorem in_s1{s:List UInt8}{i:Nat}(h: ∀j,j<i->aR (s.getD j 0)=true)(c:bT (s.getD i 0)=false->bo (s.getD i 0)=true/\(i:Int)≠0): ∀j,j<i+1->aR (s.getD j 0)=true:=fun j O=>by
 rcases Nat.lt_succ_iff_lt_or_eq.1 O with E|rfl
 ·exact h j E
 unfold aR;cases e:bT (s.getD j 0) with
 |true=>rfl
 |false=>rw[(c e).1];rfl
theorem in_s2{s:List UInt8}{i:Nat}(h:0<i->bT (s.getD 0 0)=true)(c:bT (s.getD i 0)=false->bo (s.getD i 0)=true/\(i:Int)≠0):0<i+1->bT (s.getD 0 0)=true:=fun _=>by
 rcases a1t i with rfl|E
 ·cases e:bT (s.getD 0 0) with
  |true=>rfl
  |false=>exact absurd V (c e).2
 exact h E
theorem in_end{s:List UInt8}{i:Nat}(h:s.length<=i)(E: ∀j,j<i->aR (s.getD j 0)=true)(O:0<i->bT (s.getD 0 0)=true):(decide ((1:Int)<=(s.length:Int))&&decide ((s.length:Int)<=16))=inNm s:=by
 unfold inNm;have:s.all aR=true:=by rw[a0s];intro x U;obtain⟨j,T,rfl⟩:=a1S U;have:=E j M;rwa [a08,a09 T]at this
 rw[this,a0J,a0G];simp only[a03,decide_eq_true_eq];constructor
 ·intro h;exact⟨⟨O M,by omega⟩,by omega⟩
 intro h;exact⟨by omega,by omega⟩
abbrev Po9(H:Heap)(c_:Bool)(v:Value)(H':Heap):Prop:= ∃(r:Bool),H'=H/\v= .bool r/\r=c_
theorem bLetter_c(c:UInt8)(H:Heap):kKt ex 48 [(.int .u8 (c.toNat:Int))] H (Po9 H (bT c)):=by refine av Tryz.func48 V V (ai 1 V (wr 2 [] 2 2 [] [(2,(.bool false))] trivial V V fun _=>wr 1 [] 2 20 [] [(2,(.bool ((((decide ((97:Int)<=(c.toNat:Int)))&&(decide ((c.toNat:Int)<=122)))||((decide ((65:Int)<=(c.toNat:Int)))&&(decide ((c.toNat:Int)<=90))))||((c.toNat:Int)==95))))] trivial V V fun _=>ae ⟨.inr V,_,V,_,V,V,(by simp[bT];grind)⟩))
theorem bLetter_c_q(c:UInt8)(H:Heap):kKt ex 48 [(.int .u8 (c.toNat:Int))] H fun v H'=>v=(.bool (bT c))/\H'=H:=
 cq (bLetter_c ex c H) (by rintro _ _ ⟨_,rfl,rfl,rfl⟩;exact⟨V,V⟩)
theorem bDigit_c(c:UInt8)(H:Heap):kKt ex 49 [(.int .u8 (c.toNat:Int))] H (Po9 H (bo c)):=by refine av Tryz.func49 V V (ai 1 V (wr 2 [] 2 2 [] [(2,(.bool false))] trivial V V fun _=>wr 1 [] 2 8 [] [(2,(.bool ((decide ((48:Int)<=(c.toNat:Int)))&&(decide ((c.toNat:Int)<=57)))))] trivial V V fun _=>ae ⟨.inr V,_,V,_,V,V,(by simp[bo];grind)⟩))
theorem bDigit_c_q(c:UInt8)(H:Heap):kKt ex 49 [(.int .u8 (c.toNat:Int))] H fun v H'=>v=(.bool (bo c))/\H'=H:=
 cq (bDigit_c ex c H) (by rintro _ _ ⟨_,rfl,rfl,rfl⟩;exact⟨V,V⟩)
abbrev Po10(H:Heap)(c_:Bool)(v:Value)(H':Heap):Prop:= ∃(o:Bool),H'=H/\v= .bool o/\o=c_
theorem isname_c(s:List UInt8)(H:Heap)(hl:s.length<4611686018427387904):kKt ex 97 [(tX s)] H (Po10 H (inNm s)):=by
 refine av Tryz.func97 V V (ai 1 V (wr 3 [] 2 2 [] [(2,(.bool false))] trivial V V fun _=>wr 2 [] 1 0 [3] [(3,(.int _ 0))] trivial V V fun _=>aq (fun(mm:Nat) f H'=> ∃(i:Nat),H'=H/\aJ f [(0,(tX s)),(3,(.int _ (i:Int)))]/\mm=s.length-i/\(∀j,j<i->aR (s.getD j 0)=true)/\(0<i->bT (s.getD 0 0)=true)/\(i<=s.length)) _ ⟨0,V,⟨V,V,trivial⟩,V,(fun j h=>absurd h (Nat.not_lt_zero j)),(fun h=>absurd h (Nat.lt_irrefl 0)),M⟩ ?_));rintro a0 f3 H ⟨i,rfl,O,rfl,U,Y,hi⟩ Z;refine az _ O (fun _=>?_);clear O;refine ai 2 V (wr 1 [] 4 7 [] [(7,(.bool (decide ((i:Int)<(s.length:Int)))))] trivial V V fun _=>zd 4 5 (fun c5=>?_) fun c5=>?_)
 ·have an:=dD (s.getD i 0);have ax:=dD (s.getD i 0);refine wr 1 [(3,.o (.bool (bT (s.getD i 0)))),(9,.o (.bool (bo (s.getD i 0))))] 10 25 [] [(25,(.bool ((!(bT (s.getD i 0)))&&((!(bo (s.getD i 0)))||((i:Int)==0)))))] (vA (vA (show(0:Int)<=(i:Int) from by omega) (show(i:Int)<(((s:List UInt8).length:Nat):Int) from by omega)) (vA (bLetter_c_q ex _ H) (vA (fun(T:_)=>(vA (show(0:Int)<=(i:Int) from by(try simp only[BS]at T);(first|omega|(dsimp only;omega))) (show(i:Int)<(((s:List UInt8).length:Nat):Int) from by(try simp only[BS]at T);(first|omega|(dsimp only;omega))))) (vA (fun(T:_)=>(bDigit_c_q ex _ H)) trivial)))) V V fun _=>zi 1 2 (fun E=>?_) fun E=>?_
  ·try simp only[BS]at E
   have ar:=in_no (s:=s) (i:=i) M E;refine wr 1 [] 2 2 [] [(2,(.bool false))] trivial V V fun _=>ae ⟨.inr V,_,V,_,V,V,(ar.symm)⟩
  try simp only[BS]at E
  have al:=E;refine wr 1 [] 8 9 [3] [(3,(.int _ _))] (vA (vi) trivial) V V fun _=>?_
  refine Z _ _ _ ?_ ⟨i+1,V,⟨V,V,trivial⟩,V,(in_s1 U al),(in_s2 Y al),M⟩;omega
 refine wr 1 [] 26 33 [2] [(2,(.bool ((decide ((1:Int)<=(s.length:Int)))&&(decide ((s.length:Int)<=16)))))] trivial V V fun _=>ae ⟨.inr V,_,V,_,V,V,(in_end M U Y)⟩
theorem isname_c_q(s:List UInt8)(H:Heap)(E:s.length<4611686018427387904):kKt ex 97 [(tX s)] H fun v H'=>v=(.bool (inNm s))/\H'=H:=
 cq (isname_c ex s H E) (by rintro _ _ ⟨_,rfl,rfl,rfl⟩;exact⟨V,V⟩)
abbrev Po11(F:Fz)(H:Heap)(R:List Fp)(c_:Bool)(v:Value)(H':Heap):Prop:= ∃(o:Bool) (F':Fz),Fz.le F F'/\HS (.of H []) F' H' [] R/\v= .bool o/\o=c_
theorem breserved_c(s:List UInt8)(hs:HS (.of H []) F H [] R):kKt ex 76 [(tX s)] H (Po11 F H R (eH s)):=by
 refine av Tryz.func76 V V (ai 1 V (wr 2 [] 2 2 [] [(2,(.bool false))] trivial V V fun _=>ab (zlo zCB1 hs V j_ V fun a2 k2 p2 H3 O E=>za (sL a2 _ k2) ?_)));refine ah 3 V (wr 2 [] 1 0 [4] [(4,(.int _ 0))] trivial V V fun _=>aY (ai 2 V (wr 1 [] 6 9 [] [(9,(.bool true))] trivial V V fun _=>bn 4 V V V V ?_)));obtain⟨b8,bb⟩:=Sv.view (OS.sv O E (i:=0) V);refine wrp 1 12 17 [] [(17,(.bool ((zCB1.getD 0 _).b==s)))] (Ha_ (Sv.ix (OS.sv O E (i:=0) V) e_ (show(0:Int)<(9:Int) from by decide)) (Hl_ 3 (ql 9 0 (vS (bb 0) (show 0<9 from by decide)) V V) Hn_)) V V fun _=>zi 1 2 (fun c9=>?_) fun c9=>?_
 ·try simp only[BS]at c9
  refine wr 1 [] 2 2 [] [(2,(.bool true))] trivial V V fun _=>ae ⟨.inr V,_,V,_,_,fR,(HS.forget E),V,(by(simp_all[eH,iH];done))⟩
 try simp only[BS]at c9
 refine wr 1 [] 10 11 [4] [(4,(.int _ 1))] (vA (vi) trivial) V V fun _=>aY (ai 2 V (wr 1 [] 6 9 [] [(9,(.bool true))] trivial V V fun _=>bn 4 V V V V ?_))
 obtain⟨b0,a3⟩:=Sv.view (OS.sv O E (i:=0) V);refine wrp 1 12 17 [] [(17,(.bool ((zCB1.getD 1 _).b==s)))] (Ha_ (Sv.ix (OS.sv O E (i:=0) V) e_ (show(1:Int)<(9:Int) from by decide)) (Hl_ 3 (ql 9 0 (vS (a3 1) (show 1<9 from by decide)) V V) Hn_)) V V fun _=>zi 1 2 (fun T=>?_) fun T=>?_
 ·try simp only[BS]at T
  refine wr 1 [] 2 2 [] [(2,(.bool true))] trivial V V fun _=>ae ⟨.inr V,_,V,_,_,fR,(HS.forget E),V,(by(simp_all[eH,iH];done))⟩
 try simp only[BS]at T
 refine wr 1 [] 10 11 [4] [(4,(.int _ 2))] (vA (vi) trivial) V V fun _=>aY (ai 2 V (wr 1 [] 6 9 [] [(9,(.bool true))] trivial V V fun _=>bn 4 V V V V ?_))
 obtain⟨b1,a4⟩:=Sv.view (OS.sv O E (i:=0) V);refine wrp 1 12 17 [] [(17,(.bool ((zCB1.getD 2 _).b==s)))] (Ha_ (Sv.ix (OS.sv O E (i:=0) V) e_ (show(2:Int)<(9:Int) from by decide)) (Hl_ 3 (ql 9 0 (vS (a4 2) (show 2<9 from by decide)) V V) Hn_)) V V fun _=>zi 1 2 (fun U=>?_) fun U=>?_
 ·try simp only[BS]at U
  refine wr 1 [] 2 2 [] [(2,(.bool true))] trivial V V fun _=>ae ⟨.inr V,_,V,_,_,fR,(HS.forget E),V,(by(simp_all[eH,iH];done))⟩
 try simp only[BS]at U
 refine wr 1 [] 10 11 [4] [(4,(.int _ 3))] (vA (vi) trivial) V V fun _=>aY (ai 2 V (wr 1 [] 6 9 [] [(9,(.bool true))] trivial V V fun _=>bn 4 V V V V ?_))
 obtain⟨b2,a5⟩:=Sv.view (OS.sv O E (i:=0) V);refine wrp 1 12 17 [] [(17,(.bool ((zCB1.getD 3 _).b==s)))] (Ha_ (Sv.ix (OS.sv O E (i:=0) V) e_ (show(3:Int)<(9:Int) from by decide)) (Hl_ 3 (ql 9 0 (vS (a5 3) (show 3<9 from by decide)) V V) Hn_)) V V fun _=>zi 1 2 (fun Y=>?_) fun Y=>?_
 ·try simp only[BS]at Y
  refine wr 1 [] 2 2 [] [(2,(.bool true))] trivial V V fun _=>ae ⟨.inr V,_,V,_,_,fR,(HS.forget E),V,(by(simp_all[eH,iH];done))⟩
 try simp only[BS]at Y
 refine wr 1 [] 10 11 [4] [(4,(.int _ 4))] (vA (vi) trivial) V V fun _=>aY (ai 2 V (wr 1 [] 6 9 [] [(9,(.bool true))] trivial V V fun _=>bn 4 V V V V ?_))
 obtain⟨b3,a6⟩:=Sv.view (OS.sv O E (i:=0) V);refine wrp 1 12 17 [] [(17,(.bool ((zCB1.getD 4 _).b==s)))] (Ha_ (Sv.ix (OS.sv O E (i:=0) V) e_ (show(4:Int)<(9:Int) from by decide)) (Hl_ 3 (ql 9 0 (vS (a6 4) (show 4<9 from by decide)) V V) Hn_)) V V fun _=>zi 1 2 (fun Z=>?_) fun Z=>?_
 ·try simp only[BS]at Z
  refine wr 1 [] 2 2 [] [(2,(.bool true))] trivial V V fun _=>ae ⟨.inr V,_,V,_,_,fR,(HS.forget E),V,(by(simp_all[eH,iH];done))⟩
 try simp only[BS]at Z
 refine wr 1 [] 10 11 [4] [(4,(.int _ 5))] (vA (vi) trivial) V V fun _=>aY (ai 2 V (wr 1 [] 6 9 [] [(9,(.bool true))] trivial V V fun _=>bn 4 V V V V ?_))
 obtain⟨b4,a7⟩:=Sv.view (OS.sv O E (i:=0) V);refine wrp 1 12 17 [] [(17,(.bool ((zCB1.getD 5 _).b==s)))] (Ha_ (Sv.ix (OS.sv O E (i:=0) V) e_ (show(5:Int)<(9:Int) from by decide)) (Hl_ 3 (ql 9 0 (vS (a7 5) (show 5<9 from by decide)) V V) Hn_)) V V fun _=>zi 1 2 (fun al=>?_) fun al=>?_
 ·try simp only[BS]at al
  refine wr 1 [] 2 2 [] [(2,(.bool true))] trivial V V fun _=>ae ⟨.inr V,_,V,_,_,fR,(HS.forget E),V,(by(simp_all[eH,iH];done))⟩
 try simp only[BS]at al
 refine wr 1 [] 10 11 [4] [(4,(.int _ 6))] (vA (vi) trivial) V V fun _=>aY (ai 2 V (wr 1 [] 6 9 [] [(9,(.bool true))] trivial V V fun _=>bn 4 V V V V ?_))
 obtain⟨b5,a8⟩:=Sv.view (OS.sv O E (i:=0) V);refine wrp 1 12 17 [] [(17,(.bool ((zCB1.getD 6 _).b==s)))] (Ha_ (Sv.ix (OS.sv O E (i:=0) V) e_ (show(6:Int)<(9:Int) from by decide)) (Hl_ 3 (ql 9 0 (vS (a8 6) (show 6<9 from by decide)) V V) Hn_)) V V fun _=>zi 1 2 (fun an=>?_) fun an=>?_
 ·try simp only[BS]at an
  refine wT 1 [] 2 2 [] [(2,(.bool true))] V fun _=>ae ⟨.inr V,_,V,true,_,fR,(HS.forget E),V,(by(simp_all[eH,iH];done))⟩
 try simp only[BS]at an
 refine wU 1 [] 10 11 [4] [(4,(iI 7))] (vi (n:=(7:Int))) V fun _=>aY (ai 2 V (wT 1 [] 6 9 [] [(9,(.bool true))] V fun _=>bn 4 (v:=true) V V V V ?_))
 obtain⟨b6,a9⟩:=Sv.view (OS.sv O E (i:=0) V);refine wrp 1 12 17 [] [(17,(.bool ((zCB1.getD 7 default).b==s)))] (Ha_ (Sv.ix (j:=7) (OS.sv O E (i:=0) V) e_ (show(7:Int)<(9:Int) from by decide)) (Hl_ 3 (ql 9 0 (vS (a9 7) (show 7<9 from by decide)) V V) Hn_)) (by kernel_rfl) V fun _=>zi 1 2 (fun ax=>?_) fun ax=>?_
 ·try simp only[BS]at ax
  refine wT 1 [] 2 2 [] [(2,(.bool true))] V fun _=>ae ⟨.inr V,_,V,true,_,fR,(HS.forget E),V,(by(simp_all[eH,iH];done))⟩
 try simp only[BS]at ax
 refine wU 1 [] 10 11 [4] [(4,(iI 8))] (vi (n:=(8:Int))) V fun _=>aY (ai 2 V (wT 1 [] 6 9 [] [(9,(.bool true))] V fun _=>bn 4 (v:=true) V V V V ?_))
 obtain⟨b7,ba⟩:=Sv.view (OS.sv O E (i:=0) V);refine wrp 1 12 17 [] [(17,(.bool ((zCB1.getD 8 default).b==s)))] (Ha_ (Sv.ix (j:=8) (OS.sv O E (i:=0) V) e_ (show(8:Int)<(9:Int) from by decide)) (Hl_ 3 (ql 9 0 (vS (ba 8) (show 8<9 from by decide)) V V) Hn_)) (by kernel_rfl) V fun _=>zi 1 2 (fun a0=>?_) fun a0=>?_
 ·try simp only[BS]at a0
  refine wT 1 [] 2 2 [] [(2,(.bool true))] V fun _=>ae ⟨.inr V,_,V,true,_,fR,(HS.forget E),V,(by(simp_all[eH,iH];done))⟩
 try simp only[BS]at a0
 refine wU 1 [] 10 11 [4] [(4,(iI 9))] (vi (n:=(9:Int))) V fun _=>aY (ai 2 V (wT 1 [] 6 9 [] [(9,(.bool false))] V fun _=>gK 5 (v:=false) V V V V (wT 1 [] 2 2 [] [(2,(.bool false))] V fun _=>?_)))
 refine ae ⟨.inr V,_,V,false,_,fR,(HS.forget E),V,(by(symm;unfold eH;rw[decide_eq_false_iff_not];unfold iH;intro h;simp only[a0m,a0f,or_false]at h;rcases h with h|h|h|h|h|h|h|h|h<;>simp_all))⟩
theorem gN(s:List UInt8)(hs:HS (.of H []) F H [] R)(Z:s.length<4611686018427387904):kKt ex 84 [(tX s)] H (Po11 F H R (vnm s)):=by refine av Tryz.func84 V V (ai 1 V (wr 2 [] 2 2 [] [(2,(.bool false))] trivial V V fun _=>sj 1 2 9 [] [(2,(.bool (inNm s&&(!(eH s)))))] (Hk_ 1 (jp hs fun h=>isname_c_q ex s h M) (kI 4 (fun _=>(jc hs fun _ _ _ q=>breserved_c ex s q)) Hn_)) hs V V fun T Y U E O=>ae ⟨.inr V,_,V,_,_,(E),(HS.forget O),V,k_⟩))
theorem ip{O:Option Addr}{T:Nat}(e:ExpT)(hs:HS (.of H []) F H [] R)(U:in64 e.kind)(Y:in64 e.n)(Z:in64 e.op)(al:SR F (sL O e.kids.length T) e.kids):kKt ex 106 [(aG [(iI e.kind),(iI e.n),(tX e.name.b),(iI e.op),(sL O e.kids.length T)])] H (Po11 F H R (isZ e)):=by refine av Tryz.func106 V V (ai 1 V (ab (dB (cV hs V V) V V ?_)));rintro _ H2 _ ⟨b1,rfl,E,_⟩;refine za _ (ah 2 V (cP 1 2 26 [] [(2,(.bool (((((e.kind==0)&&(e.n==0))&&(e.name.b==zCB2))&&(e.op==0))&&((e.kids.length:Int)==0))))] (Hr_ 1 0 (Hl1_ 5 (fun _=>(ql 2 1 (h_ E V) V V)) (Hl1_ 10 (fun _=>(ql 9 2 (h_ E V) V V)) (Hl1_ 15 (fun _=>(ql 3 3 (h_ E V) V V)) (Hl1_ 20 (fun _=>(ql 40 4 (h_ E V) V V)) Hn_))))) E V V fun _=>ae ⟨.inr V,_,V,_,_,fR,(HS.forget E),V,k_⟩))
theorem isbin_c(o:Int)(H:Heap):kKt ex 99 [(iI o)] H fun v H'=> ∃(x:Bool),H'=H/\v= .bool x/\x=binO o:=by refine av Tryz.func99 V V (ai 1 V (wr 2 [] 2 2 [] [(2,(.bool false))] trivial V V fun _=>wr 1 [] 2 8 [] [(2,(.bool ((decide ((4:Int)<=o))&&(decide (o<=18)))))] trivial V V fun _=>ae ⟨.inr V,_,V,_,V,V,k_⟩))
theorem isbin_c_q(o:Int)(H:Heap):kKt ex 99 [(iI o)] H fun v H'=>v=(.bool (binO o))/\H'=H:=
 cq (isbin_c ex o H) (by rintro _ _ ⟨_,rfl,rfl,rfl⟩;exact⟨V,V⟩)
theorem only_c{Y:Option Addr}{ax:Nat}{U:Option Addr}{an:Nat}{T:Option Addr}{al:Nat}{O:Option Addr}{Z:Nat}{a0:Option Addr}{a1:Nat}(s:StmT)(hs:HS (.of H []) F H [] R)(bl:in64 s.kind)(b0:in64 s.n)(b2:in64 s.at_.kind)(b3:in64 s.at_.n)(b4:in64 s.at_.op)(a3:SR F (sL a0 s.at_.kids.length a1) s.at_.kids)(b5:in64 s.val.kind)(a6:in64 s.val.n)(a7:in64 s.val.op)(a8:SR F (sL O s.val.kids.length Z) s.val.kids)(a9:SR F (sL T s.args.length al) s.args)(ba:SR F (sL U s.thn.length an) s.thn)(bb:SR F (sL Y s.els.length ax) s.els):kKt ex 107 [(aG [(iI s.kind),(tX s.name.b),(tX s.to.b),(iI s.n),(iI s.at_.kind),(iI s.at_.n),(tX s.at_.name.b),(iI s.at_.op),(sL a0 s.at_.kids.length a1),(iI s.val.kind),(iI s.val.n),(tX s.val.name.b),(iI s.val.op),(sL O s.val.kids.length Z),(sL T s.args.length al),(sL U s.thn.length an),(sL Y s.els.length ax)])] H (Po11 F H R (onV s)):=by refine av Tryz.func107 V V (ai 1 V (ab (dB (cV hs V V) V V ?_)));rintro _ H2 _ ⟨b1,rfl,E,_⟩;refine za (.bool false) (ah 2 V (sj 1 2 26 [] [(2,(.bool (((((s.name.b==zCB2)&&(s.to.b==zCB2))&&(s.n==0))&&isZ s.at_)&&((s.args.length:Int)==0))))] (Hr_ 1 0 (eY 5 (fun _=>(jl E 9 2 0 V V V)) (eY 10 (fun _=>(jl E 3 3 0 V V V)) (eY 15 (fun _=>(jn E 42 4 5 0 V V V V V)) (kI 16 (fun g1=>(jc E fun _ _ j q=>ip ex _ q (by(try simp only[BS]at g1);(first|omega|(dsimp only;omega))) (by(try simp only[BS]at g1);(first|omega|(dsimp only;omega))) (by(try simp only[BS]at g1);(first|omega|(dsimp only;omega))) (a3.mono j))) (eY 20 (fun _=>(jl E 40 14 0 V V V)) Hn_)))))) E V V fun b6 H3 F3 a4 a5=>?_));refine ae ⟨.inr V,_,V,_,_,(a4),(HS.forget a5),V,k_⟩
theorem wfexpr_c_aux: ∀(fuel:Nat) {an:Option Addr} {ax:Nat} (e:ExpT) {F:Fz} {H:Heap} {R:List Fp} (hs:HS (.of H []) F H [] R) (bb:in64 e.kind) (bl:in64 e.n) (b0:in64 e.op) (T:SR F (sL an e.kids.length ax) e.kids) (hn:ndE e<4611686018427387904) (hx:nbE e),ndE e<fuel->kKt ex 86 [(aG [(iI e.kind),(iI e.n),(tX e.name.b),(iI e.op),(sL an e.kids.length ax)])] H (Po11 F H R (wfE e)):=by
 intro fuel;induction fuel with
 |zero=>intros;omega
 |succ fuel ih=>
 intro an ax e F H R hs bb bl b0 T hn hx d2;have dk:=nd_e e;have dn:=j8 e.kids;have U:=wf_e e;obtain⟨a8,b8⟩:=nb_e hx;refine av Tryz.func86 V V (ai 1 V (ab (dB (cV hs V V) V V ?_)));rintro _ H2 _ ⟨b1,rfl,b6,_⟩;refine za _ (ah 3 V (wr 2 [] 1 0 [3] [(3,(.int _ 0))] trivial V V fun _=>aq (fun(mm:Nat) f H'=> ∃(i:Nat) (F':Fz),Fz.le F F'/\HS _ F' H' [[(b1,.cells [_,_,_,_,_] _ _)]] R/\aJ f [(1,(pT b1 0)),(3,(.int _ (i:Int)))]/\mm=e.kids.length-i/\(fC e.kids=fC (e.kids.drop i))/\(i<=e.kids.length)) _ ⟨0,_,fR,b6,⟨V,V,trivial⟩,V,k_,M⟩ ?_));rintro c9 f4 H4 ⟨i,F4,O,E,a6,rfl,h1,hi⟩ b7;refine az _ a6 (fun _=>?_);clear a6;replace T:=T.mono O;refine ai 2 V (cP 1 5 9 [] [(9,(.bool (decide ((i:Int)<(e.kids.length:Int)))))] (Hr_ 2 0 Hn_) E V V fun _=>zd 4 5 (fun c6=>?_) fun c6=>?_)
 ·have qa:=nu (l:=e.kids) (i:=i) M;refine ab ?_;obtain⟨c8,a7⟩:=Sv.view (SR.sv T E);obtain⟨ci,ck,cm,b4⟩:=ExpT.fx (a7 i);refine fQ 5 0 12 16 [] [(16,(aG [_,_,_,_,_]))] (Hr_ 1 0 (Ha_ (Sv.ix (SR.sv T E)) (Hl_ 4 (qn 42 0 5 (ExpT.vw (a7 i)) V V V V) Hn_))) E V V fun _=>zc (ih _ (HS.call E) M M M b4 M (nbs_at b8 M) M) ?_
  rintro _ c4 ⟨dd,cL,a5,Y,rfl,rfl⟩;replace Y:=HS.back E V Y;refine dA 1 6 18 18 [] [(18,(.bool (!(wfE (e.kids.getD i _)))))] Hn_ V V fun _=>ah 1 V (zi 1 2 (fun Z=>?_) fun Z=>?_)
  ·try simp only[BS]at Z
   have df:=ws_no (l:=e.kids) (i:=i) M (by simpa only[bp] using Z);refine wr 1 [] 2 2 [] [(2,(.bool false))] trivial V V fun _=>ae ⟨.inr V,_,V,_,_,(fT (O) a5),(HS.forget Y),V,(U.trans (wf_no (h1.trans df))).symm⟩
  try simp only[BS]at Z
  have dt:=ws_go (l:=e.kids) (i:=i) M (by simpa only[bp] using Z);refine wr 1 [] 10 11 [3] [(3,(.int _ _))] (vA (vi) trivial) V V fun _=>?_
  refine b7 _ _ _ ?_ ⟨i+1,_,(fT (O) a5),Y,⟨V,V,trivial⟩,V,(h1.trans dt),M⟩;omega
 refine cP 3 19 21 [4] [(4,(.int _ _))] (Hr_ 1 0 Hn_) E V V fun _=>cP 3 22 23 [] [(23,(.int _ _))] (Hr_ 1 0 Hn_) E V V fun _=>wr 1 [] 24 25 [] [(24,(.bool (e.kind==1)))] trivial V V fun _=>zi 1 1 (fun a0=>?_) fun a0=>?_
 ·try simp only[BS]at a0
  refine wrp 1 26 37 [2] [(2,(.bool ((((e.kids.length:Int)==0)&&(e.name.b==zCB2))&&(e.op==0))))] (Hl1_ 4 (fun _=>(ql 9 2 (h_ E V) V V)) (Hl1_ 9 (fun _=>(ql 3 3 (h_ E V) V V)) Hn_)) V V fun _=>ae ⟨.inr V,_,V,_,_,(O),(HS.forget E),V,(by exact(U.trans ((ja h1 M).trans (by unfold wfN;(repeat rw[if_neg M])<;>first|rfl|(rw[if_pos M]<;>rfl)))).symm)⟩
 try simp only[BS]at a0
 refine wr 1 [] 38 39 [] [(38,(.bool (e.kind==2)))] trivial V V fun _=>zi 1 1 (fun a1=>?_) fun a1=>?_
 ·try simp only[BS]at a1
  refine sj 1 40 56 [2] [(2,(.bool (((((e.kids.length:Int)==0)&&(e.n==0))&&(e.op==0))&&vnm e.name.b)))] (eY 4 (fun _=>(jl E 2 1 0 V V V)) (eY 9 (fun _=>(jl E 3 3 0 V V V)) (eY 14 (fun _=>(jl E 9 2 0 V V V)) (kI 15 (fun _=>(jc E fun _ _ _ q=>gN ex _ q (a8))) Hn_)))) E V V fun co c5 c0 a9 b2=>?_
  refine ae ⟨.inr V,_,V,_,_,(fT (O) a9),(HS.forget b2),V,(by exact(U.trans ((ja h1 M).trans (by unfold wfN;(repeat rw[if_neg M])<;>first|rfl|(rw[if_pos M]<;>rfl)))).symm)⟩
 try simp only[BS]at a1
 refine wr 1 [] 57 58 [] [(57,(.bool (e.kind==3)))] trivial V V fun _=>zi 1 1 (fun a2=>?_) fun a2=>?_
 ·try simp only[BS]at a2
  refine sj 1 59 75 [2] [(2,(.bool (((((e.kids.length:Int)==1)&&(e.n==0))&&(e.op==0))&&vnm e.name.b)))] (eY 4 (fun _=>(jl E 2 1 0 V V V)) (eY 9 (fun _=>(jl E 3 3 0 V V V)) (eY 14 (fun _=>(jl E 9 2 0 V V V)) (kI 15 (fun _=>(jc E fun _ _ _ q=>gN ex _ q (a8))) Hn_)))) E V V fun cw c7 c3 ba b3=>?_
  refine ae ⟨.inr V,_,V,_,_,(fT (O) ba),(HS.forget b3),V,(by exact(U.trans ((ja h1 M).trans (by unfold wfN;(repeat rw[if_neg M])<;>first|rfl|(rw[if_pos M]<;>rfl)))).symm)⟩
 try simp only[BS]at a2
 refine wr 1 [] 76 77 [] [(76,(.bool (e.kind==4)))] trivial V V fun _=>zi 1 1 (fun a3=>?_) fun a3=>?_
 ·try simp only[BS]at a3
  refine cP 1 78 108 [2] [(2,(.bool (((e.n==0)&&(e.name.b==zCB2))&&((((e.kids.length:Int)==2)&&binO e.op)||(((e.kids.length:Int)==1)&&((e.op==20)||(e.op==21)))))))] (Hr_ 1 0 (Hl1_ 5 (fun _=>(ql 9 2 (h_ E V) V V)) (Hl2_ 13 (fun _ _=>(ql 3 3 (h_ E V) V V)) (Hc2_ 14 (fun _ _=>(isbin_c_q ex _ H4)) (Hl3_ 21 (fun _ _ _=>(ql 3 3 (h_ E V) V V)) (Ho_ 25 (.o (iI _)) (fun(g1:_) (g2:_) (g3:_) (g4:_)=>(ql 3 3 (h_ E V) V V)) Hn_)))))) E V V fun _=>ae ⟨.inr V,_,V,_,_,(O),(HS.forget E),V,(by exact(U.trans ((ja h1 M).trans (by unfold wfN;(repeat rw[if_neg M])<;>first|rfl|(rw[if_pos M]<;>rfl)))).symm)⟩
 try simp only[BS]at a3
 refine wT 1 [] 109 110 [] [(109,(.bool (e.kind==5)))] V fun _=>zi 1 3 (fun a4=>?_) fun a4=>?_
 ·try simp only[BS]at a4
  refine wrp 1 111 127 [2] [(2,(.bool (((((e.kids.length:Int)==3)&&(e.n==0))&&(e.name.b==zCB2))&&(e.op==0))))] (Hl1_ 4 (fun _=>(ql 2 1 (h_ E V) V V)) (Hl1_ 9 (fun _=>(ql 9 2 (h_ E V) V V)) (Hl1_ 14 (fun _=>(ql 3 3 (h_ E V) V V)) Hn_))) V V fun _=>ae ⟨.inr V,_,V,(((((e.kids.length:Int)==3)&&(e.n==0))&&(e.name.b==zCB2))&&(e.op==0)),_,(O),(HS.forget E),V,(by exact(U.trans ((ja h1 M).trans (by unfold wfN;(repeat rw[if_neg M])<;>first|rfl|(rw[if_pos M]<;>rfl)))).symm)⟩
 try simp only[BS]at a4
 refine wT 1 [] 2 2 [] [(2,(.bool false))] V fun _=>ae ⟨.inr V,_,V,false,_,(O),(HS.forget E),V,(by exact(U.trans ((ja h1 M).trans (by unfold wfN;(repeat rw[if_neg M])<;>first|rfl|(rw[if_pos M]<;>rfl)))).symm)⟩
theorem fB{E:Option Addr}{O:Nat}(e:ExpT)(hs:HS (.of H []) F H [] R)(T:in64 e.kind)(U:in64 e.n)(Y:in64 e.op)(Z:SR F (sL E e.kids.length O) e.kids)(hn:ndE e<4611686018427387904)(hx:nbE e):kKt ex 86 [(aG [(iI e.kind),(iI e.n),(tX e.name.b),(iI e.op),(sL E e.kids.length O)])] H (Po11 F H R (wfE e)):=
 wfexpr_c_aux ex (ndE e+1) e hs T U Y Z hn hx (a0w _)
theorem wfstmt_c{a5:Option Addr}{a9:Nat}{a4:Option Addr}{a8:Nat}{a3:Option Addr}{a7:Nat}{a2:Option Addr}{a6:Nat}{ba:Option Addr}{b7:Nat}(s:StmT)(hs:HS (.of H []) F H [] R)(e8:in64 s.kind)(fb:in64 s.n)(fd:in64 s.at_.kind)(fi:in64 s.at_.n)(fk:in64 s.at_.op)(Z:SR F (sL ba s.at_.kids.length b7) s.at_.kids)(fl:in64 s.val.kind)(d2:in64 s.val.n)(d3:in64 s.val.op)(T:SR F (sL a2 s.val.kids.length a6) s.val.kids)(Y:SR F (sL a3 s.args.length a7) s.args)(al:SR F (sL a4 s.thn.length a8) s.thn)(an:SR F (sL a5 s.els.length a9) s.els)(hn:ndS s<4611686018427387904)(hx:nbS s):kKt ex 98 [(aG [(iI s.kind),(tX s.name.b),(tX s.to.b),(iI s.n),(iI s.at_.kind),(iI s.at_.n),(tX s.at_.name.b),(iI s.at_.op),(sL ba s.at_.kids.length b7),(iI s.val.kind),(iI s.val.n),(tX s.val.name.b),(iI s.val.op),(sL a2 s.val.kids.length a6),(sL a3 s.args.length a7),(sL a4 s.thn.length a8),(sL a5 s.els.length a9)])] H (Po11 F H R (wfA s)):=by
 have hg:=ns_s s;have hh:=j8 s.args;obtain⟨hj,hk,hl,hm,d1,fu,f1⟩:=nb_s hx;refine av Tryz.func98 V V (ai 1 V (ab (dB (cV hs V V) V V ?_)));rintro _ H2 _ ⟨b1,rfl,dn,_⟩;refine za _ (ah 3 V (wr 2 [] 1 0 [3] [(3,(.int _ 0))] trivial V V fun _=>aq (fun(mm:Nat) f H'=> ∃(i:Nat) (F':Fz),Fz.le F F'/\HS _ F' H' [[(b1,.cells [_,_,_,_,_,_,_,_,_,_,_,_,_,_,_,_,_] _ _)]] R/\aJ f [(1,(pT b1 0)),(3,(.int _ (i:Int)))]/\mm=s.args.length-i/\(fC s.args=fC (s.args.drop i))/\(i<=s.args.length)) _ ⟨0,_,fR,dn,⟨V,V,trivial⟩,V,k_,M⟩ ?_));rintro he f4 H4 ⟨i,F4,U,E,b8,rfl,h1,hi⟩ dt;refine az _ b8 (fun _=>?_);clear b8;replace T:=T.mono U;replace Y:=Y.mono U;replace al:=al.mono U;replace an:=an.mono U;replace Z:=Z.mono U;refine ai 2 V (cP 1 5 9 [] [(9,(.bool (decide ((i:Int)<(s.args.length:Int)))))] (Hr_ 2 0 Hn_) E V V fun _=>zd 4 5 (fun c6=>?_) fun c6=>?_)
 ·have qa:=nu (l:=s.args) (i:=i) M;refine ab ?_;obtain⟨g9,b9⟩:=Sv.view (SR.sv Y E);obtain⟨et,ez,e0,dd⟩:=ExpT.fx (b9 i);refine fQ 5 0 12 16 [] [(16,(aG [_,_,_,_,_]))] (Hr_ 1 0 (Ha_ (Sv.ix (SR.sv Y E)) (Hl_ 4 (qn 42 0 5 (ExpT.vw (b9 i)) V V V V) Hn_))) E V V fun _=>zc (fB ex _ (HS.call E) M M M dd M (nbs_at d1 M)) ?_
  rintro _ go ⟨hf,f2,b6,a0,rfl,rfl⟩;replace a0:=HS.back E V a0;refine dA 1 6 18 18 [] [(18,(.bool (!(wfE (s.args.getD i _)))))] Hn_ V V fun _=>ah 1 V (zi 1 2 (fun a1=>?_) fun a1=>?_)
  ·try simp only[BS]at a1
   have gs:=ws_no (l:=s.args) (i:=i) M (by simpa only[bp] using a1);refine wr 1 [] 2 2 [] [(2,(.bool false))] trivial V V fun _=>ae ⟨.inr V,_,V,_,_,(fT (U) b6),(HS.forget a0),V,(wf_no (h1.trans gs)).symm⟩
  try simp only[BS]at a1
  have hA:=ws_go (l:=s.args) (i:=i) M (by simpa only[bp] using a1);refine wr 1 [] 10 11 [3] [(3,(.int _ _))] (vA (vi) trivial) V V fun _=>?_
  refine dt _ _ _ ?_ ⟨i+1,_,(fT (U) b6),a0,⟨V,V,trivial⟩,V,(h1.trans hA),M⟩;omega
 refine cP 3 19 28 [4] [(4,(.bool (((s.thn.length:Int)==0)&&((s.els.length:Int)==0))))] (Hr_ 1 0 (Hl1_ 6 (fun _=>(ql 39 16 (h_ E V) V V)) Hn_)) E V V fun _=>cP 3 29 30 [] [(30,(.int _ _))] (Hr_ 1 0 Hn_) E V V fun _=>wr 1 [] 31 32 [] [(31,(.bool (s.kind==1)))] trivial V V fun _=>zi 1 1 (fun bb=>?_) fun bb=>?_
 ·try simp only[BS]at bb
  refine sj 1 33 64 [2] [(2,(.bool (((((((((s.thn.length:Int)==0)&&((s.els.length:Int)==0))&&vnm s.name.b)&&(s.to.b==zCB2))&&(s.n==0))&&isZ s.at_)&&((s.args.length:Int)==0))&&wfE s.val)))] (eY 3 (fun _=>(jl E 9 1 0 V V V)) (kI 4 (fun _=>(jc E fun _ _ _ q=>gN ex _ q X)) (eY 8 (fun _=>(jl E 9 2 0 V V V)) (eY 13 (fun _=>(jl E 3 3 0 V V V)) (eY 18 (fun _=>(jn E 42 4 5 0 V V V V V)) (kI 19 (fun O=>(jc E fun _ _ j q=>ip ex _ q (by(try simp only[BS]at O);(first|omega|(dsimp only;omega))) (by(try simp only[BS]at O);(first|omega|(dsimp only;omega))) (by(try simp only[BS]at O);(first|omega|(dsimp only;omega))) (Z.mono j))) (eY 23 (fun _=>(jl E 40 14 0 V V V)) (eY 29 (fun _=>(jn E 42 9 5 0 V V V V V)) (kI 30 (fun O=>(jc E fun _ _ j q=>fB ex _ q (by(try simp only[BS]at O);(first|omega|(dsimp only;omega))) (by(try simp only[BS]at O);(first|omega|(dsimp only;omega))) (by(try simp only[BS]at O);(first|omega|(dsimp only;omega))) (T.mono j) M M)) Hn_))))))))) E V V fun e1 g2 f3 ch c0=>?_
  refine ae ⟨.inr V,_,V,_,_,(fT (U) ch),(HS.forget c0),V,(by exact((ja h1 M).trans (by unfold wfK;(repeat rw[if_neg M])<;>first|rfl|(rw[if_pos M]<;>first|rfl|(simp only[bp]<;>rfl)))).symm)⟩
 try simp only[BS]at bb
 refine wr 1 [] 65 66 [] [(65,(.bool (s.kind==2)))] trivial V V fun _=>zi 1 1 (fun bl=>?_) fun bl=>?_
 ·try simp only[BS]at bl
  refine sj 1 67 98 [2] [(2,(.bool (((((((((s.thn.length:Int)==0)&&((s.els.length:Int)==0))&&vnm s.name.b)&&(s.to.b==zCB2))&&(s.n==0))&&wfE s.at_)&&((s.args.length:Int)==0))&&wfE s.val)))] (eY 3 (fun _=>(jl E 9 1 0 V V V)) (kI 4 (fun _=>(jc E fun _ _ _ q=>gN ex _ q X)) (eY 8 (fun _=>(jl E 9 2 0 V V V)) (eY 13 (fun _=>(jl E 3 3 0 V V V)) (eY 18 (fun _=>(jn E 42 4 5 0 V V V V V)) (kI 19 (fun O=>(jc E fun _ _ j q=>fB ex _ q (by(try simp only[BS]at O);(first|omega|(dsimp only;omega))) (by(try simp only[BS]at O);(first|omega|(dsimp only;omega))) (by(try simp only[BS]at O);(first|omega|(dsimp only;omega))) (Z.mono j) M M)) (eY 23 (fun _=>(jl E 40 14 0 V V V)) (eY 29 (fun _=>(jn E 42 9 5 0 V V V V V)) (kI 30 (fun O=>(jc E fun _ _ j q=>fB ex _ q (by(try simp only[BS]at O);(first|omega|(dsimp only;omega))) (by(try simp only[BS]at O);(first|omega|(dsimp only;omega))) (by(try simp only[BS]at O);(first|omega|(dsimp only;omega))) (T.mono j) M M)) Hn_))))))))) E V V fun e2 g3 f5 ci c3=>?_
  refine ae ⟨.inr V,_,V,_,_,(fT (U) ci),(HS.forget c3),V,(by exact((ja h1 M).trans (by unfold wfK;(repeat rw[if_neg M])<;>first|rfl|(rw[if_pos M]<;>first|rfl|(simp only[bp]<;>rfl)))).symm)⟩
 try simp only[BS]at bl
 refine wr 1 [] 99 100 [] [(99,(.bool (s.kind==3)))] trivial V V fun _=>zi 1 1 (fun b0=>?_) fun b0=>?_
 ·try simp only[BS]at b0
  refine sj 1 101 107 [2] [(2,(.bool (onV s&&wfE s.val)))] (Hr_ 0 0 (Hk_ 1 (jc E fun _ _ j q=>only_c ex s q M M M M M (Z.mono j) M M M (T.mono j) (Y.mono j) (al.mono j) (an.mono j)) (eY 4 (fun _=>(jn E 42 9 5 0 V V V V V)) (kI 5 (fun O=>(jc E fun _ _ j q=>fB ex _ q (by(try simp only[BS]at O);(first|omega|(dsimp only;omega))) (by(try simp only[BS]at O);(first|omega|(dsimp only;omega))) (by(try simp only[BS]at O);(first|omega|(dsimp only;omega))) (T.mono j) M M)) Hn_)))) E V V fun e3 g4 f6 ck c4=>?_
  refine ae ⟨.inr V,_,V,_,_,(fT (U) ck),(HS.forget c4),V,(by exact((ja h1 M).trans (by unfold wfK;(repeat rw[if_neg M])<;>first|rfl|(rw[if_pos M]<;>first|rfl|(simp only[bp]<;>rfl)))).symm)⟩
 try simp only[BS]at b0
 refine wr 1 [] 108 109 [] [(108,(.bool (s.kind==4)))] trivial V V fun _=>zi 1 1 (fun b2=>?_) fun b2=>?_
 ·try simp only[BS]at b2
  refine sj 1 110 122 [2] [(2,(.bool ((onV s&&wfE s.val)&&((s.els.length:Int)==0))))] (Hr_ 0 0 (Hk_ 1 (jc E fun _ _ j q=>only_c ex s q M M M M M (Z.mono j) M M M (T.mono j) (Y.mono j) (al.mono j) (an.mono j)) (eY 4 (fun _=>(jn E 42 9 5 0 V V V V V)) (kI 5 (fun O=>(jc E fun _ _ j q=>fB ex _ q (by(try simp only[BS]at O);(first|omega|(dsimp only;omega))) (by(try simp only[BS]at O);(first|omega|(dsimp only;omega))) (by(try simp only[BS]at O);(first|omega|(dsimp only;omega))) (T.mono j) M M)) (eY 9 (fun _=>(jl E 39 16 0 V V V)) Hn_))))) E V V fun e4 g5 f7 cm c5=>?_
  refine ae ⟨.inr V,_,V,_,_,(fT (U) cm),(HS.forget c5),V,(by exact((ja h1 M).trans (by unfold wfK;(repeat rw[if_neg M])<;>first|rfl|(rw[if_pos M]<;>first|rfl|(simp only[bp]<;>rfl)))).symm)⟩
 try simp only[BS]at b2
 refine wr 1 [] 123 124 [] [(123,(.bool (s.kind==5)))] trivial V V fun _=>zi 1 1 (fun b3=>?_) fun b3=>?_
 ·try simp only[BS]at b3
  refine sj 1 125 134 [2] [(2,(.bool (((((s.thn.length:Int)==0)&&((s.els.length:Int)==0))&&onV s)&&wfE s.val)))] (eY 2 (fun _=>(jn E 87 0 17 0 V V V V V)) (kI 3 (fun O=>(jc E fun _ _ j q=>only_c ex s q (by(try simp only[BS]at O);(first|omega|(dsimp only;omega))) (by(try simp only[BS]at O);(first|omega|(dsimp only;omega))) (by(try simp only[BS]at O);(first|omega|(dsimp only;omega))) (by(try simp only[BS]at O);(first|omega|(dsimp only;omega))) (by(try simp only[BS]at O);(first|omega|(dsimp only;omega))) (Z.mono j) (by(try simp only[BS]at O);(first|omega|(dsimp only;omega))) (by(try simp only[BS]at O);(first|omega|(dsimp only;omega))) (by(try simp only[BS]at O);(first|omega|(dsimp only;omega))) (T.mono j) (Y.mono j) (al.mono j) (an.mono j))) (eY 7 (fun _=>(jn E 42 9 5 0 V V V V V)) (kI 8 (fun O=>(jc E fun _ _ j q=>fB ex _ q (by(try simp only[BS]at O);(first|omega|(dsimp only;omega))) (by(try simp only[BS]at O);(first|omega|(dsimp only;omega))) (by(try simp only[BS]at O);(first|omega|(dsimp only;omega))) (T.mono j) M M)) Hn_)))) E V V fun e5 g6 f8 co c7=>?_
  refine ae ⟨.inr V,_,V,_,_,(fT (U) co),(HS.forget c7),V,(by exact((ja h1 M).trans (by unfold wfK;(repeat rw[if_neg M])<;>first|rfl|(rw[if_pos M]<;>first|rfl|(simp only[bp]<;>rfl)))).symm)⟩
 try simp only[BS]at b3
 refine wr 1 [] 135 136 [] [(135,(.bool (s.kind==6)))] trivial V V fun _=>zi 1 1 (fun b4=>?_) fun b4=>?_
 ·try simp only[BS]at b4
  refine sj 1 137 162 [2] [(2,(.bool ((((((((s.thn.length:Int)==0)&&((s.els.length:Int)==0))&&vnm s.name.b)&&vnm s.to.b)&&(s.n==0))&&isZ s.at_)&&isZ s.val)))] (eY 3 (fun _=>(jl E 9 1 0 V V V)) (kI 4 (fun _=>(jc E fun _ _ _ q=>gN ex _ q X)) (eY 8 (fun _=>(jl E 9 2 0 V V V)) (kI 9 (fun _=>(jc E fun _ _ _ q=>gN ex _ q X)) (eY 13 (fun _=>(jl E 3 3 0 V V V)) (eY 18 (fun _=>(jn E 42 4 5 0 V V V V V)) (kI 19 (fun O=>(jc E fun _ _ j q=>ip ex _ q (by(try simp only[BS]at O);(first|omega|(dsimp only;omega))) (by(try simp only[BS]at O);(first|omega|(dsimp only;omega))) (by(try simp only[BS]at O);(first|omega|(dsimp only;omega))) (Z.mono j))) (eY 23 (fun _=>(jn E 42 9 5 0 V V V V V)) (kI 24 (fun O=>(jc E fun _ _ j q=>ip ex _ q (by(try simp only[BS]at O);(first|omega|(dsimp only;omega))) (by(try simp only[BS]at O);(first|omega|(dsimp only;omega))) (by(try simp only[BS]at O);(first|omega|(dsimp only;omega))) (T.mono j))) Hn_))))))))) E V V fun e6 g7 f9 cw c8=>?_
  refine ae ⟨.inr V,_,V,_,_,(fT (U) cw),(HS.forget c8),V,(by exact((ja h1 M).trans (by unfold wfK;(repeat rw[if_neg M])<;>first|rfl|(rw[if_pos M]<;>first|rfl|(simp only[bp]<;>rfl)))).symm)⟩
 try simp only[BS]at b4
 refine wr 1 [] 163 164 [] [(163,(.bool (s.kind==7)))] trivial V V fun _=>zi 1 3 (fun b5=>?_) fun b5=>?_
 ·try simp only[BS]at b5
  refine sj 1 165 201 [2] [(2,(.bool ((((((((((s.thn.length:Int)==0)&&((s.els.length:Int)==0))&&(s.name.b==zCB2))&&(s.to.b==zCB2))&&(decide ((0:Int)<=s.n)))&&(decide (s.n<=1000000)))&&isZ s.at_)&&isZ s.val)&&((s.args.length:Int)==0))))] (eY 3 (fun _=>(jl E 9 1 0 V V V)) (eY 8 (fun _=>(jl E 9 2 0 V V V)) (eY 13 (fun _=>(jl E 3 3 0 V V V)) (eY 18 (fun _=>(jl E 3 3 0 V V V)) (eY 23 (fun _=>(jn E 42 4 5 0 V V V V V)) (kI 24 (fun O=>(jc E fun _ _ j q=>ip ex _ q (by(try simp only[BS]at O);(first|omega|(dsimp only;omega))) (by(try simp only[BS]at O);(first|omega|(dsimp only;omega))) (by(try simp only[BS]at O);(first|omega|(dsimp only;omega))) (Z.mono j))) (eY 28 (fun _=>(jn E 42 9 5 0 V V V V V)) (kI 29 (fun O=>(jc E fun _ _ j q=>ip ex _ q (by(try simp only[BS]at O);(first|omega|(dsimp only;omega))) (by(try simp only[BS]at O);(first|omega|(dsimp only;omega))) (by(try simp only[BS]at O);(first|omega|(dsimp only;omega))) (T.mono j))) (eY 33 (fun _=>(jl E 40 14 0 V V V)) Hn_))))))))) E V V fun e7 g8 gm cL c9=>?_
  refine ae ⟨.inr V,_,V,_,_,(fT (U) cL),(HS.forget c9),V,(by exact((ja h1 M).trans (by unfold wfK;(repeat rw[if_neg M])<;>first|rfl|(rw[if_pos M]<;>first|rfl|(simp only[bp]<;>rfl)))).symm)⟩
 try simp only[BS]at b5
 refine wr 1 [] 2 2 [] [(2,(.bool false))] trivial V V fun _=>ae ⟨.inr V,_,V,_,_,(U),(HS.forget E),V,(by exact((ja h1 M).trans (by unfold wfK;(repeat rw[if_neg M])<;>first|rfl|(rw[if_pos M]<;>first|rfl|(simp only[bp]<;>rfl)))).symm)⟩
theorem mZ: ∀(fuel:Nat) {ar:Option Addr} {b0:Nat} (l:List StmT) {F:Fz} {H:Heap} {R:List Fp} (hs:HS (.of H []) F H [] R) (hl:SR F (sL ar l.length b0) l) (hn:fw l<4611686018427387904) (hx:nbSs l),fw l<fuel->kKt ex 85 [(sL ar l.length b0)] H (ca.Po8 F H R (eO l)):=by
 intro fuel;induction fuel with
 |zero=>intros;omega
 |succ fuel ih=>
 intro ar b0 l F H R hs hl hn hx gs;have hI:=mz l;refine av Tryz.func85 V V (ai 1 V (wr 3 [] 2 2 [] [(2,(.bool false))] trivial V V fun _=>wr 2 [] 1 0 [3] [(3,(.int _ 0))] trivial V V fun _=>aq (fun(mm:Nat) f H'=> ∃(i:Nat) (F':Fz),Fz.le F F'/\HS _ F' H' [] R/\aJ f [(0,(sL ar _ b0)),(3,(.int _ (i:Int)))]/\mm=l.length-i/\(eO l=eO (l.drop i))/\(i<=l.length)) _ ⟨0,_,fR,hs,⟨V,V,trivial⟩,V,k_,M⟩ ?_));rintro hE f3 H3 ⟨i,F3,a2,al,bl,rfl,h1,hi⟩ dn;refine az _ bl (fun _=>?_);clear bl;replace hl:=hl.mono a2;refine ai 2 V (wr 1 [] 4 7 [] [(7,(.bool (decide ((i:Int)<(l.length:Int)))))] trivial V V fun _=>zd 4 5 (fun c5=>?_) fun c5=>?_)
 ·have qa:=ns_at (l:=l) (i:=i) M;have qs:=ns_s (l.getD i default);have fi:=nbs_s hx (i:=i) M;obtain⟨_,_,_,_,_,hq,hr⟩:=nb_s fi;refine cC 10 33 [] [(33,(.bool (((!(wfA (l.getD i default)))||(!(eO (l.getD i default).thn)))||(!(eO (l.getD i default).els)))))] (fun H'=> ∃F',Fz.le F3 F'/\HS (Base.of H []) F' H' [] R) ?_ ?_
  ·refine ab (zm _ (zm _ (ad (v:=(.pointer (some ⟨_,sO (sL ar _ b0)+i *Rp.sz StmT,_⟩))) (fM (j:=(i:Int)) V V V V (SR.sv hl al) M M) V V ?_)));obtain⟨hm,b5,b2⟩:=Sv.at (SR.sv hl al) (bj (x:=default) (show i<l.length from by omega));obtain⟨fk,g9,b8,dt,b9,d1,ch,d2,ci,d3,rfl,f1,f2,f4,f5,f6,f7,c6,c7,bb,a5,a6,a7,a8⟩:=(StmT.out b5)
   refine ad (v:=(aG [_,_,_,_,_,_,_,_,_,_,_,_,_,_,_,_,_])) (db (i:=0) V V V b2 V V V) V V (zc (wfstmt_c ex _ (HS.call al) M M M M M bb M M M a5 a6 a7 a8 M M) ?_);rintro _ hz ⟨hF,hu,Y,T,rfl,rfl⟩;replace T:=HS.back al V T;replace hl:=hl.mono Y;refine ad (cg V) V V (zm (.bool (!(wfA (l.getD i _)))) (bX V V (fun E=>?_) (fun E=>?_)))
   ·have a0:=E;try simp only[BS]at a0
    refine zm _ (aA V E (zm _ (aA V E (ad (v:=(.pointer (some ⟨_,sO (sL ar _ b0)+i *Rp.sz StmT,_⟩))) (fM (j:=(i:Int)) V V V V (SR.sv hl T) M M) V V (aA V E ?_)))));refine ad (v:=(.pointer (some ⟨_,sO (sL ar _ b0)+i *Rp.sz StmT+15,_⟩))) (bP V V) V V (aA V E ?_);obtain⟨ho,b6,b3⟩:=Sv.at (SR.sv hl T) (bj (x:=default) (show i<l.length from by omega));obtain⟨fl,he,ck,em,cm,et,co,ez,cw,e0,rfl,f8,f9,gm,go,g1,g2,c8,c9,hg,e5,e6,a9,e7⟩:=(StmT.out b6)
    refine ad (bc V V b3 V V) V V (aA V E (zc (ih _ (HS.call T) a9 M M M) ?_));rintro _ hA ⟨hG,hv,an,U,rfl,rfl⟩;replace U:=HS.back T V U;replace hl:=hl.mono an;refine aA V E (ad (cg V) V V (ad (v:=(.bool (!(eO (l.getD i _).thn)))) (aD V E V) V V (zm (.bool (!(eO (l.getD i _).thn))) (bX V V (fun O=>?_) (fun O=>?_)))))
    ·have a1:=O;try simp only[BS]at a1
     refine zm _ (aA V O (zm _ (aA V O (ad (v:=(.pointer (some ⟨_,sO (sL ar _ b0)+i *Rp.sz StmT,_⟩))) (fM (j:=(i:Int)) V V V V (SR.sv hl U) M M) V V (aA V O ?_)))));refine ad (v:=(.pointer (some ⟨_,sO (sL ar _ b0)+i *Rp.sz StmT+16,_⟩))) (bP V V) V V (aA V O ?_);obtain⟨hp,b7,b4⟩:=Sv.at (SR.sv hl U) (bj (x:=default) (show i<l.length from by omega));obtain⟨fu,hf,cL,e1,c0,e2,c3,e3,c4,e4,rfl,g3,g4,g5,g6,g7,g8,dd,dk,hh,e8,fb,fd,ba⟩:=(StmT.out b7)
     refine ad (bc V V b4 V V) V V (aA V O (zc (ih _ (HS.call U) ba M M M) ?_));rintro _ hB ⟨hH,hw,b1,ax,rfl,rfl⟩;replace ax:=HS.back U V ax;refine aA V O (ad (cg V) V V (ad (v:=(.bool (!(eO (l.getD i _).els)))) (aD V O V) V V (ay ?_)));exact ap ⟨V,⟨_,(fT (fT (fT fR Y) an) b1),HS.sub ax (List.Sublist.refl _)⟩,(by repeat' first|exact Lr|refine Lu V ?_),(agC (congrArg _ (show(!(eO (l.getD i _).els))=(((!(wfA (l.getD i _)))||(!(eO (l.getD i _).thn)))||(!(eO (l.getD i _).els))) by simp only[↓E,↓O,BT])) agN)⟩
    have a1:=O;try simp only[BS]at a1
    refine ag V O V (ag V O V (ag V O V (ag V O V (ag V O V (ag V O V ?_)))));refine ad (v:=(.bool true)) (au V O V) V V (ay ?_);exact ap ⟨V,⟨_,(fT (fT fR Y) an),HS.sub U (List.Sublist.refl _)⟩,(by repeat' first|exact Lr|refine Lu V ?_),(agC (congrArg _ (show true=(((!(wfA (l.getD i _)))||(!(eO (l.getD i _).thn)))||(!(eO (l.getD i _).els))) by simp only[↓E,↓O,BT])) agN)⟩
   have a0:=E;try simp only[BS]at a0
   refine ag V E V (ag V E V (ag V E V (ag V E V (ag V E V (ag V E V ?_)))));refine ad (v:=(.bool true)) (au V E V) V V (zm (.bool true) (ag V V V (ag V V V (ag V V V (ag V V V ?_)))));refine ag V V V (ag V V V (ag V V V (ad (v:=(.bool true)) (au V V V) V V (ay ?_))));exact ap ⟨V,⟨_,(fT fR Y),HS.sub T (List.Sublist.refl _)⟩,(by repeat' first|exact Lr|refine Lu V ?_),(agC (congrArg _ (show true=(((!(wfA (l.getD i _)))||(!(eO (l.getD i _).thn)))||(!(eO (l.getD i _).els))) by simp only[↓E,BT])) agN)⟩
  skip;rintro hD hy ⟨ht,a3,a4⟩;refine ai 1 V (zi 1 2 (fun Z=>?_) fun Z=>?_)
  ·try simp only[BS]at Z
   have dp:=wt_no (l:=l) (i:=i) M Z;refine wr 1 [] 2 2 [] [(2,(.bool false))] trivial V V fun _=>ae ⟨.inr V,_,V,_,_,(fT (a2) a3),(HS.forget a4),V,(h1.trans dp).symm⟩
  try simp only[BS]at Z
  have ds:=wt_go (l:=l) (i:=i) M Z;refine wr 1 [] 8 9 [3] [(3,(.int _ _))] (vA (vi) trivial) V V fun _=>?_
  refine dn _ _ _ ?_ ⟨i+1,_,(fT (a2) a3),a4,⟨V,V,trivial⟩,V,(h1.trans ds),M⟩;omega
 refine wr 1 [] 2 2 [] [(2,(.bool true))] trivial V V fun _=>ae ⟨.inr V,_,V,_,_,(a2),(HS.forget al),V,(h1.trans (wt_end M)).symm⟩
theorem wfstmts_c{E:Option Addr}{O:Nat}(l:List StmT)(hs:HS (.of H []) F H [] R)(T:SR F (sL E l.length O) l)(U:fw l<4611686018427387904)(Y:nbSs l):kKt ex 85 [(sL E l.length O)] H (ca.Po8 F H R (eO l)):=
 mZ ex (fw l+1) l hs T U Y (a0w _)
theorem wf_c{bl:Option Addr}{ch:Nat}{bb:Option Addr}{b9:Nat}(p:PrgT)(hs:HS (.of H []) F H [] R)(a0:SR F (sL bb p.arrs.length b9) p.arrs)(T:SR F (sL bl p.funs.length ch) p.funs)(hn:SmP p)(hx:NbP p):kKt ex 57 [(aG [(sL bb p.arrs.length b9),(sL bl p.funs.length ch)])] H (ca.Po8 F H R (wfP p)):=by
 obtain⟨h6,h7,hA⟩:=hn;obtain⟨hy,hz⟩:=hx;refine av Tryz.func57 V V (ai 1 V (ab (dB (cV hs V V) V V ?_)));rintro _ H2 _ ⟨b1,rfl,d2,_⟩;refine za _ (ah 3 V (wr 2 [] 1 0 [3] [(3,(.int _ 0))] trivial V V fun _=>aq (fun(mm:Nat) f H'=> ∃(i:Nat) (F':Fz),Fz.le F F'/\HS _ F' H' [[(b1,.cells [_,_] _ _)]] R/\aJ f [(1,(pT b1 0)),(3,(.int _ (i:Int)))]/\mm=p.arrs.length-i/\(p.arrs.all anB=(p.arrs.drop i).all anB)/\(i<=p.arrs.length)) _ ⟨0,_,fR,d2,⟨V,V,trivial⟩,V,k_,M⟩ ?_));rintro hf f4 H4 ⟨i,F4,Z,al,co,rfl,h1,hi⟩ d3;refine az _ co (fun _=>?_);clear co;replace a0:=a0.mono Z;replace T:=T.mono Z;refine ai 2 V (cP 1 8 12 [] [(12,(.bool (decide ((i:Int)<(p.arrs.length:Int)))))] (Hr_ 2 0 Hn_) al V V fun _=>zd 4 6 (fun c6=>?_) fun c6=>?_)
 ·refine ab ?_;obtain⟨g6,cw⟩:=Sv.view (SR.sv a0 al);have fb:=ArrT.fx (cw i);refine fQ 6 0 15 20 [] [(20,(tX (p.arrs.getD i _).name.b))] (Hr_ 1 0 (Ha_ (Sv.ix (SR.sv a0 al)) (Hl_ 5 (ql 9 0 (ArrT.vw (cw i)) V V) Hn_))) al V V fun _=>zc (gN ex (p.arrs.getD i _).name.b (HS.call al) (hy _ (eJ M))) ?_
  rintro _ f7 ⟨hg,f2,b0,a1,rfl,rfl⟩;replace a1:=HS.back al V a1;refine dA 1 7 22 22 [] [(22,(.bool (!(vnm (p.arrs.getD i _).name.b))))] Hn_ V V fun _=>ah 1 V (zi 1 2 (fun a6=>?_) fun a6=>?_)
  ·try simp only[BS]at a6
   have ar:=al_no (p:=anB) (l:=p.arrs) (i:=i) M a6;refine wr 1 [] 2 2 [] [(2,(.bool false))] trivial V V fun _=>ae ⟨.inr V,_,V,_,_,(fT (Z) b0),(HS.forget a1),V,(wp_1 (h1.trans ar)).symm⟩
  try simp only[BS]at a6
  have a9:=al_go (p:=anB) (l:=p.arrs) (i:=i) M a6;refine wr 1 [] 13 14 [3] [(3,(.int _ _))] (vA (vi) trivial) V V fun _=>?_
  refine d3 _ _ _ ?_ ⟨i+1,_,(fT (Z) b0),a1,⟨V,V,trivial⟩,V,(h1.trans a9),M⟩;omega
 have h2:=h1.trans (l4 M);refine wr 2 [] 1 0 [4] [(4,(.int _ 0))] trivial V V fun _=>aq (fun(mm:Nat) f H'=> ∃(i:Nat) (F':Fz),Fz.le F4 F'/\HS _ F' H' _ R/\aJ f [(1,(pT b1 0)),(4,(.int _ (i:Int)))]/\mm=p.funs.length-i/\(p.funs.all wfF=(p.funs.drop i).all wfF)/\(i<=p.funs.length)) _ ⟨0,_,fR,al,⟨V,V,trivial⟩,V,k_,M⟩ ?_
 rintro fu g7 f8 ⟨i,dd,Y,U,b4,rfl,g1,hk⟩ c8;refine az _ b4 (fun _=>?_);clear b4;replace T:=T.mono Y;refine ai 2 V (cP 1 23 27 [] [(27,(.bool (decide ((i:Int)<(p.funs.length:Int)))))] (Hr_ 2 0 Hn_) U V V fun _=>zd 4 5 (fun dt=>?_) fun dt=>?_)
 ·have h5:((([⟨(p.funs.getD i default).name.b⟩]:List Str)++(p.funs.getD i default).pars)++(p.funs.getD i default).locs).length=(wlF (p.funs.getD i default)).length:=rfl;have fl:=wl_len (p.funs.getD i default);have h4:=hA (p.funs.getD i default) (eJ M);have df:=hz (p.funs.getD i default) (eJ M);refine ab ?_;obtain⟨e7,b8⟩:=Sv.view (SR.sv T U);obtain⟨ez,e0,e1,ck,cm,a4,a5⟩:=FunT.fx (b8 i);refine fQ 5 0 30 34 [] [(34,(aG [_,_,_,_,_,_,_,_,_]))] (Hr_ 1 0 (Ha_ (Sv.ix (SR.sv T U)) (Hl_ 4 (qn 44 0 9 (FunT.vw (b8 i)) V V V V) Hn_))) U V V fun _=>zn U V fun dn f9 c4=>sgo 1 6 1 0 [] [] (Hr_ 6 1 Hn_) c4 V V fun fd gm b6=>ah 2 V (aC V (de 2 35 36 [] [(36,(tX (p.funs.getD i _).name.b))] (Hr_ 1 1 Hn_) b6 V V fun _=>?_))
  refine zld ([⟨(p.funs.getD i _).name.b⟩]:List Str) b6 V (RL.cs V RL.nl) V fun g4 g9 hj e3 c0 a2=>de 2 38 39 [] [(39,(sL _ _ _))] (Hr_ 4 1 Hn_) a2 V V fun _=>zad 2 c0 a2 (SR.sv ck a2) V V V M (kb V) fun g5 he hl e4 c3 ba=>zp 2 (bf (bc (i:=2) V V (HS.hc ba.log0 (i:=1) V) V V) V V (fZ V) (⟨.inl V,⟨.inr (HS.nin a2 (i:=1) (j:=2) V V e_ (List.Mem.head _)),⟨.inr trivial,⟨.inr trivial,⟨.inr trivial,⟨.inr trivial,⟨.inr trivial,trivial⟩⟩⟩⟩⟩⟩⟩) (zad 2 c3 ba (SR.sv cm ba) V V V M (kb V) fun dk em et e5 ax c5=>?_))
  refine fa _ V V V (bt 3 V (wr 2 [] 1 0 [7] [(7,(.int _ 0))] trivial V V fun _=>aq (fun(mm:Nat) f H'=> ∃(k:Nat) (F':Fz),Fz.le dd F'/\HS _ F' H' [_,_,et] R/\aJ f [(1,(pT b1 0)),(4,(.int _ _)),(5,(pT dn 0)),(6,(sL dk _ em)),(7,(.int _ (k:Int)))]/\mm=(wlF (p.funs.getD i default)).length-k/\((wlF (p.funs.getD i _)).all snB=((wlF (p.funs.getD i default)).drop k).all snB)/\(k<=(wlF (p.funs.getD i default)).length)) _ ⟨0,_,fR,c5,⟨V,V,V,V,V,trivial⟩,V,k_,M⟩ ?_));rintro f1 g8 go ⟨k,f3,O,E,b5,rfl,k1,hkk⟩ c9;refine az _ b5 (fun _=>?_);clear b5;replace ax:=ax.mono O;replace a4:=a4.mono O;replace a5:=a5.mono O;refine ai 2 V (wr 1 [] 44 47 [] [(47,(.bool (decide ((k:Int)<(((([⟨(p.funs.getD i _).name.b⟩]:List Str)++(p.funs.getD i _).pars)++(p.funs.getD i _).locs).length:Int)))))] trivial V V fun _=>zd 4 5 (fun d1=>?_) fun d1=>?_)
  ·refine ab ?_;obtain⟨e8,c7⟩:=Sv.view (OS.sv ax E (i:=2) V);refine dA 4 0 50 53 [] [(53,(tX (((([⟨(p.funs.getD i _).name.b⟩]:List Str)++(p.funs.getD i _).pars)++(p.funs.getD i _).locs).getD k _).b))] (Ha_ (Sv.ix (OS.sv ax E (i:=2) V)) (Hl_ 3 (ql 9 0 (vS (c7 k)) V V) Hn_)) V V fun _=>zc (gN ex ((((([⟨(p.funs.getD i _).name.b⟩]:List Str)++(p.funs.getD i _).pars)++(p.funs.getD i _).locs).getD k _).b) (HS.call E) (wl_nb df M)) ?_
   rintro _ g2 ⟨hh,f5,b2,a3,rfl,rfl⟩;replace a3:=HS.back E V a3;refine dA 1 5 55 55 [] [(55,(.bool (!(vnm ((((([⟨(p.funs.getD i _).name.b⟩]:List Str)++(p.funs.getD i _).pars)++(p.funs.getD i _).locs).getD k _).b)))))] Hn_ V V fun _=>ah 1 V (zi 1 2 (fun a7=>?_) fun a7=>?_)
   ·try simp only[BS]at a7
    have ar:=al_no (p:=snB) (l:=wlF (p.funs.getD i default)) (i:=k) M a7;refine wr 1 [] 2 2 [] [(2,(.bool false))] trivial V V fun _=>ae ⟨.inr V,_,V,_,_,(fT (fT (fT (Z) Y) O) b2),(HS.forget a3),V,((wp_2 (g1.trans (wf_lno M (k1.trans ar)))).symm)⟩
   try simp only[BS]at a7
   have a9:=al_go (p:=snB) (l:=wlF (p.funs.getD i default)) (i:=k) M a7;refine wr 1 [] 48 49 [7] [(7,(.int _ _))] (vA (vi) trivial) V V fun _=>?_
   refine c9 _ _ _ ?_ ⟨k+1,_,(fT (O) b2),a3,⟨V,V,V,V,V,trivial⟩,V,(k1.trans a9),M⟩;omega
  have k2:=k1.trans (l4 M);refine sj 1 56 65 [] [(65,(.bool ((!(eO (p.funs.getD i _).body))||(!(wfE (p.funs.getD i _).val)))))] (Hr_ 1 1 (Hk_ 2 (jc E fun _ _ j q=>wfstmts_c ex _ q (a4.mono j) M (df.2.2.2.1)) (eY 6 (fun _=>(jn E 42 4 5 1 V V V V V)) (kI 7 (fun g1=>(jc E fun _ _ j q=>fB ex _ q (by(try simp only[BS]at g1);(first|omega|(dsimp only;omega)|(rw[an];omega)|(show 1+_<_;omega))) (by(try simp only[BS]at g1);(first|omega|(dsimp only;omega)|(rw[an];omega)|(show 1+_<_;omega))) (by(try simp only[BS]at g1);(first|omega|(dsimp only;omega)|(rw[an];omega)|(show 1+_<_;omega))) (a5.mono j) M (df.2.2.2.2))) Hn_)))) E V V fun fi g3 f6 b3 b7=>?_
  refine zi 1 2 (fun a8=>?_) fun a8=>?_
  ·try simp only[BS]at a8
   have ar:=wf_no2 (l:=p.funs) (i:=i) M (by simpa only[bp] using a8);refine wr 1 [] 2 2 [] [(2,(.bool false))] trivial V V fun _=>ae ⟨.inr V,_,V,_,_,(fT (fT (fT (Z) Y) O) b3),(HS.forget b7),V,(wp_2 (g1.trans ar)).symm⟩
  try simp only[BS]at a8
  have a9:=wf_go2 (l:=p.funs) (i:=i) M k2 (by simpa only[bp] using a8);refine wr 1 [] 28 29 [4] [(4,(.int _ _))] (vA (vi) trivial) V V fun _=>?_
  refine c8 _ _ _ ?_ ⟨i+1,_,(fT (fT (Y) O) b3),(HS.sub b7 (a05 _ _)),⟨V,V,trivial⟩,V,(g1.trans a9),M⟩;omega
 refine wr 1 [] 2 2 [] [(2,(.bool true))] trivial V V fun _=>ae ⟨.inr V,_,V,_,_,(fT (Z) Y),(HS.forget U),V,((wp_3 h2 (g1.trans (l4 M))).symm)⟩
end Go.Proofs.YtapgbjedgcpffaaGreat.cb
