/-
Sets of registers as ascending lists, comparisons of results: the reference. No condition but bounds on lengths.
-/
import Derived.Test.YtknafdcgpaejlaaDoorZMM5
noncomputable section
namespace Go.Proofs.YtknafdcgpaejlaaDoor.m6
open Go.R
set_option maxRecDepth 10000
set_option linter.unusedVariables false
set_option linter.unusedSimpArgs false
variable (ex:FuncId) {F:Fz} {H:Heap} {R:List Fp}
open m1 m2 m3 m4 m5
def ic(l:List Int)(n:Int):Nat:=(l.takeWhile (fun x=>decide (x<n))).length
def dp(l:List Int)(n:Int):List Int:=if ic l n<l.length/\l.getD (ic l n) 0=n then l else l.take (ic l n)++[n]++l.drop (ic l n)
theorem pre_eq: ∀{l:List Int} {n:Int} {k:Nat},k<=l.length->(∀j,j<k->l.getD j 0<n)->(k<l.length->¬l.getD k 0<n)->k=ic l n
 | [],n,k,hk,_,_=>by simp at hk;subst hk;rfl
 |x::l,n,0,_,_,h=>by have h0: ¬x<n:=h (by simp);unfold ic;rw[List.takeWhile_cons_of_neg (by simpa using h0)];rfl
 |x::l,n,k+1,hk,hl,h=>by have h0:x<n:=hl 0 (by omega);have:=pre_eq (l:=l) (n:=n) (k:=k) (by simpa using hk) (fun j A=>hl (j+1) (by omega)) (fun A=>h (by simpa using A));unfold ic at this⊢;rw[List.takeWhile_cons_of_pos (by simpa using h0),a09,←this]
theorem kU{l:List Int}{n:Int}{k:Nat}(E:k=ic l n)(h:k<l.length)(A:l.getD k 0=n):l=dp l n:=by subst E;unfold dp;rw[if_pos ⟨h,A⟩]
theorem ins_new{l:List Int}{n:Int}{k:Nat}(A:k=ic l n)(h: ¬(k<l.length/\l.getD k 0=n)):l.take k++[n]++l.drop k=dp l n:=by subst A;unfold dp;rw[if_neg h]
theorem ins_len{l:List Int}{n:Int}:(dp l n).length<=l.length+1:=by
 unfold dp;split
 ·omega
 simp only[a05,a0k,a0w,a09,a0e];omega
def im(l:List Int)(n:Int):Bool:=l.any (fun x=>decide (x=n))
theorem con_no{l:List Int}{n:Int}{k:Nat}(h: ∀j,j<k->¬l.getD j 0=n)(N:l.length<=k):false=im l n:=by symm;unfold im;rw[List.any_eq_false];intro x E;obtain⟨j,A,rfl⟩:=a0E.1 E;have:=h j (by omega);rw[a02,a06 A]at this;simpa using this
theorem con_yes{l:List Int}{n:Int}{k:Nat}(A:k<l.length)(h:l.getD k 0=n):true=im l n:=by symm;unfold im;rw[List.any_eq_true];refine⟨l.getD k 0,?_,by simpa using h⟩;rw[a02,a06 A];exact a1r A
theorem same_yes{a b:List Int}(N:a.length=b.length){k:Nat}(h: ∀j,j<k->a.getD j 0=b.getD j 0)(T:a.length<=k):true=decide (a=b):=by symm;apply decide_eq_true;apply List.ext_getElem N;intro j A E;have:=h j (by omega);rwa [a02,a02,a06 A,a06 E]at this
theorem same_no{a b:List Int}{k:Nat}(h: ¬a.getD k 0=b.getD k 0):false=decide (a=b):=by symm;apply decide_eq_false;intro e;rw[e]at h;exact h rfl
theorem same_len{a b:List Int}(h: ¬(a.length:Int)=(b.length:Int)):false=decide (a=b):=by symm;apply decide_eq_false;intro e;rw[e]at h;exact h rfl
theorem kR{p:Nat->Prop}{k:Nat}(h: ∀j,j<k->p j)(c:p k): ∀j,j<k+1->p j:=fun j E=>by
 rcases Nat.lt_succ_iff_lt_or_eq.1 E with A|rfl
 ·exact h j A
 exact c
theorem dj{ai:Option Addr}{ao:Nat}(l:List Int)(n:Int)(hs:HS (.of H []) F H [] R)(hl:SR F (sL ai l.length ao) l)(hn:in64 n)(hT:TB 37 tabC F)(f8:l.length<=1073741824):kKt ex 56 [(sL ai l.length ao),(iI n)] H fun v H'=> ∃(ar:Option Addr) (kr:Nat) (r:List Int) (F':Fz),Fz.le F F'/\HS (.of H []) F' H' [] R/\v=sL ar r.length kr/\SR F' (sL ar r.length kr) r/\r=dp l n:=by
 refine aD Tryd.func56 rfl rfl (zf 1 (wT 2 [] 4 4 [] [(4,(sL none 0 0))] rfl fun _=>wT 3 [] 1 0 [5] [(5,(iI 0))] rfl fun _=>ae (fun(mm:Nat) f H'=> ∃(k:Nat),H'=H/\ap f [(0,(sL ai l.length ao)),(1,(iI n)),(5,(iI (k:Int)))]/\mm=l.length-k/\(k<=l.length)/\(∀j,j<k->l.getD j 0<n)) _ ⟨0,rfl,⟨rfl,rfl,rfl,trivial⟩,rfl,(by omega),(by intro j hj;omega)⟩ ?_));rintro e6 f3 H ⟨k,rfl,bk,rfl,h1,h2⟩ dk;refine ah _ bk (fun _=>?_);clear bk;refine zf 2 ?_;obtain⟨e0,bl⟩:=Sv.view (SR.sv hl hs);have g5:=fI (bl k);refine wR 1 [(8,.o (iI (l.getD k 0)))] 6 17 [] [(17,(.bool ((decide ((k:Int)<(l.length:Int)))&&(decide ((l.getD k 0)<n)))))] (vA (fun(V:(decide ((k:Int)<(l.length:Int)))=true)=>(Sv.ix (j:=(k:Int)) (SR.sv hl hs) (by(try simp only[BS]at V);omega) (by(try simp only[BS]at V);omega))) (vA (fun(V:(decide ((k:Int)<(l.length:Int)))=true)=>(ql 3 0 (vI (bl k) (by(try simp only[BS]at V);omega)) rfl rfl)) trivial)) rfl fun _=>zi 2 6 (fun c7=>?_) fun c7=>?_
 ·try simp only[BS]at c7
  refine wU 2 [] 18 19 [5] [(5,(iI ((k:Int)+1)))] (vi (n:=(k:Int)+1)) rfl fun _=>dk _ _ _ ?_ ⟨k+1,rfl,⟨rfl,rfl,rfl,trivial⟩,rfl,(by omega),(kR h2 (by omega))⟩
  omega
 try simp only[BS]at c7
 have hk:=pre_eq h1 h2 (by omega);obtain⟨e1,bz⟩:=Sv.view (SR.sv hl hs);have e2:=fI (bz k);refine wR 1 [(8,.o (iI (l.getD k 0)))] 20 31 [] [(31,(.bool ((decide ((k:Int)<(l.length:Int)))&&((l.getD k 0)==n))))] (vA (fun(V:(decide ((k:Int)<(l.length:Int)))=true)=>(Sv.ix (j:=(k:Int)) (SR.sv hl hs) (by(try simp only[BS]at V);omega) (by(try simp only[BS]at V);omega))) (vA (fun(V:(decide ((k:Int)<(l.length:Int)))=true)=>(ql 3 0 (vI (bz k) (by(try simp only[BS]at V);omega)) rfl rfl)) trivial)) rfl fun _=>zi 1 2 (fun ax=>?_) fun ax=>?_
 ·try simp only[BS]at ax
  refine wT 1 [] 4 4 [32] [(4,(sL ai l.length ao))] rfl fun _=>aj ⟨.inr rfl,_,rfl,ai,ao,l,_,fR,(HS.forget hs),rfl,hl,(kU hk (by omega) (by omega))⟩
 try simp only[BS]at ax
 refine aI rfl (zfm (sL ai l.length ao) (zfm (iI (k:Int)) (bC (id:= .q fun b=>F b≠none) (rs_cutt (α:=Int) (j:=k) hl hs.log0 rfl rfl rfl (optN (by omega)) (by omega)) rfl rfl (by rintro _ _ _ ⟨_,_,_,hH,_⟩;exact did_q rfl (SR.q hl)) (kb rfl) ?_)));rintro _ _ _ ⟨em,e3,rfl,Z,b6⟩ cc a4;simp only at Z;replace Z:=Z.symm;subst Z;have a1:=HS.lg hs.log0 hs a4;generalize ({{H with log:=[]} with log:=cc}:Heap)=ds at a1⊢;have U:=HS.snoc a1;have U:HS _ _ _ [[]] _:=U;refine bC (id:= .x []) (aZ (α:=Int) (q:=0) (OS.nil:OS F (sL none 0 0) ([]:List Int) []) U.log0 rfl rfl rfl (SR.sv b6 U.log0) rfl rfl rfl rfl rfl rfl rfl (by simp only[a05,a0k,a0w,a09,a0e];omega)) rfl rfl (by rintro _ _ av ⟨bb,b0,rfl,ag,_,hwr⟩;exact bt rfl rfl (Wr.did hwr)) (kb rfl) ?_;rintro _ c4 av ⟨bb,b0,rfl,ag,N,_⟩ ch a5;replace N:=HS.lg N U a5;generalize ({c4 with log:=ch}:Heap)=dt at N⊢;have N:HS _ _ _ [av] _:=N;have ag:OS F (sL bb (l.take k).length b0) (l.take k) av:=ag;refine zfm (iI n) (bC (id:= .a) (aT (α:=Int) (ps:=[(0,(iI n))]) (cells:=[(iI n)]) ([n]:List Int) N.log0 rfl rfl rfl (by kernel_rfl) ⟨[(iI n)],[],rfl,⟨rfl,by omega⟩,rfl⟩ rfl) rfl rfl (fun _ _ _ _=>eo rfl rfl rfl) (kb rfl) ?_);rintro _ c5 dn ⟨et,e4,rfl,b5,A,_⟩ ci a6;replace A:=HS.lg A N a6;generalize ({c5 with log:=ci}:Heap)=dv at A⊢;have A:HS _ _ _ [_,dn] _:=A;refine bC (id:= .x (av.map Prod.fst)) (aZ (α:=Int) (q:=0) ag A.log0 rfl rfl rfl (OS.sv b5 A.log0 (i:=1) rfl) rfl rfl rfl rfl rfl rfl rfl (by simp only[a05,a0k,a0w,a09,a0e];omega)) rfl rfl (by rintro _ _ a3 ⟨c9,dl,rfl,ay,_,hwr⟩;exact bt rfl rfl (Wr.did hwr)) (kb rfl) ?_;rintro _ c6 a3 ⟨c9,dl,rfl,ay,E,_⟩ co a7;replace E:=HS.lg E A a7;generalize ({c6 with log:=co}:Heap)=b2 at E⊢;have E:HS _ _ _ [a3,_] _:=E;refine zfm (sL ai l.length ao) (zfm (iI (k:Int)) (bC (id:= .q fun b=>F b≠none) (rs_cutd (α:=Int) (i:=k) hl E.log0 rfl rfl rfl (optN (by omega)) (by omega)) rfl rfl (by rintro _ _ _ ⟨_,_,_,hH,_⟩;exact did_q rfl (SR.q hl)) (⟨.inl rfl,⟨.inl rfl,⟨.inr (HS.apq A (i:=0) rfl),⟨.inr trivial,⟨.inr trivial,⟨.inr (fun b hb=>absurd hb a0c),⟨.inr trivial,⟨.inr trivial,⟨.inr trivial,trivial⟩⟩⟩⟩⟩⟩⟩⟩⟩) ?_));rintro _ _ _ ⟨ez,e5,rfl,ad,b7⟩ c0 a8;simp only at ad;replace ad:=ad.symm;subst ad;have al:=HS.lg E.log0 E a8;generalize ({{b2 with log:=[]} with log:=c0}:Heap)=d1 at al⊢;refine bC (id:= .x (a3.map Prod.fst)) (aZ (α:=Int) (q:=0) ay al.log0 rfl rfl rfl (SR.sv b7 al.log0) rfl rfl rfl rfl rfl rfl rfl (by simp only[a05,a0k,a0w,a09,a0e];omega)) rfl rfl (by rintro _ _ b1 ⟨aw,a2,rfl,a0,_,hwr⟩;exact bt rfl rfl (Wr.did hwr)) (kb rfl) ?_;rintro _ c8 b1 ⟨aw,a2,rfl,a0,T,_⟩ c3 a9;replace T:=HS.lg T al a9;generalize ({c8 with log:=c3}:Heap)=d2 at T⊢;have T:HS _ _ _ [b1,_] _:=T;refine fa (sL aw (((l.take k)++([n]:List Int))++(l.drop k)).length a2) rfl rfl rfl (bf (zf 1 ?_));obtain⟨ea,b4,an,b9,d4⟩:=OS.frz a0 T (i:=0) rfl;have an:HS _ _ _ [[],_] _:=an;refine aj ⟨.inr rfl,_,rfl,aw,a2,((l.take k)++([n]:List Int))++(l.drop k),_,(b4),(HS.forget an),rfl,b9,(ins_new hk (by omega))⟩
theorem fu{ag:Option Addr}{ai:Nat}(l:List Int)(n:Int)(hs:HS (.of H []) F H [] R)(hl:SR F (sL ag l.length ai) l)(hn:in64 n)(hT:TB 37 tabC F)(an:l.length<=1073741824):kKt ex 28 [(sL ag l.length ai),(iI n)] H fun v H'=> ∃(r:Bool),H'=H/\v= .bool r/\r=im l n:=by
 refine aD Tryd.func28 rfl rfl (zf 1 (wT 3 [] 4 4 [] [(4,(.bool false))] rfl fun _=>wT 2 [] 1 0 [5] [(5,(iI 0))] rfl fun _=>ae (fun(mm:Nat) f H'=> ∃(k:Nat),H'=H/\ap f [(0,(sL ag l.length ai)),(1,(iI n)),(5,(iI (k:Int)))]/\mm=l.length-k/\(k<=l.length)/\(∀j,j<k->¬l.getD j 0=n)) _ ⟨0,rfl,⟨rfl,rfl,rfl,trivial⟩,rfl,(by omega),(by intro j hj;omega)⟩ ?_));rintro ad f3 H ⟨k,rfl,A,rfl,h1,T⟩ U;refine ah _ A (fun _=>?_);clear A;refine aA 2 rfl (wT 1 [] 6 9 [] [(9,(.bool (decide ((k:Int)<(l.length:Int)))))] rfl fun _=>zd 4 5 (fun V=>?_) fun V=>?_)
 ·obtain⟨Z,E⟩:=Sv.view (SR.sv hl hs);have g7:=fI (E k);refine wR 1 [(3,.o (iI (l.getD k 0)))] 12 17 [] [(17,(.bool ((l.getD k 0)==n)))] (vA (Sv.ix (j:=(k:Int)) (SR.sv hl hs)) (vA (ql 3 0 (vI (E k)) rfl rfl) trivial)) rfl fun _=>zi 1 2 (fun N=>?_) fun N=>?_
  ·try simp only[BS]at N
   refine wT 1 [] 4 4 [] [(4,(.bool true))] rfl fun _=>aj ⟨.inr rfl,_,rfl,true,rfl,rfl,(con_yes (k:=k) (by omega) (by omega))⟩
  try simp only[BS]at N
  refine wU 1 [] 10 11 [5] [(5,(iI ((k:Int)+1)))] (vi (n:=(k:Int)+1)) rfl fun _=>U _ _ _ ?_ ⟨k+1,rfl,⟨rfl,rfl,rfl,trivial⟩,rfl,(by omega),(kR T (by omega))⟩
  omega
 refine wT 1 [] 4 4 [] [(4,(.bool false))] rfl fun _=>aj ⟨.inr rfl,_,rfl,false,rfl,rfl,(con_no T (by omega))⟩
theorem ei{A:Option Addr}{E:Nat}(l:List Int)(n:Int)(hs:HS (.of H []) F H [] R)(U:SR F (sL A l.length E) l)(V:in64 n)(T:TB 37 tabC F)(N:l.length<=1073741824):kKt ex 28 [(sL A l.length E),(iI n)] H fun v H'=>v=(.bool (im l n))/\H'=H:=
 cq (fu ex l n hs U V T N) (by rintro _ _ ⟨_,rfl,rfl,rfl⟩;exact⟨rfl,rfl⟩)
theorem sameIntsR_c{ad:Option Addr}{ao:Nat}(a:List Int){ai:Option Addr}{aw:Nat}(b:List Int)(hs:HS (.of H []) F H [] R)(ha:SR F (sL ad a.length ao) a)(hb:SR F (sL ai b.length aw) b)(hT:TB 37 tabC F)(a1:a.length<=1073741824):kKt ex 48 [(sL ad a.length ao),(sL ai b.length aw)] H fun v H'=> ∃(r:Bool),H'=H/\v= .bool r/\r=decide (a=b):=by
 refine aD Tryd.func48 rfl rfl (aA 1 rfl (wT 3 [] 4 4 [] [(4,(.bool false))] rfl fun _=>wT 1 [] 6 10 [] [(10,(.bool ((a.length:Int) !=(b.length:Int))))] rfl fun _=>zi 1 3 (fun U=>?_) fun U=>?_))
 ·try simp only[BS]at U
  refine wT 1 [] 4 4 [] [(4,(.bool false))] rfl fun _=>aj ⟨.inr rfl,_,rfl,false,rfl,rfl,(same_len (by omega))⟩
 try simp only[BS]at U
 refine wT 2 [] 1 0 [5] [(5,(iI 0))] rfl fun _=>ae (fun(mm:Nat) f H'=> ∃(k:Nat),H'=H/\ap f [(0,(sL ad a.length ao)),(1,(sL ai b.length aw)),(5,(iI (k:Int)))]/\mm=a.length-k/\(k<=a.length)/\(∀j,j<k->a.getD j 0=b.getD j 0)) _ ⟨0,rfl,⟨rfl,rfl,rfl,trivial⟩,rfl,(by omega),(by intro j hj;omega)⟩ ?_
 rintro av f6 H ⟨k,rfl,N,rfl,h1,V⟩ Z;refine ah _ N (fun _=>?_);clear N;refine aA 2 rfl (wT 1 [] 11 14 [] [(14,(.bool (decide ((k:Int)<(a.length:Int)))))] rfl fun _=>zd 4 5 (fun c8=>?_) fun c8=>?_)
 ·obtain⟨al,T⟩:=Sv.view (SR.sv ha hs);have an:=fI (T k);obtain⟨ag,E⟩:=Sv.view (SR.sv hb hs);have ar:=fI (E k);refine wRD 1 [(3,.o (iI (a.getD k 0))),(7,.o (iI (b.getD k 0)))] 17 25 [] [(25,(.bool ((a.getD k 0) !=(b.getD k 0))))] (vA (Sv.ix (j:=(k:Int)) (SR.sv ha hs)) (vA (ql 3 0 (hc0 (vI (T k))) rfl rfl) (vA (Sv.ix (j:=(k:Int)) (SR.sv hb hs)) (vA (ql 3 0 (hc0 (vI (E k))) rfl rfl) trivial)))) rfl rfl fun _=>zi 1 2 (fun A=>?_) fun A=>?_
  ·try simp only[BS]at A
   refine wT 1 [] 4 4 [] [(4,(.bool false))] rfl fun _=>aj ⟨.inr rfl,_,rfl,false,rfl,rfl,(same_no (k:=k) (by omega))⟩
  try simp only[BS]at A
  refine wU 1 [] 15 16 [5] [(5,(iI ((k:Int)+1)))] (vi (n:=(k:Int)+1)) rfl fun _=>Z _ _ _ ?_ ⟨k+1,rfl,⟨rfl,rfl,rfl,trivial⟩,rfl,(by omega),(kR V (by omega))⟩
  omega
 refine wT 1 [] 4 4 [] [(4,(.bool true))] rfl fun _=>aj ⟨.inr rfl,_,rfl,true,rfl,rfl,(same_yes (by omega) V (by omega))⟩
theorem kM{A:Option Addr}{N:Nat}(a:List Int){E:Option Addr}{T:Nat}(b:List Int)(hs:HS (.of H []) F H [] R)(Z:SR F (sL A a.length N) a)(hb:SR F (sL E b.length T) b)(V:TB 37 tabC F)(U:a.length<=1073741824):kKt ex 48 [(sL A a.length N),(sL E b.length T)] H fun v H'=>v=(.bool (decide (a=b)))/\H'=H:=
 cq (sameIntsR_c ex a b hs Z hb V U) (by rintro _ _ ⟨_,rfl,rfl,rfl⟩;exact⟨rfl,rfl⟩)
end Go.Proofs.YtknafdcgpaejlaaDoor.m6
