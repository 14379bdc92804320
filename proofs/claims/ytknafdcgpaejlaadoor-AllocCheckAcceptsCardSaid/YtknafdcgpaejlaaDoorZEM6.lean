/-
 Sets of registers as ascending lists, comparisons of results: the reference, by symbolic runs. No condition but bounds on lengths.
-/
import Derived.Test.YtknafdcgpaejlaaDoorZEM5
noncomputable section
namespace Go.Proofs.YtknafdcgpaejlaaDoor.m6
open Go.R
set_option maxRecDepth 10000
set_option linter.unusedVariables false
set_option linter.unusedSimpArgs false
variable (ex:FuncId) {F:Fz} {H:Heap} {R:List Fp}
open m1 m2 m3 m4 m5
def iJ(l:List Int)(n:Int):Nat:=(l.takeWhile (fun x=>decide (x<n))).length
def dp(l:List Int)(n:Int):List Int:=if iJ l n<l.length/\l.getD (iJ l n) 0=n then l else l.take (iJ l n)++[n]++l.drop (iJ l n)
theorem pre_eq: ∀{l:List Int} {n:Int} {k:Nat},k<=l.length->(∀j,j<k->l.getD j 0<n)->(k<l.length->¬l.getD k 0<n)->k=iJ l n
 | [],n,k,hk,_,_=>by simp at hk;subst hk;rfl
 |x::l,n,0,_,_,h=>by have A: ¬x<n:=h (by simp);unfold iJ;rw[List.takeWhile_cons_of_neg (by simpa using A)];rfl
 |x::l,n,k+1,hk,hl,h=>by have A:x<n:=hl 0 (by omega);have:=pre_eq (l:=l) (n:=n) (k:=k) (by simpa using hk) (fun j hj=>hl (j+1) (by omega)) (fun hj=>h (by simpa using hj));unfold iJ at this⊢;rw[List.takeWhile_cons_of_pos (by simpa using A),a0a,←this]
theorem lD{l:List Int}{n:Int}{k:Nat}(hk:k=iJ l n)(h:k<l.length)(A:l.getD k 0=n):l=dp l n:=by subst hk;unfold dp;rw[if_pos ⟨h,A⟩]
theorem ins_new{l:List Int}{n:Int}{k:Nat}(hk:k=iJ l n)(h: ¬(k<l.length/\l.getD k 0=n)):l.take k++[n]++l.drop k=dp l n:=by subst hk;unfold dp;rw[if_neg h]
theorem ins_len{l:List Int}{n:Int}:(dp l n).length<=l.length+1:=by
 unfold dp;split
 ·omega
 simp only[a05,a0q,a0H,a0a,a0i];omega
def cH(l:List Int)(n:Int):Bool:=l.any (fun x=>decide (x=n))
theorem con_no{l:List Int}{n:Int}{k:Nat}(h: ∀j,j<k->¬l.getD j 0=n)(hk:l.length<=k):false=cH l n:=by symm;unfold cH;rw[List.any_eq_false];intro x hx;obtain⟨j,hj,rfl⟩:=a0A.1 hx;have:=h j (by omega);rw[a01,a04 hj]at this;simpa using this
theorem con_yes{l:List Int}{n:Int}{k:Nat}(hk:k<l.length)(h:l.getD k 0=n):true=cH l n:=by symm;unfold cH;rw[List.any_eq_true];refine⟨l.getD k 0,?_,by simpa using h⟩;rw[a01,a04 hk];exact a1w hk
theorem lB{p:Nat->Prop}{k:Nat}(h: ∀j,j<k->p j)(c:p k): ∀j,j<k+1->p j:=fun j hj=>by
 rcases Nat.lt_succ_iff_lt_or_eq.1 hj with A|rfl
 ·exact h j A
 exact c
theorem dj{a_l:Option Addr}{k_l:Nat}(l:List Int)(n:Int)(hs:HS (.of H []) F H [] R)(hl:SR F (sL a_l l.length k_l) l)(hn:in64 n)(hT:TB 37 tabC F)(hlen:l.length<=1073741824):kKt ex 56 [(sL a_l l.length k_l),(iI n)] H fun v H'=> ∃(ar:Option Addr) (kr:Nat) (r:List Int) (F':Fz),Fz.le F F'/\HS (.of H []) F' H' [] R/\v=sL ar r.length kr/\SR F' (sL ar r.length kr) r/\r=dp l n:=by
 refine aE Tryd.func56 rfl rfl (zf 1 (wT 2 [] 4 4 [] [(4,(sL none 0 0))] rfl fun _=>wT 3 [] 1 0 [5] [(5,(iI 0))] rfl fun _=>ah (fun(mm:Nat) f H'=> ∃(k:Nat),H'=H/\az f [(0,(sL a_l l.length k_l)),(1,(iI n)),(5,(iI (k:Int)))]/\mm=l.length-k/\(k<=l.length)/\(∀j,j<k->l.getD j 0<n)) _ ⟨0,rfl,⟨rfl,rfl,rfl,trivial⟩,rfl,(by omega),(by intro j hj;omega)⟩ ?_));rintro e9 f3 H ⟨k,rfl,bk,rfl,h1,h2⟩ dk;refine ak _ bk (fun _=>?_);clear bk;refine zf 2 ?_;obtain⟨e1,bl⟩:=Sv.view (SR.sv hl hs);have g5:=fI (bl k);refine wR 1 [(8,.o (iI (l.getD k 0)))] 6 17 [] [(17,(.bool ((decide ((k:Int)<(l.length:Int)))&&(decide ((l.getD k 0)<n)))))] (vA (fun(V:(decide ((k:Int)<(l.length:Int)))=true)=>(Sv.ix (j:=(k:Int)) (SR.sv hl hs) (by(try simp only[BS]at V);omega) (by(try simp only[BS]at V);omega))) (vA (fun(V:(decide ((k:Int)<(l.length:Int)))=true)=>(ql 3 0 (vI (bl k) (by(try simp only[BS]at V);omega)) rfl rfl)) trivial)) rfl fun _=>aq 2 6 (v:=((decide ((k:Int)<(l.length:Int)))&&(decide ((l.getD k 0)<n)))) rfl rfl rfl rfl (fun c7=>?_) (fun c7=>?_)
 ·try simp only[BS]at c7
  refine wU 2 [] 18 19 [5] [(5,(iI ((k:Int)+1)))] (vi (n:=(k:Int)+1)) rfl fun _=>dk _ _ _ ?_ ⟨k+1,rfl,⟨rfl,rfl,rfl,trivial⟩,rfl,(by omega),(lB h2 (by omega))⟩
  omega
 try simp only[BS]at c7
 have hk:=pre_eq h1 h2 (by omega);obtain⟨e2,bz⟩:=Sv.view (SR.sv hl hs);have e3:=fI (bz k);refine wR 1 [(8,.o (iI (l.getD k 0)))] 20 31 [] [(31,(.bool ((decide ((k:Int)<(l.length:Int)))&&((l.getD k 0)==n))))] (vA (fun(V:(decide ((k:Int)<(l.length:Int)))=true)=>(Sv.ix (j:=(k:Int)) (SR.sv hl hs) (by(try simp only[BS]at V);omega) (by(try simp only[BS]at V);omega))) (vA (fun(V:(decide ((k:Int)<(l.length:Int)))=true)=>(ql 3 0 (vI (bz k) (by(try simp only[BS]at V);omega)) rfl rfl)) trivial)) rfl fun _=>aq 1 2 (v:=((decide ((k:Int)<(l.length:Int)))&&((l.getD k 0)==n))) rfl rfl rfl rfl (fun ax=>?_) (fun ax=>?_)
 ·try simp only[BS]at ax
  refine wT 1 [] 4 4 [32] [(4,(sL a_l l.length k_l))] rfl fun _=>aj ⟨.inr rfl,_,rfl,a_l,k_l,l,_,fR,(HS.forget hs),rfl,hl,(lD hk (by omega) (by omega))⟩
 try simp only[BS]at ax
 refine aO rfl (zfm (sL a_l l.length k_l) (zfm (iI (k:Int)) (bV (id:= .q fun b=>F b≠none) (rs_cutt (α:=Int) (j:=k) hl hs.log0 rfl rfl rfl (optN (by omega)) (by omega)) rfl rfl (by rintro _ _ _ ⟨_,_,_,hH,_⟩;exact did_q rfl (SR.q hl)) (kb rfl) ?_)));rintro _ _ _ ⟨ey,e4,rfl,Z,b6⟩ cc a4;simp only at Z;replace Z:=Z.symm;subst Z;have a1:=HS.lg hs.log0 hs a4;generalize ({{H with log:=[]} with log:=cc}:Heap)=ds at a1⊢;have U:=HS.snoc a1;have U:HS _ _ _ [[]] _:=U;refine bV (id:= .x []) (bF (α:=Int) (q:=0) (OS.nil:OS F (sL none 0 0) ([]:List Int) []) U.log0 rfl rfl rfl (SR.sv b6 U.log0) rfl rfl rfl rfl rfl rfl rfl (by simp only[a05,a0q,a0H,a0a,a0i];omega)) rfl rfl (by rintro _ _ av ⟨bb,b0,rfl,ag,_,hwr⟩;exact bR rfl rfl (Wr.did hwr)) (kb rfl) ?_;rintro _ c4 av ⟨bb,b0,rfl,ag,N,_⟩ ch a5;replace N:=HS.lg N U a5;generalize ({c4 with log:=ch}:Heap)=dt at N⊢;have N:HS _ _ _ [av] _:=N;have ag:OS F (sL bb (l.take k).length b0) (l.take k) av:=ag;refine zfm (iI n) (bV (id:= .a) (bm (α:=Int) (ps:=[(0,(iI n))]) (cells:=[(iI n)]) ([n]:List Int) N.log0 rfl rfl rfl (by kernel_rfl) ⟨[(iI n)],[],rfl,⟨rfl,by omega⟩,rfl⟩ rfl) rfl rfl (fun _ _ _ _=>gy rfl rfl rfl) (kb rfl) ?_);rintro _ c5 dn ⟨ez,e5,rfl,b5,A,_⟩ ci a6;replace A:=HS.lg A N a6;generalize ({c5 with log:=ci}:Heap)=dv at A⊢;have A:HS _ _ _ [_,dn] _:=A;refine bV (id:= .x (av.map Prod.fst)) (bF (α:=Int) (q:=0) ag A.log0 rfl rfl rfl (OS.sv b5 A.log0 (i:=1) rfl) rfl rfl rfl rfl rfl rfl rfl (by simp only[a05,a0q,a0H,a0a,a0i];omega)) rfl rfl (by rintro _ _ a3 ⟨c9,dl,rfl,ay,_,hwr⟩;exact bR rfl rfl (Wr.did hwr)) (kb rfl) ?_;rintro _ c6 a3 ⟨c9,dl,rfl,ay,E,_⟩ co a7;replace E:=HS.lg E A a7;generalize ({c6 with log:=co}:Heap)=b2 at E⊢;have E:HS _ _ _ [a3,_] _:=E;refine zfm (sL a_l l.length k_l) (zfm (iI (k:Int)) (bV (id:= .q fun b=>F b≠none) (rs_cutd (α:=Int) (i:=k) hl E.log0 rfl rfl rfl (optN (by omega)) (by omega)) rfl rfl (by rintro _ _ _ ⟨_,_,_,hH,_⟩;exact did_q rfl (SR.q hl)) (⟨.inl rfl,⟨.inl rfl,⟨.inr (HS.apq A (i:=0) rfl),⟨.inr trivial,⟨.inr trivial,⟨.inr (fun b hb=>absurd hb a0e),⟨.inr trivial,⟨.inr trivial,⟨.inr trivial,trivial⟩⟩⟩⟩⟩⟩⟩⟩⟩) ?_));rintro _ _ _ ⟨e0,e6,rfl,ad,b7⟩ c0 a8;simp only at ad;replace ad:=ad.symm;subst ad;have al:=HS.lg E.log0 E a8;generalize ({{b2 with log:=[]} with log:=c0}:Heap)=d1 at al⊢;refine bV (id:= .x (a3.map Prod.fst)) (bF (α:=Int) (q:=0) ay al.log0 rfl rfl rfl (SR.sv b7 al.log0) rfl rfl rfl rfl rfl rfl rfl (by simp only[a05,a0q,a0H,a0a,a0i];omega)) rfl rfl (by rintro _ _ b1 ⟨aw,a2,rfl,a0,_,hwr⟩;exact bR rfl rfl (Wr.did hwr)) (kb rfl) ?_;rintro _ c8 b1 ⟨aw,a2,rfl,a0,T,_⟩ c3 a9;replace T:=HS.lg T al a9;generalize ({c8 with log:=c3}:Heap)=d2 at T⊢;have T:HS _ _ _ [b1,_] _:=T;refine fa (sL aw (((l.take k)++([n]:List Int))++(l.drop k)).length a2) rfl rfl rfl (br (zf 1 ?_));obtain⟨et,b4,an,b9,em⟩:=OS.frz a0 T (i:=0) rfl;have an:HS _ _ _ [[],_] _:=an;refine aj ⟨.inr rfl,_,rfl,aw,a2,((l.take k)++([n]:List Int))++(l.drop k),_,(b4),(HS.forget an),rfl,b9,(ins_new hk (by omega))⟩
theorem fS{a_l:Option Addr}{k_l:Nat}(l:List Int)(n:Int)(hs:HS (.of H []) F H [] R)(hl:SR F (sL a_l l.length k_l) l)(hn:in64 n)(hT:TB 37 tabC F)(hlen:l.length<=1073741824):kKt ex 28 [(sL a_l l.length k_l),(iI n)] H fun v H'=> ∃(r:Bool),H'=H/\v= .bool r/\r=cH l n:=by
 refine aE Tryd.func28 rfl rfl (zf 1 (wT 3 [] 4 4 [] [(4,(.bool false))] rfl fun _=>wT 2 [] 1 0 [5] [(5,(iI 0))] rfl fun _=>ah (fun(mm:Nat) f H'=> ∃(k:Nat),H'=H/\az f [(0,(sL a_l l.length k_l)),(1,(iI n)),(5,(iI (k:Int)))]/\mm=l.length-k/\(k<=l.length)/\(∀j,j<k->¬l.getD j 0=n)) _ ⟨0,rfl,⟨rfl,rfl,rfl,trivial⟩,rfl,(by omega),(by intro j hj;omega)⟩ ?_));rintro ad f3 H ⟨k,rfl,A,rfl,h1,U⟩ V;refine ak _ A (fun _=>?_);clear A;refine zf 2 (wT 1 [] 6 9 [] [(9,(.bool (decide ((k:Int)<(l.length:Int)))))] rfl fun _=>aq 4 5 (v:=(decide ((k:Int)<(l.length:Int)))) rfl rfl rfl rfl (fun N=>?_) (fun N=>?_))
 ·try simp only[BS]at N
  obtain⟨Z,E⟩:=Sv.view (SR.sv hl hs);have g7:=fI (E k);refine wR 1 [(3,.o (iI (l.getD k 0)))] 12 17 [] [(17,(.bool ((l.getD k 0)==n)))] (vA (Sv.ix (j:=(k:Int)) (SR.sv hl hs)) (vA (ql 3 0 (vI (E k)) rfl rfl) trivial)) rfl fun _=>aq 1 2 (v:=((l.getD k 0)==n)) rfl rfl rfl rfl (fun T=>?_) (fun T=>?_)
  ·try simp only[BS]at T
   refine wT 1 [] 4 4 [] [(4,(.bool true))] rfl fun _=>aj ⟨.inr rfl,_,rfl,true,rfl,rfl,(con_yes (k:=k) (by omega) (by omega))⟩
  try simp only[BS]at T
  refine wU 1 [] 10 11 [5] [(5,(iI ((k:Int)+1)))] (vi (n:=(k:Int)+1)) rfl fun _=>V _ _ _ ?_ ⟨k+1,rfl,⟨rfl,rfl,rfl,trivial⟩,rfl,(by omega),(lB U (by omega))⟩
  omega
 try simp only[BS]at N
 refine wT 1 [] 4 4 [] [(4,(.bool false))] rfl fun _=>aj ⟨.inr rfl,_,rfl,false,rfl,rfl,(con_no U (by omega))⟩
theorem eo{a_l:Option Addr}{k_l:Nat}(l:List Int)(n:Int)(hs:HS (.of H []) F H [] R)(hl:SR F (sL a_l l.length k_l) l)(hn:in64 n)(hT:TB 37 tabC F)(hlen:l.length<=1073741824):kKt ex 28 [(sL a_l l.length k_l),(iI n)] H fun v H'=>v=(.bool (cH l n))/\H'=H:=
 cq (fS ex l n hs hl hn hT hlen) (by rintro _ _ ⟨_,rfl,rfl,rfl⟩;exact⟨rfl,rfl⟩)
end Go.Proofs.YtknafdcgpaejlaaDoor.m6
