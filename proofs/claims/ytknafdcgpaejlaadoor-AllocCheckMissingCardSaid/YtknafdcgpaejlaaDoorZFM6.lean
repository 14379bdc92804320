/-
Sets of registers as ascending lists, comparisons of results: the reference. No condition but bounds on lengths.
-/
import Derived.Test.YtknafdcgpaejlaaDoorZFM5
noncomputable section
namespace Go.Proofs.YtknafdcgpaejlaaDoor.m6
open Go.R
set_option maxRecDepth 10000
set_option linter.unusedVariables false
set_option linter.unusedSimpArgs false
variable (ex:FuncId) {F:Fz} {H:Heap} {R:List Fp}
open m1 m2 m3 m4 m5
def iH(l:List Int)(n:Int):Nat:=(l.takeWhile (fun x=>decide (x<n))).length
def di(l:List Int)(n:Int):List Int:=if iH l n<l.length/\l.getD (iH l n) 0=n then l else l.take (iH l n)++[n]++l.drop (iH l n)
theorem pre_eq: ∀{l:List Int} {n:Int} {k:Nat},k<=l.length->(∀j,j<k->l.getD j 0<n)->(k<l.length->¬l.getD k 0<n)->k=iH l n
 | [],n,k,hk,_,_=>by simp at hk;subst hk;rfl
 |x::l,n,0,_,_,h=>by have A: ¬x<n:=h (by simp);unfold iH;rw[List.takeWhile_cons_of_neg (by simpa using A)];rfl
 |x::l,n,k+1,hk,hl,h=>by have A:x<n:=hl 0 (by omega);have:=pre_eq (l:=l) (n:=n) (k:=k) (by simpa using hk) (fun j z=>hl (j+1) (by omega)) (fun z=>h (by simpa using z));unfold iH at this⊢;rw[List.takeWhile_cons_of_pos (by simpa using A),a08,←this]
theorem lF{l:List Int}{n:Int}{k:Nat}(z:k=iH l n)(h:k<l.length)(A:l.getD k 0=n):l=di l n:=by subst z;unfold di;rw[if_pos ⟨h,A⟩]
theorem ins_new{l:List Int}{n:Int}{k:Nat}(z:k=iH l n)(h: ¬(k<l.length/\l.getD k 0=n)):l.take k++[n]++l.drop k=di l n:=by subst z;unfold di;rw[if_neg h]
theorem ins_len{l:List Int}{n:Int}:(di l n).length<=l.length+1:=by
 unfold di;split
 ·omega
 simp only[a04,a0j,a0n,a08,a0f];omega
def cG(l:List Int)(n:Int):Bool:=l.any (fun x=>decide (x=n))
theorem con_no{l:List Int}{n:Int}{k:Nat}(h: ∀j,j<k->¬l.getD j 0=n)(E:l.length<=k):false=cG l n:=by symm;unfold cG;rw[List.any_eq_false];intro x A;obtain⟨j,z,rfl⟩:=a0B.1 A;have:=h j (by omega);rw[a01,a05 z]at this;simpa using this
theorem con_yes{l:List Int}{n:Int}{k:Nat}(z:k<l.length)(h:l.getD k 0=n):true=cG l n:=by symm;unfold cG;rw[List.any_eq_true];refine⟨l.getD k 0,?_,by simpa using h⟩;rw[a01,a05 z];exact a1w z
theorem lD{p:Nat->Prop}{k:Nat}(h: ∀j,j<k->p j)(c:p k): ∀j,j<k+1->p j:=fun j z=>by
 rcases Nat.lt_succ_iff_lt_or_eq.1 z with A|rfl
 ·exact h j A
 exact c
theorem dg{z:Option Addr}{ai:Nat}(l:List Int)(n:Int)(hs:HS (.of H []) F H [] R)(hl:SR F (sL z l.length ai) l)(hn:in64 n)(hT:TB 37 tabC F)(f7:l.length<=1073741824):kKt ex 56 [(sL z l.length ai),(iI n)] H fun v H'=> ∃(ar:Option Addr) (kr:Nat) (r:List Int) (F':Fz),Fz.le F F'/\HS (.of H []) F' H' [] R/\v=sL ar r.length kr/\SR F' (sL ar r.length kr) r/\r=di l n:=by
 refine au Tryd.func56 rfl rfl (zf 1 (wT 2 [] 4 4 [] [(4,(sL none 0 0))] rfl fun _=>wT 3 [] 1 0 [5] [(5,(iI 0))] rfl fun _=>ah (fun(mm:Nat) f H'=> ∃(k:Nat),H'=H/\am f [(0,(sL z l.length ai)),(1,(iI n)),(5,(iI (k:Int)))]/\mm=l.length-k/\(k<=l.length)/\(∀j,j<k->l.getD j 0<n)) _ ⟨0,rfl,⟨rfl,rfl,rfl,trivial⟩,rfl,(by omega),(by intro j hj;omega)⟩ ?_));rintro e6 f3 H ⟨k,rfl,be,rfl,h1,h2⟩ dd;refine ak _ be (fun _=>?_);clear be;refine zf 2 ?_;obtain⟨e0,bk⟩:=Sv.view (SR.sv hl hs);have g5:=fI (bk k);refine wR 1 [(8,.o (iI (l.getD k 0)))] 6 17 [] [(17,(.bool ((decide ((k:Int)<(l.length:Int)))&&(decide ((l.getD k 0)<n)))))] (vA (fun(V:(decide ((k:Int)<(l.length:Int)))=true)=>(Sv.ix (j:=(k:Int)) (SR.sv hl hs) (by(try simp only[BS]at V);omega) (by(try simp only[BS]at V);omega))) (vA (fun(V:(decide ((k:Int)<(l.length:Int)))=true)=>(ql 3 0 (vI (bk k) (by(try simp only[BS]at V);omega)) rfl rfl)) trivial)) rfl fun _=>zi 2 6 (fun c7=>?_) fun c7=>?_
 ·try simp only[BS]at c7
  refine wU 2 [] 18 19 [5] [(5,(iI ((k:Int)+1)))] (vi (n:=(k:Int)+1)) rfl fun _=>dd _ _ _ ?_ ⟨k+1,rfl,⟨rfl,rfl,rfl,trivial⟩,rfl,(by omega),(lD h2 (by omega))⟩
  omega
 try simp only[BS]at c7
 have hk:=pre_eq h1 h2 (by omega);obtain⟨e1,bl⟩:=Sv.view (SR.sv hl hs);have e2:=fI (bl k);refine wR 1 [(8,.o (iI (l.getD k 0)))] 20 31 [] [(31,(.bool ((decide ((k:Int)<(l.length:Int)))&&((l.getD k 0)==n))))] (vA (fun(V:(decide ((k:Int)<(l.length:Int)))=true)=>(Sv.ix (j:=(k:Int)) (SR.sv hl hs) (by(try simp only[BS]at V);omega) (by(try simp only[BS]at V);omega))) (vA (fun(V:(decide ((k:Int)<(l.length:Int)))=true)=>(ql 3 0 (vI (bl k) (by(try simp only[BS]at V);omega)) rfl rfl)) trivial)) rfl fun _=>zi 1 2 (fun ax=>?_) fun ax=>?_
 ·try simp only[BS]at ax
  refine wT 1 [] 4 4 [32] [(4,(sL z l.length ai))] rfl fun _=>aj ⟨.inr rfl,_,rfl,z,ai,l,_,fR,(HS.forget hs),rfl,hl,(lF hk (by omega) (by omega))⟩
 try simp only[BS]at ax
 refine aI rfl (zfm (sL z l.length ai) (zfm (iI (k:Int)) (bG (id:= .q fun b=>F b≠none) (lv (α:=Int) (j:=k) hl hs.log0 rfl rfl rfl (optN (by omega)) (by omega)) rfl rfl (by rintro _ _ _ ⟨_,_,_,hH,_⟩;exact did_q rfl (SR.q hl)) (kb rfl) ?_)));rintro _ _ _ ⟨et,e3,rfl,Z,b5⟩ b9 a4;simp only at Z;replace Z:=Z.symm;subst Z;have a1:=HS.lg hs.log0 hs a4;generalize ({{H with log:=[]} with log:=b9}:Heap)=dn at a1⊢;have U:=HS.snoc a1;have U:HS _ _ _ [[]] _:=U;refine bG (id:= .x []) (br (α:=Int) (q:=0) (OS.nil:OS F (sL none 0 0) ([]:List Int) []) U.log0 rfl rfl rfl (SR.sv b5 U.log0) rfl rfl rfl rfl rfl rfl rfl (by simp only[a04,a0j,a0n,a08,a0f];omega)) rfl rfl (by rintro _ _ av ⟨bb,bz,rfl,ag,_,hwr⟩;exact bE rfl rfl (Wr.did hwr)) (kb rfl) ?_;rintro _ c3 av ⟨bb,bz,rfl,ag,N,_⟩ cc a5;replace N:=HS.lg N U a5;generalize ({c3 with log:=cc}:Heap)=ds at N⊢;have N:HS _ _ _ [av] _:=N;have ag:OS F (sL bb (l.take k).length bz) (l.take k) av:=ag;refine zfm (iI n) (bG (id:= .a) (bj (α:=Int) (ps:=[(0,(iI n))]) (cells:=[(iI n)]) ([n]:List Int) N.log0 rfl rfl rfl (by kernel_rfl) ⟨[(iI n)],[],rfl,⟨rfl,by omega⟩,rfl⟩ rfl) rfl rfl (fun _ _ _ _=>fp rfl rfl rfl) (kb rfl) ?_);rintro _ c4 dl ⟨ey,e4,rfl,b4,A,_⟩ ch a6;replace A:=HS.lg A N a6;generalize ({c4 with log:=ch}:Heap)=dt at A⊢;have A:HS _ _ _ [_,dl] _:=A;refine bG (id:= .x (av.map Prod.fst)) (br (α:=Int) (q:=0) ag A.log0 rfl rfl rfl (OS.sv b4 A.log0 (i:=1) rfl) rfl rfl rfl rfl rfl rfl rfl (by simp only[a04,a0j,a0n,a08,a0f];omega)) rfl rfl (by rintro _ _ a3 ⟨c8,dk,rfl,ay,_,hwr⟩;exact bE rfl rfl (Wr.did hwr)) (kb rfl) ?_;rintro _ c5 a3 ⟨c8,dk,rfl,ay,E,_⟩ ci a7;replace E:=HS.lg E A a7;generalize ({c5 with log:=ci}:Heap)=b1 at E⊢;have E:HS _ _ _ [a3,_] _:=E;refine zfm (sL z l.length ai) (zfm (iI (k:Int)) (bG (id:= .q fun b=>F b≠none) (rs_cutd (α:=Int) (i:=k) hl E.log0 rfl rfl rfl (optN (by omega)) (by omega)) rfl rfl (by rintro _ _ _ ⟨_,_,_,hH,_⟩;exact did_q rfl (SR.q hl)) (⟨.inl rfl,⟨.inl rfl,⟨.inr (HS.apq A (i:=0) rfl),⟨.inr trivial,⟨.inr trivial,⟨.inr (fun b hb=>absurd hb a0b),⟨.inr trivial,⟨.inr trivial,⟨.inr trivial,trivial⟩⟩⟩⟩⟩⟩⟩⟩⟩) ?_));rintro _ _ _ ⟨ez,e5,rfl,ad,b6⟩ co a8;simp only at ad;replace ad:=ad.symm;subst ad;have al:=HS.lg E.log0 E a8;generalize ({{b1 with log:=[]} with log:=co}:Heap)=dv at al⊢;refine bG (id:= .x (a3.map Prod.fst)) (br (α:=Int) (q:=0) ay al.log0 rfl rfl rfl (SR.sv b6 al.log0) rfl rfl rfl rfl rfl rfl rfl (by simp only[a04,a0j,a0n,a08,a0f];omega)) rfl rfl (by rintro _ _ b0 ⟨aw,a2,rfl,a0,_,hwr⟩;exact bE rfl rfl (Wr.did hwr)) (kb rfl) ?_;rintro _ c6 b0 ⟨aw,a2,rfl,a0,T,_⟩ c0 a9;replace T:=HS.lg T al a9;generalize ({c6 with log:=c0}:Heap)=d1 at T⊢;have T:HS _ _ _ [b0,_] _:=T;refine fa (sL aw (((l.take k)++([n]:List Int))++(l.drop k)).length a2) rfl rfl rfl (bm (zf 1 ?_));obtain⟨em,b3,an,b7,ea⟩:=OS.frz a0 T (i:=0) rfl;have an:HS _ _ _ [[],_] _:=an;refine aj ⟨.inr rfl,_,rfl,aw,a2,((l.take k)++([n]:List Int))++(l.drop k),_,(b3),(HS.forget an),rfl,b7,(ins_new hk (by omega))⟩
theorem fX{z:Option Addr}{ag:Nat}(l:List Int)(n:Int)(hs:HS (.of H []) F H [] R)(hl:SR F (sL z l.length ag) l)(hn:in64 n)(hT:TB 37 tabC F)(al:l.length<=1073741824):kKt ex 28 [(sL z l.length ag),(iI n)] H fun v H'=> ∃(r:Bool),H'=H/\v= .bool r/\r=cG l n:=by
 refine au Tryd.func28 rfl rfl (zf 1 (wT 3 [] 4 4 [] [(4,(.bool false))] rfl fun _=>wT 2 [] 1 0 [5] [(5,(iI 0))] rfl fun _=>ah (fun(mm:Nat) f H'=> ∃(k:Nat),H'=H/\am f [(0,(sL z l.length ag)),(1,(iI n)),(5,(iI (k:Int)))]/\mm=l.length-k/\(k<=l.length)/\(∀j,j<k->¬l.getD j 0=n)) _ ⟨0,rfl,⟨rfl,rfl,rfl,trivial⟩,rfl,(by omega),(by intro j hj;omega)⟩ ?_));rintro ad f3 H ⟨k,rfl,A,rfl,h1,T⟩ U;refine ak _ A (fun _=>?_);clear A;refine aC 2 rfl (wT 1 [] 6 9 [] [(9,(.bool (decide ((k:Int)<(l.length:Int)))))] rfl fun _=>zd 4 5 (fun V=>?_) fun V=>?_)
 ·obtain⟨Z,E⟩:=Sv.view (SR.sv hl hs);have g7:=fI (E k);refine wR 1 [(3,.o (iI (l.getD k 0)))] 12 17 [] [(17,(.bool ((l.getD k 0)==n)))] (vA (Sv.ix (j:=(k:Int)) (SR.sv hl hs)) (vA (ql 3 0 (vI (E k)) rfl rfl) trivial)) rfl fun _=>zi 1 2 (fun N=>?_) fun N=>?_
  ·try simp only[BS]at N
   refine wT 1 [] 4 4 [] [(4,(.bool true))] rfl fun _=>aj ⟨.inr rfl,_,rfl,true,rfl,rfl,(con_yes (k:=k) (by omega) (by omega))⟩
  try simp only[BS]at N
  refine wU 1 [] 10 11 [5] [(5,(iI ((k:Int)+1)))] (vi (n:=(k:Int)+1)) rfl fun _=>U _ _ _ ?_ ⟨k+1,rfl,⟨rfl,rfl,rfl,trivial⟩,rfl,(by omega),(lD T (by omega))⟩
  omega
 refine wT 1 [] 4 4 [] [(4,(.bool false))] rfl fun _=>aj ⟨.inr rfl,_,rfl,false,rfl,rfl,(con_no T (by omega))⟩
theorem eo{z:Option Addr}{A:Nat}(l:List Int)(n:Int)(hs:HS (.of H []) F H [] R)(T:SR F (sL z l.length A) l)(U:in64 n)(N:TB 37 tabC F)(E:l.length<=1073741824):kKt ex 28 [(sL z l.length A),(iI n)] H fun v H'=>v=(.bool (cG l n))/\H'=H:=
 cq (fX ex l n hs T U N E) (by rintro _ _ ⟨_,rfl,rfl,rfl⟩;exact⟨rfl,rfl⟩)
end Go.Proofs.YtknafdcgpaejlaaDoor.m6
