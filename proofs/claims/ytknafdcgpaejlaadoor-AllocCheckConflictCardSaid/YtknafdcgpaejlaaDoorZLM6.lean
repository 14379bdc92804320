/-
 Sets of registers as ascending lists, comparisons of results: the reference, by symbolic runs. No condition but bounds on lengths.
-/
import Derived.Test.YtknafdcgpaejlaaDoorZLM5
noncomputable section
namespace Go.Proofs.YtknafdcgpaejlaaDoor.m6
open Go.R
set_option maxRecDepth 10000
set_option linter.unusedVariables false
set_option linter.unusedSimpArgs false
variable (ex:FuncId) {F:Fz} {H:Heap} {R:List Fp}
open m1 m2 m3 m4 m5
def ie(l:List Int)(n:Int):Nat:=(l.takeWhile (fun x=>decide (x<n))).length
def de(l:List Int)(n:Int):List Int:=if ie l n<l.length/\l.getD (ie l n) 0=n then l else l.take (ie l n)++[n]++l.drop (ie l n)
theorem pre_eq: ∀{l:List Int} {n:Int} {k:Nat},k<=l.length->(∀j,j<k->l.getD j 0<n)->(k<l.length->¬l.getD k 0<n)->k=ie l n
 | [],n,k,hk,_,_=>by simp at hk;subst hk;rfl
 |x::l,n,0,_,_,h=>by have A: ¬x<n:=h (by simp);unfold ie;rw[List.takeWhile_cons_of_neg (by simpa using A)];rfl
 |x::l,n,k+1,hk,hl,h=>by have A:x<n:=hl 0 (by omega);have:=pre_eq (l:=l) (n:=n) (k:=k) (by simpa using hk) (fun j hj=>hl (j+1) (by omega)) (fun hj=>h (by simpa using hj));unfold ie at this⊢;rw[List.takeWhile_cons_of_pos (by simpa using A),a0a,←this]
theorem kN{l:List Int}{n:Int}{k:Nat}(hk:k=ie l n)(h:k<l.length)(A:l.getD k 0=n):l=de l n:=by subst hk;unfold de;rw[if_pos ⟨h,A⟩]
theorem ins_new{l:List Int}{n:Int}{k:Nat}(hk:k=ie l n)(h: ¬(k<l.length/\l.getD k 0=n)):l.take k++[n]++l.drop k=de l n:=by subst hk;unfold de;rw[if_neg h]
theorem ins_len{l:List Int}{n:Int}:(de l n).length<=l.length+1:=by
 unfold de;split
 ·omega
 simp only[a05,a0o,a0A,a0a,a0g];omega
def gi(l:List Int)(n:Int):Bool:=l.any (fun x=>decide (x=n))
theorem con_no{l:List Int}{n:Int}{k:Nat}(h: ∀j,j<k->¬l.getD j 0=n)(hk:l.length<=k):false=gi l n:=by symm;unfold gi;rw[List.any_eq_false];intro x hx;obtain⟨j,hj,rfl⟩:=a0x.1 hx;have:=h j (by omega);rw[a02,a04 hj]at this;simpa using this
theorem con_yes{l:List Int}{n:Int}{k:Nat}(hk:k<l.length)(h:l.getD k 0=n):true=gi l n:=by symm;unfold gi;rw[List.any_eq_true];refine⟨l.getD k 0,?_,by simpa using h⟩;rw[a02,a04 hk];exact a1n hk
theorem lt_succ{p:Nat->Prop}{k:Nat}(h: ∀j,j<k->p j)(c:p k): ∀j,j<k+1->p j:=fun j hj=>by
 rcases Nat.lt_succ_iff_lt_or_eq.1 hj with A|rfl
 ·exact h j A
 exact c
theorem cZ{a_l:Option Addr}{k_l:Nat}(l:List Int)(n:Int)(hs:HS (.of H []) F H [] R)(hl:SR F (.slice a_l l.length k_l) l)(hn:in64 n)(hT:TB 37 tabC F)(hlen:l.length<=1073741824):kKt ex 56 [(.slice a_l l.length k_l),(iI n)] H fun v H'=> ∃(ar:Option Addr) (kr:Nat) (r:List Int) (F':Fz),Fz.le F F'/\HS (.of H []) F' H' [] R/\v= .slice ar r.length kr/\SR F' (.slice ar r.length kr) r/\r=de l n:=by
 refine aH Tryd.func56 rfl rfl (aj 1 rfl (wT 2 [] 4 4 [] [(4,(.slice none 0 0))] rfl fun _=>wT 3 [] 1 0 [5] [(5,(iI 0))] rfl fun _=>ak (fun(mm:Nat) f H'=> ∃(k:Nat),H'=H/\aD f [(0,(.slice a_l l.length k_l)),(1,(iI n)),(5,(iI (k:Int)))]/\mm=l.length-k/\(k<=l.length)/\(∀j,j<k->l.getD j 0<n)) _ ⟨0,rfl,⟨rfl,rfl,rfl,trivial⟩,rfl,(by omega),(by intro j hj;omega)⟩ ?_));rintro fi f3 H ⟨k,rfl,bl,rfl,h1,h2⟩ dl;refine au _ bl (fun _=>?_);clear bl;refine aj 2 rfl ?_;obtain⟨e2,bz⟩:=Sv.view (SR.sv hl hs);have g5:=fI (bz k);refine wR 1 [(8,.o (iI (l.getD k 0)))] 6 17 [] [(17,(.bool ((decide ((k:Int)<(l.length:Int)))&&(decide ((l.getD k 0)<n)))))] (vA (fun(U:(decide ((k:Int)<(l.length:Int)))=true)=>(Sv.ix (j:=(k:Int)) (SR.sv hl hs) (by(try simp only[BS]at U);omega) (by(try simp only[BS]at U);omega))) (vA (fun(U:(decide ((k:Int)<(l.length:Int)))=true)=>(ql 3 0 (vI (bz k) (by(try simp only[BS]at U);omega)) rfl rfl)) trivial)) rfl fun _=>az 2 6 (v:=((decide ((k:Int)<(l.length:Int)))&&(decide ((l.getD k 0)<n)))) rfl rfl rfl rfl (fun ay=>?_) (fun ay=>?_)
 ·have c7:=ay;try simp only[BS]at c7
  refine wU 2 [] 18 19 [5] [(5,(iI ((k:Int)+1)))] (vi (n:=(k:Int)+1) (by omega)) rfl fun _=>dl _ _ _ ?_ ⟨k+1,rfl,⟨rfl,rfl,rfl,trivial⟩,rfl,(by omega),(lt_succ h2 (by omega))⟩
  omega
 have c7:=ay;try simp only[BS]at c7
 have hk:=pre_eq h1 h2 (by omega);obtain⟨e3,b0⟩:=Sv.view (SR.sv hl hs);have e4:=fI (b0 k);refine wR 1 [(8,.o (iI (l.getD k 0)))] 20 31 [] [(31,(.bool ((decide ((k:Int)<(l.length:Int)))&&((l.getD k 0)==n))))] (vA (fun(U:(decide ((k:Int)<(l.length:Int)))=true)=>(Sv.ix (j:=(k:Int)) (SR.sv hl hs) (by(try simp only[BS]at U);omega) (by(try simp only[BS]at U);omega))) (vA (fun(U:(decide ((k:Int)<(l.length:Int)))=true)=>(ql 3 0 (vI (b0 k) (by(try simp only[BS]at U);omega)) rfl rfl)) trivial)) rfl fun _=>az 1 2 (v:=((decide ((k:Int)<(l.length:Int)))&&((l.getD k 0)==n))) rfl rfl rfl rfl (fun al=>?_) (fun al=>?_)
 ·have ax:=al;try simp only[BS]at ax
  refine wT 1 [] 4 4 [32] [(4,(.slice a_l l.length k_l))] rfl fun _=>aq ⟨.inr rfl,_,rfl,a_l,k_l,l,_,fR,(HS.forget hs),rfl,hl,(kN hk (by omega) (by omega))⟩
 have ax:=al;try simp only[BS]at ax
 refine aP rfl (fm (.slice a_l l.length k_l) rfl rfl rfl (fm (iI (k:Int)) rfl rfl rfl (bT (id:= .q fun b=>F b≠none) (rs_cutt (α:=Int) (j:=k) hl hs.log0 rfl rfl rfl (optN (by omega)) (by omega)) rfl rfl (by rintro _ _ _ ⟨_,_,_,hH,_⟩;exact did_q rfl (SR.q hl)) (kb rfl) ?_)));rintro _ _ _ ⟨ez,e5,rfl,V,b7⟩ ch a5;simp only at V;replace V:=V.symm;subst V;have a2:=HS.lg hs.log0 hs a5;generalize ({{H with log:=[]} with log:=ch}:Heap)=dt at a2⊢;have T:=HS.snoc a2;have T:HS _ _ _ [[]] _:=T;refine bT (id:= .x []) (bC (α:=Int) (q:=0) (OS.nil:OS F (.slice none 0 0) ([]:List Int) []) T.log0 rfl rfl rfl (SR.sv b7 T.log0) rfl rfl rfl rfl rfl rfl rfl (by simp only[a05,a0o,a0A,a0a,a0g];omega)) rfl rfl (by rintro _ _ av ⟨bk,b1,rfl,ad,_,hwr⟩;exact bR rfl rfl (Wr.did hwr)) (kb rfl) ?_;rintro _ c5 av ⟨bk,b1,rfl,ad,J,_⟩ ci a6;replace J:=HS.lg J T a6;generalize ({c5 with log:=ci}:Heap)=dv at J⊢;have J:HS _ _ _ [av] _:=J;have ad:OS F (.slice bk (l.take k).length b1) (l.take k) av:=ad;refine fm (iI n) rfl rfl rfl (bT (id:= .a) (bm (α:=Int) (ps:=[(0,(iI n))]) (cells:=[(iI n)]) ([n]:List Int) J.log0 rfl rfl rfl (by kernel_rfl) ⟨[(iI n)],[],rfl,⟨rfl,by omega⟩,rfl⟩ rfl) rfl rfl (fun _ _ _ _=>gF rfl rfl rfl) (kb rfl) ?_);rintro _ c6 ds ⟨e0,e6,rfl,b6,A,_⟩ co a7;replace A:=HS.lg A J a7;generalize ({c6 with log:=co}:Heap)=d1 at A⊢;have A:HS _ _ _ [_,ds] _:=A;refine bT (id:= .x (av.map Prod.fst)) (bC (α:=Int) (q:=0) ad A.log0 rfl rfl rfl (OS.sv b6 A.log0 (i:=1) rfl) rfl rfl rfl rfl rfl rfl rfl (by simp only[a05,a0o,a0A,a0a,a0g];omega)) rfl rfl (by rintro _ _ a4 ⟨dd,dn,rfl,a0,_,hwr⟩;exact bR rfl rfl (Wr.did hwr)) (kb rfl) ?_;rintro _ c8 a4 ⟨dd,dn,rfl,a0,E,_⟩ c0 a8;replace E:=HS.lg E A a8;generalize ({c8 with log:=c0}:Heap)=b3 at E⊢;have E:HS _ _ _ [a4,_] _:=E;refine fm (.slice a_l l.length k_l) rfl rfl rfl (fm (iI (k:Int)) rfl rfl rfl (bT (id:= .q fun b=>F b≠none) (rs_cutd (α:=Int) (i:=k) hl E.log0 rfl rfl rfl (optN (by omega)) (by omega)) rfl rfl (by rintro _ _ _ ⟨_,_,_,hH,_⟩;exact did_q rfl (SR.q hl)) (⟨.inl rfl,⟨.inl rfl,⟨.inr (HS.apq A (i:=0) rfl),⟨.inr trivial,⟨.inr trivial,⟨.inr (fun b hb=>absurd hb a0b),⟨.inr trivial,⟨.inr trivial,⟨.inr trivial,trivial⟩⟩⟩⟩⟩⟩⟩⟩⟩) ?_));rintro _ _ _ ⟨e1,fd,rfl,Z,b9⟩ c3 a9;simp only at Z;replace Z:=Z.symm;subst Z;have ag:=HS.lg E.log0 E a9;generalize ({{b3 with log:=[]} with log:=c3}:Heap)=d2 at ag⊢;refine bT (id:= .x (a4.map Prod.fst)) (bC (α:=Int) (q:=0) a0 ag.log0 rfl rfl rfl (SR.sv b9 ag.log0) rfl rfl rfl rfl rfl rfl rfl (by simp only[a05,a0o,a0A,a0a,a0g];omega)) rfl rfl (by rintro _ _ b2 ⟨aw,a3,rfl,a1,_,hwr⟩;exact bR rfl rfl (Wr.did hwr)) (kb rfl) ?_;rintro _ c9 b2 ⟨aw,a3,rfl,a1,N,_⟩ c4 bb;replace N:=HS.lg N ag bb;generalize ({c9 with log:=c4}:Heap)=ea at N⊢;have N:HS _ _ _ [b2,_] _:=N;refine fa (.slice aw (((l.take k)++([n]:List Int))++(l.drop k)).length a3) rfl rfl rfl (bJ (aj 1 rfl ?_));obtain⟨et,b5,an,cc,es⟩:=OS.frz a1 N (i:=0) rfl;have an:HS _ _ _ [[],_] _:=an;refine aq ⟨.inr rfl,_,rfl,aw,a3,((l.take k)++([n]:List Int))++(l.drop k),_,(b5),(HS.forget an),rfl,cc,(ins_new hk (by omega))⟩
theorem fw{a_l:Option Addr}{k_l:Nat}(l:List Int)(n:Int)(hs:HS (.of H []) F H [] R)(hl:SR F (.slice a_l l.length k_l) l)(hn:in64 n)(hT:TB 37 tabC F)(hlen:l.length<=1073741824):kKt ex 28 [(.slice a_l l.length k_l),(iI n)] H fun v H'=> ∃(r:Bool),H'=H/\v= .bool r/\r=gi l n:=by
 refine aH Tryd.func28 rfl rfl (aj 1 rfl (wT 3 [] 4 4 [] [(4,(.bool false))] rfl fun _=>wT 2 [] 1 0 [5] [(5,(iI 0))] rfl fun _=>ak (fun(mm:Nat) f H'=> ∃(k:Nat),H'=H/\aD f [(0,(.slice a_l l.length k_l)),(1,(iI n)),(5,(iI (k:Int)))]/\mm=l.length-k/\(k<=l.length)/\(∀j,j<k->¬l.getD j 0=n)) _ ⟨0,rfl,⟨rfl,rfl,rfl,trivial⟩,rfl,(by omega),(by intro j hj;omega)⟩ ?_));rintro ag f3 H ⟨k,rfl,J,rfl,h1,V⟩ Z;refine au _ J (fun _=>?_);clear J;refine aj 2 rfl (wT 1 [] 6 9 [] [(9,(.bool (decide ((k:Int)<(l.length:Int)))))] rfl fun _=>az 4 5 (v:=(decide ((k:Int)<(l.length:Int)))) rfl rfl rfl rfl (fun A=>?_) (fun A=>?_))
 ·have T:=A;try simp only[BS]at T
  obtain⟨ad,N⟩:=Sv.view (SR.sv hl hs);have g7:=fI (N k);refine wR 1 [(3,.o (iI (l.getD k 0)))] 12 17 [] [(17,(.bool ((l.getD k 0)==n)))] (vA (Sv.ix (j:=(k:Int)) (SR.sv hl hs) (by omega) (by omega)) (vA (ql 3 0 (vI (N k) (by omega)) rfl rfl) trivial)) rfl fun _=>az 1 2 (v:=((l.getD k 0)==n)) rfl rfl rfl rfl (fun E=>?_) (fun E=>?_)
  ·have U:=E;try simp only[BS]at U
   refine wT 1 [] 4 4 [] [(4,(.bool true))] rfl fun _=>aq ⟨.inr rfl,_,rfl,true,rfl,rfl,(con_yes (k:=k) (by omega) (by omega))⟩
  have U:=E;try simp only[BS]at U
  refine wU 1 [] 10 11 [5] [(5,(iI ((k:Int)+1)))] (vi (n:=(k:Int)+1) (by omega)) rfl fun _=>Z _ _ _ ?_ ⟨k+1,rfl,⟨rfl,rfl,rfl,trivial⟩,rfl,(by omega),(lt_succ V (by omega))⟩
  omega
 have T:=A;try simp only[BS]at T
 refine wT 1 [] 4 4 [] [(4,(.bool false))] rfl fun _=>aq ⟨.inr rfl,_,rfl,false,rfl,rfl,(con_no V (by omega))⟩
theorem eh{a_l:Option Addr}{k_l:Nat}(l:List Int)(n:Int)(hs:HS (.of H []) F H [] R)(hl:SR F (.slice a_l l.length k_l) l)(hn:in64 n)(hT:TB 37 tabC F)(hlen:l.length<=1073741824):kKt ex 28 [(.slice a_l l.length k_l),(iI n)] H fun v H'=>v=(.bool (gi l n))/\H'=H:=
 cq (fw ex l n hs hl hn hT hlen) (by rintro _ _ ⟨_,rfl,rfl,rfl⟩;exact⟨rfl,rfl⟩)
end Go.Proofs.YtknafdcgpaejlaaDoor.m6
