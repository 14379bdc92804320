/-
Sets of registers as ascending lists, comparisons of results: the reference. No condition but bounds on lengths.
-/
import Derived.Test.YtgdggmlghemecaaDoorZAM5
noncomputable section
namespace Go.Proofs.YtgdggmlghemecaaDoor.m6
open Go.R
set_option maxRecDepth 10000
set_option linter.unusedVariables false
set_option linter.unusedSimpArgs false
variable (ex:FuncId) {F:Fz} {H:Heap} {R:List Fp}
open m1 m2 m3 m4 m5
def i6(l:List Int)(n:Int):Nat:=(l.takeWhile (fun x=>decide (x<n))).length
def dJ(l:List Int)(n:Int):List Int:=if i6 l n<l.length/\l.getD (i6 l n) 0=n then l else l.take (i6 l n)++[n]++l.drop (i6 l n)
theorem lj: ∀{l:List Int} {n:Int} {k:Nat},k<=l.length->(∀j,j<k->l.getD j 0<n)->(k<l.length->¬l.getD k 0<n)->k=i6 l n
 | [],n,k,hk,_,_=>by simp at hk;subst hk;rfl
 |x::l,n,0,_,_,h=>by have A: ¬x<n:=h u_;unfold i6;rw[List.takeWhile_cons_of_neg (by simpa using A)];rfl
 |x::l,n,k+1,hk,hl,h=>by have A:x<n:=hl 0 M;have:=lj (l:=l) (n:=n) (k:=k) (by simpa using hk) (fun j z=>hl (j+1) M) (fun z=>h (by simpa using z));unfold i6 at this⊢;rw[List.takeWhile_cons_of_pos (by simpa using A),a0a,←this]
theorem ig{l:List Int}{n:Int}{k:Nat}(z:k=i6 l n)(h:k<l.length)(A:l.getD k 0=n):l=dJ l n:=by subst z;unfold dJ;rw[if_pos ⟨h,A⟩]
theorem kh{l:List Int}{n:Int}{k:Nat}(z:k=i6 l n)(h: ¬(k<l.length/\l.getD k 0=n)):l.take k++[n]++l.drop k=dJ l n:=by subst z;unfold dJ;rw[if_neg h]
theorem ins_len{l:List Int}{n:Int}:(dJ l n).length<=l.length+1:=by
 unfold dJ;split
 ·omega
 simp only[a04,a0k,a0D,a0a,a0g];omega
def bS(l:List Int)(n:Int):Bool:=l.any (fun x=>decide (x=n))
theorem con_no{l:List Int}{n:Int}{k:Nat}(h: ∀j,j<k->¬l.getD j 0=n)(E:l.length<=k):false=bS l n:=by symm;unfold bS;rw[List.any_eq_false];intro x A;obtain⟨j,z,rfl⟩:=a0K.1 A;have:=h j M;rw[a03,a05 z]at this;simpa using this
theorem con_yes{l:List Int}{n:Int}{k:Nat}(z:k<l.length)(h:l.getD k 0=n):true=bS l n:=by symm;unfold bS;rw[List.any_eq_true];refine⟨l.getD k 0,?_,by simpa using h⟩;rw[a03,a05 z];exact a1t z
theorem j8{p:Nat->Prop}{k:Nat}(h: ∀j,j<k->p j)(c:p k): ∀j,j<k+1->p j:=fun j z=>by
 rcases Nat.lt_succ_iff_lt_or_eq.1 z with A|rfl
 ·exact h j A
 exact c
theorem dG{z:Option Addr}{ai:Nat}(l:List Int)(n:Int)(hs:HS (.of H []) F H [] R)(hl:SR F (sL z l.length ai) l)(hn:in64 n)(hT:TB 37 tabC F)(f4:l.length<=1073741824):kKt ex 50 [(sL z l.length ai),(iI n)] H fun v H'=> ∃(ar:Option Addr) (kr:Nat) (r:List Int) (F':Fz),Fz.le F F'/\HS (.of H []) F' H' [] R/\v=sL ar r.length kr/\SR F' (sL ar r.length kr) r/\r=dJ l n:=by
 refine aC Tryd.func50 V V ?_;refine aj 1 V ?_;refine wT 2 [] 4 4 [] [(4,(sL none 0 0))] V fun _=>?_
 refine wT 3 [] 1 0 [5] [(5,(iI 0))] V fun _=>?_
 refine ah (fun(mm:Nat) f H'=> ∃(k:Nat),H'=H/\aA f [(0,(sL z l.length ai)),(1,(iI n)),(5,(iI (k:Int)))]/\mm=l.length-k/\(k<=l.length)/\(∀j,j<k->l.getD j 0<n)) _ ⟨0,V,(agC V (agC V (agC V agN))),V,(by first|assumption|omega|(simp at *;omega)),(by intro j hj;omega)⟩ ?_;rintro d1 f3 H ⟨k,rfl,ax,rfl,h1,h2⟩ b6;refine ap _ ax (fun _=>?_);clear ax;refine aj 2 V ?_;obtain⟨dd,ay⟩:=Sv.view (SR.sv hl hs);have g5:=fI (ay k);refine wrp 1 6 17 [] [(17,(.bool ((decide ((k:Int)<(l.length:Int)))&&(decide ((l.getD k 0)<n)))))] (Ha_ (fun(A:(decide ((k:Int)<(l.length:Int)))=true)=>(Sv.ix (j:=(k:Int)) (SR.sv hl hs) (by(try simp only[BS]at A);omega) (by(try simp only[BS]at A);omega))) (bt 8 (fun A=>(ql 3 0 (vI (ay k) (by(try simp only[BS]at A);omega)) V V)) Hn_)) V V fun _=>?_
 refine az 2 6 (v:=((decide ((k:Int)<(l.length:Int)))&&(decide ((l.getD k 0)<n)))) V V V V (fun c7=>?_) (fun c7=>?_)
 ·try simp only[BS]at c7
  refine wU 2 [] 18 19 [5] [(5,(iI ((k:Int)+1)))] (vi (n:=(k:Int)+1) M) V fun _=>?_
  refine b6 _ _ _ ?_ ⟨k+1,V,(agC V (agC V (agC V agN))),V,(by first|assumption|omega|(simp at *;omega)),(by exact j8 h2 M)⟩;omega
 try simp only[BS]at c7
 have hk:=lj h1 h2 M;obtain⟨dk,a0⟩:=Sv.view (SR.sv hl hs);have dl:=fI (a0 k);refine wrp 1 20 31 [] [(31,(.bool ((decide ((k:Int)<(l.length:Int)))&&((l.getD k 0)==n))))] (Ha_ (fun(A:(decide ((k:Int)<(l.length:Int)))=true)=>(Sv.ix (j:=(k:Int)) (SR.sv hl hs) (by(try simp only[BS]at A);omega) (by(try simp only[BS]at A);omega))) (bt 8 (fun A=>(ql 3 0 (vI (a0 k) (by(try simp only[BS]at A);omega)) V V)) Hn_)) V V fun _=>?_
 refine az 1 2 (v:=((decide ((k:Int)<(l.length:Int)))&&((l.getD k 0)==n))) V V V V (fun ad=>?_) (fun ad=>?_)
 ·try simp only[BS]at ad
  refine wT 1 [] 4 4 [32] [(4,(sL z l.length ai))] V fun _=>?_
  refine am ⟨.inr V,_,V,z,ai,l,_,fR,(HS.forget hs),V,hl,(by first|exact ig hk M M|exact kh hk M)⟩
 try simp only[BS]at ad
 refine aF V ?_;refine fm (sL z l.length ai) V V V ?_;refine fm (iI (k:Int)) V V V ?_;refine e9 (id:= .q fun b=>F b≠none) (rs_cutt (α:=Int) (j:=k) hl hs.log0 V V V (optN M) M) V V (by rintro _ _ _ ⟨_,_,_,hH,_⟩;exact did_q V (SR.q hl)) (⟨.inl V,⟨.inl V,trivial⟩⟩) ?_;rintro _ _ _ ⟨c5,dn,rfl,E,a8⟩ b2 an;simp only at E;replace E:=E.symm;subst E;have ag:=HS.lg hs.log0 hs an;generalize ({{H with log:=[]} with log:=b2}:Heap)=b9 at ag⊢;have al:=HS.snoc ag;refine zad 0 (OS.nil:OS F (sL none 0 0) ([]:List Int) []) al (SR.sv a8 al) V V V (by simp only[a04,a0k,a0D,a0a,a0g];omega) (⟨.inl V,⟨.inl V,⟨.inl V,trivial⟩⟩⟩) fun b4 b7 b8 cc T bk=>?_
 have T:OS F (sL b4 (l.take k).length b7) (l.take k) b8:=T;refine fm (iI n) V V V ?_;refine zld ([n]:List Int) bk V (RL.cs ⟨V,by omega⟩ RL.nl) V fun c6 ds d2 ch a5 U=>?_
 refine zad 0 T U (OS.sv a5 U (i:=1) V) V V V (by simp only[a04,a0k,a0D,a0a,a0g];omega) (⟨.inl V,⟨.inl V,⟨.inl V,⟨.inl V,⟨.inl V,⟨.inl V,trivial⟩⟩⟩⟩⟩⟩) fun c8 dt d3 a2 a6 a_=>?_
 refine fm (sL z l.length ai) V V V ?_;refine fm (iI (k:Int)) V V V ?_;refine e9 (id:= .q fun b=>F b≠none) (rs_cutd (α:=Int) (i:=k) hl a_.log0 V V V (optN M) M) V V (by rintro _ _ _ ⟨_,_,_,hH,_⟩;exact did_q V (SR.q hl)) (⟨.inl V,⟨.inl V,⟨.inr (HS.apq U (i:=0) V),⟨.inr trivial,⟨.inr trivial,⟨.inr (fun b hb=>absurd hb a0d),⟨.inr trivial,⟨.inr trivial,⟨.inr trivial,trivial⟩⟩⟩⟩⟩⟩⟩⟩⟩) ?_;rintro _ _ _ ⟨c9,dv,rfl,N,a9⟩ b3 av;simp only at N;replace N:=N.symm;subst N;have Z:=HS.lg a_.log0 a_ av;generalize ({{a2 with log:=[]} with log:=b3}:Heap)=ci at Z⊢;refine zad 0 a6 Z (SR.sv a9 Z) V V V (by simp only[a04,a0k,a0D,a0a,a0g];omega) (⟨.inl V,⟨.inl V,⟨.inl V,⟨.inl V,⟨.inl V,⟨.inl V,⟨.inl V,⟨.inl V,⟨.inl V,⟨.inl V,trivial⟩⟩⟩⟩⟩⟩⟩⟩⟩⟩) fun aw a1 d4 co a7 bl=>?_
 refine fa (sL aw (((l.take k)++([n]:List Int))++(l.drop k)).length a1) V V V ?_;refine ew ?_;refine aj 1 V ?_;obtain⟨c4,a4,bz,bb,c3⟩:=OS.frz a7 bl (i:=0) V;refine am ⟨.inr V,_,V,aw,a1,((l.take k)++([n]:List Int))++(l.drop k),_,(a4),(HS.forget bz),V,bb,(by first|exact ig hk M M|exact kh hk M)⟩
theorem fl{z:Option Addr}{ag:Nat}(l:List Int)(n:Int)(hs:HS (.of H []) F H [] R)(hl:SR F (sL z l.length ag) l)(hn:in64 n)(hT:TB 37 tabC F)(al:l.length<=1073741824):kKt ex 25 [(sL z l.length ag),(iI n)] H fun v H'=> ∃(r:Bool),H'=H/\v= .bool r/\r=bS l n:=by
 refine aC Tryd.func25 V V ?_;refine aj 1 V ?_;refine wT 3 [] 4 4 [] [(4,(.bool false))] V fun _=>?_
 refine wT 2 [] 1 0 [5] [(5,(iI 0))] V fun _=>?_
 refine ah (fun(mm:Nat) f H'=> ∃(k:Nat),H'=H/\aA f [(0,(sL z l.length ag)),(1,(iI n)),(5,(iI (k:Int)))]/\mm=l.length-k/\(k<=l.length)/\(∀j,j<k->¬l.getD j 0=n)) _ ⟨0,V,(agC V (agC V (agC V agN))),V,(by first|assumption|omega|(simp at *;omega)),(by intro j hj;omega)⟩ ?_;rintro ad f3 H ⟨k,rfl,A,rfl,h1,U⟩ a_;refine ap _ A (fun _=>?_);clear A;refine aj 2 V ?_;refine wT 1 [] 6 9 [] [(9,(.bool (decide ((k:Int)<(l.length:Int)))))] V fun _=>?_
 refine az 4 5 (v:=(decide ((k:Int)<(l.length:Int)))) V V V V (fun N=>?_) (fun N=>?_)
 ·try simp only[BS]at N
  obtain⟨Z,E⟩:=Sv.view (SR.sv hl hs);have g7:=fI (E k);refine wrp 1 12 17 [] [(17,(.bool ((l.getD k 0)==n)))] (Ha_ (Sv.ix (j:=(k:Int)) (SR.sv hl hs) M M) (Hl_ 3 (ql 3 0 (vI (E k) M) V V) Hn_)) (by kernel_rfl) V fun _=>?_
  refine az 1 2 (v:=((l.getD k 0)==n)) V V V V (fun T=>?_) (fun T=>?_)
  ·try simp only[BS]at T
   refine wT 1 [] 4 4 [] [(4,(.bool true))] V fun _=>?_
   refine am ⟨.inr V,_,V,true,V,V,(by first|exact con_yes (k:=k) M M|exact con_no U M)⟩
  try simp only[BS]at T
  refine wU 1 [] 10 11 [5] [(5,(iI ((k:Int)+1)))] (vi (n:=(k:Int)+1) M) V fun _=>?_
  refine a_ _ _ _ ?_ ⟨k+1,V,(agC V (agC V (agC V agN))),V,(by first|assumption|omega|(simp at *;omega)),(by exact j8 U M)⟩;omega
 try simp only[BS]at N
 refine wT 1 [] 4 4 [] [(4,(.bool false))] V fun _=>?_
 refine am ⟨.inr V,_,V,false,V,V,(by first|exact con_yes (k:=k) M M|exact con_no U M)⟩
theorem bQ{z:Option Addr}{A:Nat}(l:List Int)(n:Int)(hs:HS (.of H []) F H [] R)(T:SR F (sL z l.length A) l)(U:in64 n)(N:TB 37 tabC F)(E:l.length<=1073741824):kKt ex 25 [(sL z l.length A),(iI n)] H fun v H'=>v=(.bool (bS l n))/\H'=H:=
 cq (fl ex l n hs T U N E) (by rintro _ _ ⟨_,rfl,rfl,rfl⟩;exact⟨V,V⟩)
end Go.Proofs.YtgdggmlghemecaaDoor.m6
