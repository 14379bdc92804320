/-
What instructions read and write, what follows a block, unions and differences of sets: the program and the reference. No condition but bounds on lengths.
-/
import Derived.Test.YtgdggmlghemecaaDoorZAM6
noncomputable section
namespace Go.Proofs.YtgdggmlghemecaaDoor.ma
open Go.R
set_option maxRecDepth 10000
set_option maxHeartbeats 1000000
set_option linter.unusedVariables false
set_option linter.unusedSimpArgs false
variable (ex:FuncId) {F:Fz} {H:Heap} {R:List Fp}
open m1 m2 m3 m4 m5 m6
abbrev Asc(l:List Int):Prop:=l.Pairwise (· < ·)
def da(a l:List Int):List Int:=l.foldl dJ a
def gE(a b:List Int):List Int:=a.filter fun x=> !bS b x
theorem asc_at{l:List Int}(h:Asc l){i j:Nat}(z:i<j)(A:j<l.length):l.getD i 0<l.getD j 0:=by have:=(a1T.1 h) i j M A z;rw[a03,a03,a05 A,a05 (show i<l.length by omega)];exact this
theorem pre_lt{l:List Int}{n:Int}: ∀x∈l.take (i6 l n),x<n:=by
 intro x z;have e:l.take (i6 l n)=l.takeWhile (fun x=>decide (x<n)):=by unfold i6;exact(List.prefix_iff_eq_take.1 (List.takeWhile_prefix _)).symm
 rw[e]at z;have:=a0y.1 (List.all_takeWhile (p:=fun x=>decide (x<n)) (l:=l)) x z;simpa using this
theorem pre_at{l:List Int}{n:Int}(h:i6 l n<l.length): ¬l.getD (i6 l n) 0<n:=by
 induction l with
 |nil=>simp at h
 |cons x l ih=>
  unfold i6 at h⊢
  by_cases z:x<n
  ·rw[List.takeWhile_cons_of_pos (by simpa using z)]at h⊢;simp only[a0a,a2i]at h⊢;exact ih (by unfold i6;omega)
  rw[List.takeWhile_cons_of_neg (by simpa using z)]
  simpa using z
theorem pre_ge{l:List Int}{n:Int}(z:Asc l): ∀x∈l.drop (i6 l n),n<=x:=by
 intro x E;obtain⟨i,hi,rfl⟩:=a0K.1 E;rw[List.getElem_drop];rw[a0D]at hi;have A:=pre_at (l:=l) (n:=n) M;rw[a03,a05 (show i6 l n<l.length by omega)]at A;rcases a1D i with rfl|hp
 ·simp only[a26];simpa using A
 have:=(a1T.1 z) (i6 l n) (i6 l n+i) M M M
 simp only[a0Q]at A;omega
theorem ins_asc{l:List Int}{n:Int}(h:Asc l):Asc (dJ l n):=by
 unfold dJ;split
 ·exact h
 rename_i hc;have Z:=pre_ge (n:=n) h;have U:=pre_lt (l:=l) (n:=n);refine a2e.2 ⟨a2e.2 ⟨h.sublist (List.take_sublist _ _),List.pairwise_singleton _ _,fun a z b T=>?_⟩,h.sublist (List.drop_sublist _ _),fun a z b T=>?_⟩
 ·rw[a0f]at T;subst T;exact U a z
 have hn:n<b:=by
  have N:=Z b T;rcases Int.lt_or_eq_of_le N with A|A
  ·exact A
  exfalso;obtain⟨i,hi,rfl⟩:=a0K.1 T;rw[a0D]at hi;rw[List.getElem_drop]at A;apply hc;refine⟨by omega,?_⟩;have E:=pre_at (l:=l) (n:=n) M;rw[a03,a05 (show i6 l n<l.length by omega)]at E⊢;simp only[a0Q]at E⊢;rcases a1D i with rfl|hp
  ·simpa using A.symm
  have:=(a1T.1 h) (i6 l n) (i6 l n+i) M M M
  omega
 rcases a08.1 z with z|z
 ·have:=U a z;omega
 rw[a0f]at z;subst z;exact hn
theorem kj{l:List Int}{n x:Int}:x∈dJ l n↔x=n\/x∈l:=by
 unfold dJ;split
 ·rename_i h;constructor
  ·exact .inr
  rintro(rfl|A)
  ·rw[←h.2,a03,a05 h.1];exact a1t h.1
  exact A
 rw[a08,a08,a0f];constructor
 ·rintro((h|h)|h)
  ·exact .inr (a1v h)
  ·exact .inl h
  exact .inr (a2f h)
 rintro(h|h)
 ·exact .inl (.inr h)
 rw[←a16 (i6 l n) l]at h;rcases a08.1 h with h|h
 ·exact .inl (.inl h)
 exact .inr h
theorem uni_asc{l:List Int}: ∀{a:List Int},Asc a->Asc (da a l):=by
 induction l with
 |nil=>exact fun h=>h
 |cons x l ih=>exact fun h=>ih (ins_asc h)
theorem uni_mem{l:List Int}{x:Int}: ∀{a:List Int},x∈da a l↔x∈a\/x∈l:=by
 induction l with
 |nil=>intro a;simp[da]
 |cons y l ih=>
  intro a
  have:da a (y::l)=da (dJ a y) l:=rfl
  rw[this,ih,kj,a0s]
  constructor
  ·rintro((h|h)|h)
   ·exact .inr (.inl h)
   ·exact .inl h
   exact .inr (.inr h)
  rintro(h|h|h)
  ·exact .inl (.inr h)
  ·exact .inl (.inl h)
  exact .inr h
theorem eV{l:List Int}: ∀{a:List Int},(da a l).length<=a.length+l.length:=by
 induction l with
 |nil=>intro a;exact a0b _
 |cons y l ih=>
  intro a
  have A:=ih (a:=dJ a y)
  have E:=ins_len (l:=a) (n:=y)
  have:da a (y::l)=da (dJ a y) l:=rfl
  rw[this,a0a];omega
theorem uni_snoc{a l:List Int}{x:Int}:da a (l++[x])=dJ (da a l) x:=by unfold da;rw[List.foldl_append];rfl
theorem uni_app{a l m:List Int}:da a (l++m)=da (da a l) m:=by unfold da;rw[List.foldl_append]
theorem bK{α:Type}{d:α}{l:List α}{i:Nat}(h:i<l.length):l.take (i+1)=l.take i++[l.getD i d]:=by rw[List.take_add_one,a05 h,a03,a05 h];rfl
theorem gn{a l o:List Int}{i:Nat}(h:i<l.length)(z:o=da a (l.take i)):dJ o (l.getD i 0)=da a (l.take (i+1)):=by rw[bK h (d:=0),uni_snoc,z]
theorem uni_all{a l o:List Int}{i:Nat}(h:l.length<=i)(z:o=da a (l.take i)):o=da a l:=by rw[z,a0h h]
theorem pre_eqR{l:List Int}{n:Int}{k:Nat}(U:Asc l)(Z:k<=l.length)(E: ∀j,k<=j->j<l.length->n<=l.getD j 0)(N:0<k->l.getD (k-1) 0<n):k=i6 l n:=by
 refine lj Z (fun j hj=>?_) (fun z=>by have:=E k (a0b _) z;omega);have T:=N M;rcases a0j j (k-1) with A|A
 ·have:=asc_at U A M;omega
 have:j=k-1:=M
 subst this;exact T
theorem ge_step{l:List Int}{n:Int}{k:Nat}(h: ∀j,k<=j->j<l.length->n<=l.getD j 0)(E:n<=l.getD (k-1) 0): ∀j,k-1<=j->j<l.length->n<=l.getD j 0:=fun j U N=>by
 rcases a0j j k with A|A
 ·have T:j=k-1:=M
  subst T;exact E
 exact h j A N
theorem cp_ins{l:List Int}{n:Int}{k:Nat}(Z:k=i6 l n)(z:k<=l.length)(h: ¬(k<l.length/\l.getD k 0=n)):(cpL (l++[0]) (k+1) ((l++[0]).drop k)).set k n=dJ l n:=by
 have e:cpL (l++[0]) (k+1) ((l++[0]).drop k)=(l++[0]).take (k+1)++l.drop k:=by
  unfold cpL;have E:((l++[0]).drop k).length=l.length+1-k:=by simp
  have A:(l++[(0:Int)]).length=l.length+1:=by simp
  rw[E,A,show min (l.length+1-k) (l.length+1-(k+1))=l.length-k by omega,show k+1+(l.length-k)=l.length+1 by omega];rw[show List.drop (l.length+1) (l++[(0:Int)])=[] from a23 (by rw[A];exact a0b _),a0r];congr 1;rw[List.drop_append,a2b,a0D,show l.length+1-(k+1)=l.length-k by omega,a1L,List.take_zero,a0r,a0h (by rw[a0D];omega)]
 rw[e,←kh Z h,a0p,List.take_add_one];rw[List.set_append];have N:(List.take k (l++[0]))=l.take k:=by rw[a2b,Nat.sub_eq_zero_of_le z,List.take_zero,a0r]
 have T:(l++[(0:Int)])[k]?.toList=[(l++[(0:Int)]).getD k 0]:=by rw[a03,a05 (show k<(l++[(0:Int)]).length by simp;omega)];rfl
 rw[N,T];have U:(List.take k l++[(l++[(0:Int)]).getD k 0]).length=k+1:=by simp;omega
 rw[if_pos (by rw[U];omega),List.set_append,if_neg (by rw[a0k];omega),a0k,show k-min k l.length=0 by omega];simp
def i5(v:VInT):List Int:=(if(aW v.i.op).ra then [v.i.a] else [])++((if(aW v.i.op).rb then [v.i.b] else [])++((if v.i.op=11\/v.i.op=12 then [v.i.c] else [])++(if v.i.op=6 then v.args else [])))
def aI(v:VInT):List Int:=if alV v.i.op then da [] (i5 v) else []
def ab(v:VInT):List Int:=if alV v.i.op=true/\((aW v.i.op).wa=true\/v.i.op=6\/v.i.op=38) then [v.i.a] else []
def bo(b:BlkT):List Int:=if b.fin=1 then [b.tgt] else if b.fin=2 then dJ [b.tgt] b.els else []
def ei(b:BlkT):List Int:=if b.fin=2\/b.fin=3 then [b.reg] else []
theorem reads_no{v:VInT}(h:alV v.i.op=false):[]=aI v:=by unfold aI;rw[h];rfl
theorem reads_yes{v:VInT}{l:List Int}(h:alV v.i.op=true)(z:l=i5 v):da [] l=aI v:=by unfold aI;rw[h,z];rfl
theorem rrT{l:List Int}{a:Int}{p:Prop} [Decidable p](h:p):dJ l a=da l (if p then [a] else []):=by rw[if_pos h];rfl
theorem rrF{l:List Int}{a:Int}{p:Prop} [Decidable p](h: ¬p):l=da l (if p then [a] else []):=by rw[if_neg h];rfl
theorem vra{op:Int}:(aR op).ra=(aW op).ra:=by unfold aR;split<;>first|rfl|(rename_i h;subst h;rfl)
theorem vrb{op:Int}:(aR op).rb=(aW op).rb:=by unfold aR;split<;>first|rfl|(rename_i h;subst h;rfl)
theorem vf4{op:Int}(h:alV op=true):(aR op).form=4↔op=11\/op=12:=by
 unfold alV at h;have h:=of_decide_eq_true h;by_cases A:op=38
 ·subst A;decide
 have e:aR op=aW op:=by unfold aR;rw[if_neg A]
 rw[e];obtain⟨k,z⟩:=ex37 (op:=op) ⟨by omega,by omega⟩;rw[z];clear z;revert k;decide+kernel
theorem rr_end{v:VInT}{E N T U:List Int}{k:Nat}(z:alV v.i.op=true)(a_:E=da [] (if(aW v.i.op).ra=true then [v.i.a] else []))(Z:N=da E (if(aW v.i.op).rb=true then [v.i.b] else []))(q3:T=da N (if v.i.op=11\/v.i.op=12 then [v.i.c] else []))
  (q4:U=da T (v.args.take k)) (q6:k=0\/v.i.op=6) (h:v.i.op=6->v.args.length<=k):U=aI v:=by
 have e:v.args.take k=if v.i.op=6 then v.args else []:=by
  by_cases A:v.i.op=6
  ·rw[if_pos A,a0h (h A)]
  rw[if_neg A];have:k=0:=M
  subst this;rfl
 unfold aI i5
 rw[if_pos z,uni_app,uni_app,uni_app,←a_,←Z,←q3,←e,←q4]
theorem eD{a:Int}{p:Prop} [Decidable p]:(if p then [a] else []).length<=1:=by split<;>simp
theorem rr_len{v:VInT}{A E N T:List Int}{k:Nat}(z:A=da [] (if(aW v.i.op).ra=true then [v.i.a] else []))(q2:E=da A (if(aW v.i.op).rb=true then [v.i.b] else []))(q3:N=da E (if v.i.op=11\/v.i.op=12 then [v.i.c] else []))
  (q4:T=da N (v.args.take k)):T.length<=3+v.args.length:=by
 have U:A.length<=1:=by rw[z];exact a0e eV (by simpa using eD)
 have a_:E.length<=2:=by rw[q2];exact a0e eV (a1U U eD)
 have Z:N.length<=3:=by rw[q3];exact a0e eV (a1U a_ eD)
 rw[q4];exact a0e eV (a1U Z (by rw[a0k];omega))
theorem rr_len1{v:VInT}{A:List Int}(E:A=da [] (if(aW v.i.op).ra=true then [v.i.a] else [])):A.length<=1:=by rw[E];exact a0e eV (by simpa using eD)
theorem rr_len2{v:VInT}{A E:List Int}(N:A.length<=1)(T:E=da A (if(aW v.i.op).rb=true then [v.i.b] else [])):E.length<=2:=by rw[T];exact a0e eV (a1U N eD)
theorem writes_no{v:VInT}(h:alV v.i.op=false):[]=ab v:=by unfold ab;rw[if_neg (by simp[h])]
theorem kT{v:VInT}(h:alV v.i.op=true)(A:(aW v.i.op).wa=true\/v.i.op=6\/v.i.op=38):[v.i.a]=ab v:=by unfold ab;rw[if_pos ⟨h,A⟩]
theorem writes_not{v:VInT}(h: ¬((aW v.i.op).wa=true\/v.i.op=6\/v.i.op=38)):[]=ab v:=by unfold ab;rw[if_neg fun z=>h z.2]
theorem vwa{op:Int}:((aR op).wa=true)↔((aW op).wa=true\/op=38):=by
 unfold aR;split
 ·rename_i h;subst h;simp
 rename_i h;constructor
 ·exact .inl
 rintro(A|A)
 ·exact A
 exact absurd A h
theorem rwr_yes{v:VInT}(h:alV v.i.op=true/\((aR v.i.op).wa=true\/v.i.op=6)):[v.i.a]=ab v:=kT h.1 (by have:=vwa (op:=v.i.op);rcases h.2 with A|A;(rcases this.1 A with E|E);exact .inl E;exact .inr (.inr E);exact .inr (.inl A))
theorem rwr_no{v:VInT}(h:alV v.i.op=true->(aR v.i.op).wa=false/\v.i.op≠6):[]=ab v:=by
 unfold ab;rw[if_neg];rintro⟨N,A⟩;obtain⟨E,T⟩:=h N;have:=vwa (op:=v.i.op);rcases A with A|A|A
 ·rw[this.2 (.inl A)]at E;cases E
 ·exact T A
 rw[this.2 (.inr A)]at E;cases E
theorem succ1{b:BlkT}(h:b.fin=1):[b.tgt]=bo b:=by unfold bo;rw[if_pos h]
theorem succ2{b:BlkT}(h:b.fin=2):bo b=dJ [b.tgt] b.els:=by unfold bo;rw[if_neg M,if_pos h]
theorem succ0{b:BlkT}(h:b.fin≠1/\b.fin≠2):[]=bo b:=by unfold bo;rw[if_neg h.1,if_neg h.2]
theorem dX{a b o:List Int}{i:Nat}(h:i<a.length)(z:o=gE (a.take i) b):(bS b (a.getD i 0)=false->o++[a.getD i 0]=gE (a.take (i+1)) b)/\(bS b (a.getD i 0)=true->o=gE (a.take (i+1)) b):=by
 unfold gE at z⊢;rw[bK h (d:=0),List.filter_append,←z];constructor
 ·intro hc;rw[a1C,hc];rfl
 intro hc;rw[a1C,hc];simp
theorem min_len{a b:List Int}:(gE a b).length<=a.length:=a17 _ _
theorem unique_c{ai:Option Addr}{ao:Nat}(l:List Int)(hs:HS (.of H []) F H [] R)(hl:SR F (sL ai l.length ao) l)(hT:TB 37 tabC F)(g2:l.length<=1048600):kKt ex 85 [(sL ai l.length ao)] H fun v H'=> ∃(ar:Option Addr) (kr:Nat) (r:List Int) (p:Fp) (F':Fz),Fz.le F F'/\HS (.of H []) F' H' [p] R/\v=sL ar r.length kr/\OS F' (sL ar r.length kr) r p/\r=da [] l:=by
 refine aC Tryd.func85 V V ?_;refine aj 1 V ?_;refine wT 2 [] 2 2 [] [(2,(sL none 0 0))] V fun _=>?_
 refine wT 3 [] 1 0 [3] [(3,(sL none 0 0))] V fun _=>?_
 refine wT 2 [] 7 9 [] [(7,(sL ai l.length ao)),(8,(iI (l.length:Int))),(9,(iI 0))] V fun _=>?_
 have c8:=HS.snoc hs;refine ah (fun(mm:Nat) f H'=> ∃(z:List Int) (i:Nat) (A:Option Addr) (E:Nat) (U:Fp) (F':Fz),Fz.le F F'/\HS (Base.of H []) F' H' [U] R/\OS F' (sL A z.length E) z U/\aA f [(3,(sL A z.length E)),(7,(sL ai l.length ao)),(8,(iI (l.length:Int))),(9,(iI (i:Int)))]/\mm=l.length-i/\(i<=l.length)/\(z=da [] (l.take i))) _ ⟨([]:List Int),0,none,0,[],_,fR,c8,(OS.nil:OS _ (sL none 0 0) ([]:List Int) []),(agC V (agC V (agC V (agC V agN)))),V,(by first|assumption|omega|(simp at *;omega)),s_⟩ ?_;rintro fi f4 H4 ⟨z,i,A,E,U,F4,a3,T,N,b2,rfl,h1,h2⟩ b4;refine ap _ b2 (fun _=>?_);clear b2;replace hl:=hl.mono a3;have fz:Asc z:=h2▸uni_asc List.Pairwise.nil;have g3:z.length<=i:=by rw[h2];exact a0e eV m_
 refine aj 1 V ?_;refine wT 2 [] 10 10 [] [(10,(.bool (decide ((i:Int)<(l.length:Int)))))] V fun _=>?_
 refine az 4 5 (v:=(decide ((i:Int)<(l.length:Int)))) V V V V (fun c7=>?_) (fun c7=>?_)
 ·try simp only[BS]at c7
  obtain⟨e1,b3⟩:=Sv.view (SR.sv hl T);have g9:=fI (b3 i);refine wrp 2 11 12 [5] [(5,(iI (l.getD i 0)))] (Ha_ (Sv.ix (j:=(i:Int)) (SR.sv hl T) M M) (Hl_ 1 (ql 3 0 (vI (b3 i) M) V V) Hn_)) (by kernel_rfl) V fun _=>?_
  refine wT 3 [] 13 14 [6] [(6,(iI (z.length:Int)))] V fun _=>?_
  refine ah (fun(mm:Nat) f H'=> ∃(k:Nat),H'=H4/\aA f [(3,(sL A z.length E)),(5,(iI (l.getD i 0))),(6,(iI (k:Int))),(7,(sL ai l.length ao)),(8,(iI (l.length:Int))),(9,(iI (i:Int)))]/\mm=k+1/\(k<=z.length)/\(∀j,k<=j->j<z.length->l.getD i 0<=z.getD j 0)) _ ⟨z.length,V,(agC V (agC V (agC V (agC V (agC V (agC V agN)))))),V,(by first|assumption|omega|(simp at *;omega)),(by intro j h5 h6;omega)⟩ ?_;rintro d4 e2 H4 ⟨k,rfl,a6,rfl,h3,h4⟩ ch;refine ap _ a6 (fun _=>?_);clear a6;refine aj 2 V ?_;obtain⟨dv,a8⟩:=Sv.view (OS.sv N T (i:=0) V);have e3:=fI (a8 (k-1));refine wrp 1 15 25 [] [(25,(.bool ((decide ((0:Int)<(k:Int)))&&(decide ((l.getD i 0)<=(z.getD (k-1) 0))))))] (Ho_ 5 (.e ((k-1:Nat):Int)) (fun(g1:(decide ((0:Int)<(k:Int)))=true)=>(ve (n:=(k:Int)-1) (m:=((k-1:Nat):Int)) (by(try simp only[BS]at g1);omega) (by(try simp only[BS]at g1);omega))) (Ha_ (fun(g1:(decide ((0:Int)<(k:Int)))=true)=>(Sv.ix (j:=((k-1:Nat):Int)) (OS.sv N T (i:=0) V) (by(try simp only[BS]at g1);omega) (by(try simp only[BS]at g1);omega))) (bt 7 (fun g1=>(ql 3 0 (vI (a8 (k-1)) (by(try simp only[BS]at g1);omega)) V V)) Hn_))) V V fun _=>?_
  refine az 2 6 (v:=((decide ((0:Int)<(k:Int)))&&(decide ((l.getD i 0)<=(z.getD (k-1) 0))))) V V V V (fun a4=>?_) (fun a4=>?_)
  ·try simp only[BS]at a4
   refine wU 2 [(1,.e ((k-1:Nat):Int))] 26 27 [6] [(6,(iI ((k-1:Nat):Int)))] (ve (n:=(k:Int)-1) (m:=((k-1:Nat):Int)) M M) V fun _=>?_
   refine ch _ _ _ ?_ ⟨k-1,V,(agC V (agC V (agC V (agC V (agC V (agC V agN)))))),V,(by first|assumption|omega|(simp at *;omega)),(by exact ge_step h4 M)⟩;omega
  try simp only[BS]at a4
  have hk:=pre_eqR fz h3 h4 M;obtain⟨d1,a9⟩:=Sv.view (OS.sv N T (i:=0) V);have e4:=fI (a9 k);refine wrp 1 28 39 [] [(39,(.bool ((decide ((k:Int)<(z.length:Int)))&&((z.getD k 0)==(l.getD i 0)))))] (Ha_ (fun(g1:(decide ((k:Int)<(z.length:Int)))=true)=>(Sv.ix (j:=(k:Int)) (OS.sv N T (i:=0) V) (by(try simp only[BS]at g1);omega) (by(try simp only[BS]at g1);omega))) (bt 8 (fun g1=>(ql 3 0 (vI (a9 k) (by(try simp only[BS]at g1);omega)) V V)) Hn_)) V V fun _=>?_
  refine az 3 2 (v:=((decide ((k:Int)<(z.length:Int)))&&((z.getD k 0)==(l.getD i 0)))) V V V V (fun a5=>?_) (fun a5=>?_)
  ·try simp only[BS]at a5
   refine wU 1 [] 9 9 [55] [(9,(iI ((i:Int)+1)))] (vi (n:=(i:Int)+1) M) V fun _=>?_
   refine b4 _ _ _ ?_ ⟨z,i+1,A,E,U,_,(a3),T,N,(agC V (agC V (agC V (agC V agN)))),V,(by first|assumption|omega|(simp at *;omega)),(by first|(rw[cp_ins hk h3 M];exact gn M h2)|(rw[←gn M h2];exact ig hk M M))⟩;omega
  try simp only[BS]at a5
  refine aa ?_;refine wm (sL A z.length E) V V V ?_;refine zlo ([0]:List Int) T V (RL.cs ⟨V,by omega⟩ RL.nl) V fun et e5 f0 ea b8 a7=>?_
  refine zao 0 N a7 (OS.sv b8 a7 (i:=1) V) V V V k_ fun a_ Z c9 c3 ay a1=>?_
  refine wa (sL a_ (z++([0]:List Int)).length Z) V V V ?_;refine ae 2 V ?_;have la:(z++([0]:List Int)).length=z.length+1:=by simp
  refine aF V ?_;refine fm (sL a_ (z++([0]:List Int)).length Z) V V V ?_;refine fm (iI (k:Int)) V V V ?_;refine aK (v:=(iI ((k:Int)+1))) (id:= .v) (ap_add V V (w_i64 (n:=(k:Int)+1) M)) V V (fE V) (eE _) ?_;refine e9 (id:= .r) (rs_cutX (α:=Int) (i:=k+1) ay a1.log0 (q:=0) V V V V (optN M) M) V V (by rintro _ _ _ ⟨_,_,_,hH,_⟩;simp only at hH;subst hH;exact did_r fun b hb=>absurd hb a0d) (⟨.inl V,⟨.inl V,⟨.inl V,trivial⟩⟩⟩) ?_;rintro _ _ _ ⟨ez,e6,rfl,al,d3,bb⟩ ci bk;simp only at al;replace al:=al.symm;subst al;have aw:=HS.lg a1.log0 a1 bk;generalize ({{c3 with log:=[]} with log:=ci}:Heap)=b5 at aw⊢;refine fm (sL a_ (z++([0]:List Int)).length Z) V V V ?_;refine fm (iI (k:Int)) V V V ?_;refine e9 (id:= .r) (rs_cutX (α:=Int) (i:=k) ay aw.log0 (q:=0) V V V V (optN M) M) V V (by rintro _ _ _ ⟨_,_,_,hH,_⟩;simp only at hH;subst hH;exact did_r fun b hb=>absurd hb a0d) (⟨.inl V,⟨.inl V,⟨.inr trivial,⟨.inr trivial,⟨.inr trivial,⟨.inr trivial,trivial⟩⟩⟩⟩⟩⟩) ?_;rintro _ _ _ ⟨e0,fd,rfl,an,b9,dl⟩ co bl;simp only at an;replace an:=an.symm;subst an;have a2:=HS.lg aw.log0 aw bl;generalize ({{b5 with log:=[]} with log:=co}:Heap)=ds at a2⊢;refine e9 (id:= .x (c9.map Prod.fst)) (rs_cp (α:=Int) (i:=k+1) ay a2.log0 (q:=0) V V bb M b9 V V V) V V (by rintro _ _ dd ⟨rfl,av,_,hwr⟩;exact dK V V (Wr.did hwr)) (⟨.inl V,⟨.inl V,⟨.inl V,⟨.inl V,⟨.inl V,⟨.inl V,⟨.inl V,trivial⟩⟩⟩⟩⟩⟩⟩) ?_;rintro _ c4 dd ⟨rfl,av,ag,_⟩ c0 bz;replace ag:=HS.lg ag a2 bz;generalize ({c4 with log:=c0}:Heap)=dt at ag⊢;have d2:=OS.len' av;refine ew ?_;refine aj 1 V ?_;refine aa ?_;refine cj 4 0 51 54 [] [(53,(iI (l.getD i 0))),(54,(.pointer (some ⟨sB (sL a_ (z++([0]:List Int)).length Z),sO (sL a_ (z++([0]:List Int)).length Z)+k *Rp.sz Int,none⟩)))] (Ha_ (Sv.ix (j:=(k:Int)) (OS.sv av ag (i:=0) V) M M) Hn_) (by kernel_rfl) V fun _=>?_
  refine d5 (cy (α:=Int) (j:=k) (off:=0) (q:=0) (l.getD i 0) av ag V V V V V V V V (aT (x:=(0:Int)) M) V (by rintro cs ⟨rfl,_⟩;exact⟨a06 V,V,by omega⟩)) V ?_;rintro _ em dk ⟨a0,cc,_⟩;have dn:=OS.len' a0;refine ae 2 V ?_;refine wU 1 [] 9 9 [55] [(9,(iI ((i:Int)+1)))] (vi (n:=(i:Int)+1) M) V fun _=>?_
  refine b4 _ _ _ ?_ ⟨(cpL (z++([0]:List Int)) (k+1) ((z++([0]:List Int)).drop k)).set k (l.getD i 0),i+1,a_,Z,dk,_,(a3),(HS.sub cc (a02 _ _)),(OS.norm a0),(agC (show Value.slice a_ (z++([0]:List Int)).length Z=Value.slice a_ ((cpL (z++([0]:List Int)) (k+1) ((z++([0]:List Int)).drop k)).set k (l.getD i 0)).length Z by rw[OS.len' a0]) (agC V (agC V (agC V agN)))),V,(by first|assumption|omega|(simp at *;omega)),(by first|(rw[cp_ins hk h3 M];exact gn M h2)|(rw[←gn M h2];exact ig hk M M))⟩;omega
 try simp only[BS]at c7
 refine wT 1 [] 2 2 [56] [(2,(sL A z.length E))] V fun _=>?_
 refine am ⟨.inr V,_,V,A,E,z,U,_,(a3),(HS.only T (i:=0) V),V,N,(by exact uni_all M h2)⟩
theorem vreads_c{aw:Option Addr}{ax:Nat}(z:VInT)(hs:HS (.of H []) F H [] R)(hk:in64 z.i.op)(hl:in64 z.i.a)(hm:in64 z.i.b)(hn:in64 z.i.c)(hp:in64 z.i.n)(A:SR F (sL aw z.args.length ax) z.args)(hT:TB 37 tabC F)(k8:z.args.length<=1048576):kKt ex 82 [(aG [(iI z.i.op),(iI z.i.a),(iI z.i.b),(iI z.i.c),(iI z.i.n),(sL aw z.args.length ax)])] H fun v H'=> ∃(ar:Option Addr) (kr:Nat) (r:List Int) (p:Fp) (F':Fz),Fz.le F F'/\HS (.of H []) F' H' [p] R/\v=sL ar r.length kr/\OS F' (sL ar r.length kr) r p/\r=aI z:=by
 refine aC Tryd.func82 V V ?_;refine aj 1 V ?_;refine aa ?_;refine aV (aO hs V V) V V ?_;rintro _ H2 _ ⟨b1,rfl,a7,_⟩;refine wa (sL none 0 0) V V V ?_;refine ae 3 V ?_;refine bF 1 6 10 [] [(10,(.bool (!(alV z.i.op))))] (Hr_ 2 0 (Hc_ 3 (m1.lV ex z.i.op H2) Hn_)) a7 V V fun _=>?_
 refine az 1 2 (v:=(!(alV z.i.op))) V V V V (fun c4=>?_) (fun c4=>?_)
 ·try simp only[BS]at c4
  refine wT 1 [] 2 2 [] [(2,(sL none 0 0))] V fun _=>?_
  refine am ⟨.inr V,_,V,none,0,([]:List Int),[],_,fR,(HS.cons (HS.forget a7)),V,(OS.nil:OS _ _ _ []),(by exact reads_no X)⟩
 try simp only[BS]at c4
 refine aa ?_;refine bn 3 0 12 14 [] [(14,(iI z.i.op))] (Hr_ 2 0 Hn_) a7 V V fun _=>?_
 refine aH (aq V V V) V V (m1.mInfo_c ex z.i.op (HS.call a7) M hT) ?_;rintro _ H7 ⟨x7,o7,F7,c5,dt,rfl,g6,g7,rfl,rfl⟩;replace dt:=HS.back a7 V dt;replace hT:=hT.mono c5;replace A:=A.mono c5;refine cj 3 4 16 17 [11] [(16,(aG [(tX (aW z.i.op).name.b),(iI (aW z.i.op).form),(.bool (aW z.i.op).ra),(.bool (aW z.i.op).wa),(.bool (aW z.i.op).rb),(.bool (aW z.i.op).mt),(iI (aW z.i.op).words)])),(17,(.bool (infO z.i.op)))] Hn_ (by kernel_rfl) V fun _=>?_
 refine zn dt V fun b9 hC f6=>?_
 refine sgo 2 8 1 0 [4] [] (Hr_ 8 1 Hn_) f6 V V fun ht hD dd=>?_
 refine ae 2 V ?_;refine wT 3 [] 1 0 [5] [(5,(sL none 0 0))] V fun _=>?_
 refine bF 1 18 19 [] [(19,(.bool (aW z.i.op).ra))] (Hr_ 1 1 Hn_) dd V V fun _=>?_
 have b3:=HS.snoc dd;let b5:Fp:=(fP b1 [(iI z.i.op),(iI z.i.a),(iI z.i.b),(iI z.i.c),(iI z.i.n),(sL aw z.args.length ax)])
 let b6:Fp:=(fP b9 [(tX (aW z.i.op).name.b),(iI (aW z.i.op).form),(.bool (aW z.i.op).ra),(.bool (aW z.i.op).wa),(.bool (aW z.i.op).rb),(.bool (aW z.i.op).mt),(iI (aW z.i.op).words)])
 refine bH (fun f H'=> ∃(l1:List Int) (E:Option Addr) (U:Nat) (al:Fp) (F':Fz),Fz.le F7 F'/\HS (Base.of H []) F' H' [b5,b6,al] R/\OS F' (sL E l1.length U) l1 al/\aA f [(1,(pT b1 0)),(3,(pT b9 0)),(5,(sL E l1.length U))]/\(l1=if(aW z.i.op).ra=true then [z.i.a] else [])) (fun dv=>?_) ?_
 ·refine az 0 0 (v:=(aW z.i.op).ra) V V V V (fun cc=>?_) (fun cc=>?_)
  ·try simp only[BS]at cc
   refine aa ?_;refine bn 4 0 20 23 [] [(20,(sL none 0 0)),(23,(iI z.i.a))] (Hr_ 3 0 Hn_) b3 V V fun _=>?_
   refine zlo ([z.i.a]:List Int) b3 V (RL.cs ⟨V,by omega⟩ RL.nl) V fun hW h4 h7 hF fi dk=>?_
   refine zao 2 (OS.nil:OS _ (sL none 0 0) ([]:List Int) []) dk (OS.sv fi dk (i:=3) V) V V V k_ fun b7 d4 e5 hG b2 f7=>?_
   have b2:OS F7 (sL b7 ([z.i.a]:List Int).length d4) ([z.i.a]:List Int) e5:=b2;refine wa (sL b7 ([z.i.a]:List Int).length d4) V V V ?_;refine ae 0 V ?_;exact dv _ _ ⟨([z.i.a]:List Int),b7,d4,e5,_,fR,(HS.sub f7 (a02 _ _)),b2,(agC V (agC V (agC V agN))),(by first|(rw[if_pos o_];done)|(rw[if_neg (by first|omega|(intro hh;simp_all;done))];done)|(rw[if_neg (by first|omega|(intro hh;simp_all;done)),a0r]))⟩
  try simp only[BS]at cc
  exact dv _ _ ⟨([]:List Int),none,0,[],_,fR,b3,(OS.nil:OS _ (sL none 0 0) ([]:List Int) []),(agC V (agC V (agC V agN))),(by first|(rw[if_pos o_];done)|(rw[if_neg (by first|omega|(intro hh;simp_all;done))];done)|(rw[if_neg (by first|omega|(intro hh;simp_all;done)),a0r]))⟩
 skip;rintro h0 hE ⟨l1,E,U,al,g1,bk,a6,a8,c6,q1⟩;refine ap _ c6 (fun _=>?_);clear c6;replace hT:=hT.mono bk;replace A:=A.mono bk;have n1:l1.length<=1:=by rw[q1];exact eD
 refine aj 3 V ?_;refine bF 1 26 27 [] [(27,(.bool (aW z.i.op).rb))] (Hr_ 1 1 Hn_) a6 V V fun _=>?_
 refine bH (fun f H'=> ∃(l2:List Int) (N:Option Addr) (a_:Nat) (an:Fp) (F':Fz),Fz.le g1 F'/\HS (Base.of H []) F' H' [b5,b6,an] R/\OS F' (sL N l2.length a_) l2 an/\aA f [(1,(pT b1 0)),(5,(sL N l2.length a_))]/\(l2=l1++if(aW z.i.op).rb=true then [z.i.b] else [])) (fun d1=>?_) ?_
 ·refine az 0 0 (v:=(aW z.i.op).rb) V V V V (fun ch=>?_) (fun ch=>?_)
  ·try simp only[BS]at ch
   refine aa ?_;refine bn 4 0 28 31 [] [(28,(sL E l1.length U)),(31,(iI z.i.b))] (Hr_ 3 0 Hn_) a6 V V fun _=>?_
   refine zlo ([z.i.b]:List Int) a6 V (RL.cs ⟨V,by omega⟩ RL.nl) V fun hX h5 h8 hI f0 dl=>?_
   refine zao 2 a8 dl (OS.sv f0 dl (i:=3) V) V V V k_ fun ez e2 g8 hJ f1 f8=>?_
   refine wa (sL ez (l1++([z.i.b]:List Int)).length e2) V V V ?_;refine ae 0 V ?_;exact d1 _ _ ⟨l1++([z.i.b]:List Int),ez,e2,g8,_,fR,(HS.sub f8 (a02 _ _)),f1,(agC V (agC V agN)),(by first|(rw[if_pos o_];done)|(rw[if_neg (by first|omega|(intro hh;simp_all;done))];done)|(rw[if_neg (by first|omega|(intro hh;simp_all;done)),a0r]))⟩
  try simp only[BS]at ch
  exact d1 _ _ ⟨l1,E,U,al,_,fR,a6,a8,(agC V (agC V agN)),(by first|(rw[if_pos o_];done)|(rw[if_neg (by first|omega|(intro hh;simp_all;done))];done)|(rw[if_neg (by first|omega|(intro hh;simp_all;done)),a0r]))⟩
 skip;rintro h1 hH ⟨l2,N,a_,an,g2,bl,ay,a9,c7,q2⟩;refine ap _ c7 (fun _=>?_);clear c7;replace hT:=hT.mono bl;replace A:=A.mono bl;have n2:l2.length<=2:=by rw[q2,a04];exact a1U n1 eD
 refine aj 3 V ?_;refine bF 1 34 43 [] [(43,(.bool ((z.i.op==11)||(z.i.op==12))))] (Hr_ 2 0 (bt 7 (fun _=>(ql 3 0 (g_ ay V) V V)) Hn_)) ay V V fun _=>?_
 refine bH (fun f H'=> ∃(l3:List Int) (T:Option Addr) (Z:Nat) (av:Fp) (F':Fz),Fz.le g2 F'/\HS (Base.of H []) F' H' [b5,b6,av] R/\OS F' (sL T l3.length Z) l3 av/\aA f [(1,(pT b1 0)),(5,(sL T l3.length Z))]/\(l3=l2++if z.i.op=11\/z.i.op=12 then [z.i.c] else [])) (fun d2=>?_) ?_
 ·refine az 0 0 (v:=((z.i.op==11)||(z.i.op==12))) V V V V (fun ci=>?_) (fun ci=>?_)
  ·try simp only[BS]at ci
   refine aa ?_;refine bn 4 0 44 47 [] [(44,(sL N l2.length a_)),(47,(iI z.i.c))] (Hr_ 3 0 Hn_) ay V V fun _=>?_
   refine zlo ([z.i.c]:List Int) ay V (RL.cs ⟨V,by omega⟩ RL.nl) V fun hY h6 h9 hM f2 dn=>?_
   refine zao 2 a9 dn (OS.sv f2 dn (i:=3) V) V V V k_ fun e0 e3 g9 hQ f3 f9=>?_
   refine wa (sL e0 (l2++([z.i.c]:List Int)).length e3) V V V ?_;refine ae 0 V ?_;exact d2 _ _ ⟨l2++([z.i.c]:List Int),e0,e3,g9,_,fR,(HS.sub f9 (a02 _ _)),f3,(agC V (agC V agN)),(by first|(rw[if_pos o_];done)|(rw[if_neg (by first|omega|(intro hh;simp_all;done))];done)|(rw[if_neg (by first|omega|(intro hh;simp_all;done)),a0r]))⟩
  try simp only[BS]at ci
  exact d2 _ _ ⟨l2,N,a_,an,_,fR,ay,a9,(agC V (agC V agN)),(by first|(rw[if_pos o_];done)|(rw[if_neg (by first|omega|(intro hh;simp_all;done))];done)|(rw[if_neg (by first|omega|(intro hh;simp_all;done)),a0r]))⟩
 skip;rintro h2 hK ⟨l3,T,Z,av,g3,bz,a0,bb,c8,q3⟩;refine ap _ c8 (fun _=>?_);clear c8;replace hT:=hT.mono bz;replace A:=A.mono bz;have n3:l3.length<=3:=by rw[q3,a04];exact a1U n2 eD
 refine aj 3 V ?_;refine bF 1 50 53 [] [(53,(.bool (z.i.op==6)))] (Hr_ 2 0 Hn_) a0 V V fun _=>?_
 refine bH (fun f H'=> ∃(l4:List Int) (ad:Option Addr) (ag:Nat) (a4:Fp) (F':Fz),Fz.le g3 F'/\HS (Base.of H []) F' H' [b5,b6,a4] R/\OS F' (sL ad l4.length ag) l4 a4/\aA f [(5,(sL ad l4.length ag))]/\(l4=l3++if z.i.op=6 then z.args else [])) (fun d3=>?_) ?_
 ·refine az 0 0 (v:=(z.i.op==6)) V V V V (fun co=>?_) (fun co=>?_)
  ·try simp only[BS]at co
   refine aa ?_;refine bn 3 0 54 56 [] [(54,(sL T l3.length Z)),(56,(sL aw z.args.length ax))] (Hr_ 2 0 Hn_) a0 V V fun _=>?_
   refine zao 2 bb a0 (SR.sv A a0) V V V k_ fun e1 e4 ha hS f4 g0=>?_
   refine wa (sL e1 (l3++z.args).length e4) V V V ?_;refine ae 0 V ?_;exact d3 _ _ ⟨l3++z.args,e1,e4,ha,_,fR,g0,f4,(agC V agN),(by first|(rw[if_pos o_];done)|(rw[if_neg (by first|omega|(intro hh;simp_all;done))];done)|(rw[if_neg (by first|omega|(intro hh;simp_all;done)),a0r]))⟩
  try simp only[BS]at co
  exact d3 _ _ ⟨l3,T,Z,av,_,fR,a0,bb,(agC V agN),(by first|(rw[if_pos o_];done)|(rw[if_neg (by first|omega|(intro hh;simp_all;done))];done)|(rw[if_neg (by first|omega|(intro hh;simp_all;done)),a0r]))⟩
 skip;rintro h3 hR ⟨l4,ad,ag,a4,hz,c0,go,em,c9,q4⟩;refine ap _ c9 (fun _=>?_);clear c9;have n4:l4.length<=1048579:=by rw[q4,a04];(have hq:(if z.i.op=6 then z.args else []).length<=z.args.length:=by split<;>first|exact a0b _|exact a0I _);omega
 refine aj 2 V ?_;refine aa ?_;refine wm (sL ad l4.length ag) V V V ?_;obtain⟨hA,c3,ds,f5,hu⟩:=OS.frz em go (i:=2) V;replace hT:=(hT.mono c0).mono c3;refine aH (aq V V V) V V (unique_c ex l4 (HS.call ds) f5 hT M) ?_;rintro _ hV ⟨b8,ea,ib,hb,hB,fd,b4,rfl,et,rfl⟩;replace b4:=HS.back ds V b4;refine wa (sL b8 (da [] l4).length ea) V V V ?_;refine ae 1 V ?_;refine am ⟨.inr V,_,V,b8,ea,da [] l4,hb,_,(fT (fT (fT (fT (fT (fT (c5) bk) bl) bz) c0) c3) fd),(HS.only b4 (i:=3) V),V,et,(by exact reads_yes X (by simp only[q4,q3,q2,q1,i5,a0p]))⟩
theorem l5{a1:Option Addr}{a3:Nat}(z:VInT)(hs:HS (.of H []) F H [] R)(f8:in64 z.i.op)(f9:in64 z.i.a)(go:in64 z.i.b)(g0:in64 z.i.c)(g1:in64 z.i.n)(A:SR F (sL a1 z.args.length a3) z.args)(hT:TB 37 tabC F)(hE:z.args.length<=1048576):kKt ex 42 [(aG [(iI z.i.op),(iI z.i.a),(iI z.i.b),(iI z.i.c),(iI z.i.n),(sL a1 z.args.length a3)])] H fun v H'=> ∃(ar:Option Addr) (kr:Nat) (r:List Int) (F':Fz),Fz.le F F'/\HS (.of H []) F' H' [] R/\v=sL ar r.length kr/\SR F' (sL ar r.length kr) r/\r=aI z:=by
 refine aC Tryd.func42 V V ?_;refine aj 1 V ?_;refine aa ?_;refine aV (aO hs V V) V V ?_;rintro _ H2 _ ⟨b1,rfl,a4,_⟩;refine wa (sL none 0 0) V V V ?_;refine ae 2 V ?_;refine wT 3 [] 1 0 [3] [(3,(sL none 0 0))] V fun _=>?_
 refine bF 1 6 10 [] [(10,(.bool (!(alV z.i.op))))] (Hr_ 2 0 (Hc_ 3 (m1.ralw_c_q ex z.i.op H2) Hn_)) a4 V V fun _=>?_
 refine az 1 2 (v:=(!(alV z.i.op))) V V V V (fun c5=>?_) (fun c5=>?_)
 ·try simp only[BS]at c5
  refine wT 1 [] 2 2 [11] [(2,(sL none 0 0))] V fun _=>?_
  refine am ⟨.inr V,_,V,none,0,([]:List Int),_,fR,(HS.forget a4),V,(SR.nil:SR F (sL none 0 0) ([]:List Int)),(by exact reads_no X)⟩
 try simp only[BS]at c5
 have b0:alV z.i.op=true:=by assumption
 refine aa ?_;refine bn 3 0 12 14 [] [(14,(iI z.i.op))] (Hr_ 2 0 Hn_) a4 V V fun _=>?_
 refine aH (aq V V V) V V (m3.rinfo_c ex z.i.op (HS.call a4) l_ hT) ?_;rintro _ H8 ⟨x8,F8,c3,c9,rfl,f5,f6,rfl⟩;replace c9:=HS.back a4 V c9;replace hT:=hT.mono c3;replace A:=A.mono c3;refine zn c9 V fun b9 hf e5=>?_
 refine sgo 1 5 1 0 [] [] (Hr_ 5 1 Hn_) e5 V V fun g4 hg an=>?_
 refine ae 3 V ?_;refine bF 1 16 17 [] [(17,(.bool (aR z.i.op).ra))] (Hr_ 1 1 Hn_) an V V fun _=>?_
 let b4:Fp:=(fP b1 [(iI z.i.op),(iI z.i.a),(iI z.i.b),(iI z.i.c),(iI z.i.n),(sL a1 z.args.length a3)])
 let b5:Fp:=(fP b9 [(tX (aR z.i.op).name.b),(iI (aR z.i.op).form),(.bool (aR z.i.op).ra),(.bool (aR z.i.op).wa),(.bool (aR z.i.op).rb),(.bool (aR z.i.op).mt),(iI (aR z.i.op).words)])
 refine bH (fun f H'=> ∃(l1:List Int) (U:Option Addr) (Z:Nat) (F':Fz),Fz.le F8 F'/\HS (Base.of H []) F' H' [b4,b5] R/\SR F' (sL U l1.length Z) l1/\aA f [(1,(pT b1 0)),(3,(sL U l1.length Z)),(4,(pT b9 0))]/\(l1=da [] (if(aW z.i.op).ra=true then [z.i.a] else []))) (fun dk=>?_) ?_
 ·refine az 0 0 (v:=(aR z.i.op).ra) V V V V (fun ch=>?_) (fun ch=>?_)
  ·try simp only[BS]at ch
   refine aa ?_;refine bn 4 0 18 21 [] [(18,(sL none 0 0)),(21,(iI z.i.a))] (Hr_ 3 0 Hn_) an V V fun _=>?_
   refine aH (aq V V V) V V (m6.dG ex ([]:List Int) z.i.a (HS.call an) (SR.nil:SR F8 (sL none 0 0) ([]:List Int)) l_ hT l_) ?_;rintro _ hk ⟨b6,ds,hA,g8,e1,bk,rfl,d3,rfl⟩;replace bk:=HS.back an V bk;refine wa (sL b6 (dJ ([]:List Int) z.i.a).length ds) V V V ?_;refine ae 0 V ?_;exact dk _ _ ⟨dJ ([]:List Int) z.i.a,b6,ds,_,(e1),bk,d3,(agC V (agC V (agC V agN))),(by first|exact rrT (by rw[←vra];assumption)|exact rrF (by rw[←vra];simp_all))⟩
  try simp only[BS]at ch
  exact dk _ _ ⟨([]:List Int),none,0,_,fR,an,(SR.nil:SR F8 (sL none 0 0) ([]:List Int)),(agC V (agC V (agC V agN))),(by first|exact rrT (by rw[←vra];assumption)|exact rrF (by rw[←vra];simp_all))⟩
 skip;rintro ht hj ⟨l1,U,Z,f2,a8,av,a5,c4,q1⟩;refine ap _ c4 (fun _=>?_);clear c4;replace hT:=hT.mono a8;replace A:=A.mono a8;have n1:=rr_len1 q1;refine aj 3 V ?_;refine bF 1 23 24 [] [(24,(.bool (aR z.i.op).rb))] (Hr_ 1 1 Hn_) av V V fun _=>?_
 refine bH (fun f H'=> ∃(l2:List Int) (a_:Option Addr) (ad:Nat) (F':Fz),Fz.le f2 F'/\HS (Base.of H []) F' H' [b4,b5] R/\SR F' (sL a_ l2.length ad) l2/\aA f [(1,(pT b1 0)),(3,(sL a_ l2.length ad)),(4,(pT b9 0))]/\(l2=da l1 (if(aW z.i.op).rb=true then [z.i.b] else []))) (fun dl=>?_) ?_
 ·refine az 0 0 (v:=(aR z.i.op).rb) V V V V (fun ci=>?_) (fun ci=>?_)
  ·try simp only[BS]at ci
   refine aa ?_;refine bn 4 0 25 28 [] [(25,(sL U l1.length Z)),(28,(iI z.i.b))] (Hr_ 3 0 Hn_) av V V fun _=>?_
   refine aH (aq V V V) V V (m6.dG ex l1 z.i.b (HS.call av) a5 l_ hT l_) ?_;rintro _ hm ⟨b7,dt,hB,g9,e2,bl,rfl,d4,rfl⟩;replace bl:=HS.back av V bl;refine wa (sL b7 (dJ l1 z.i.b).length dt) V V V ?_;refine ae 0 V ?_;exact dl _ _ ⟨dJ l1 z.i.b,b7,dt,_,(e2),bl,d4,(agC V (agC V (agC V agN))),(by first|exact rrT (by rw[←vrb];assumption)|exact rrF (by rw[←vrb];simp_all))⟩
  try simp only[BS]at ci
  exact dl _ _ ⟨l1,U,Z,_,fR,av,a5,(agC V (agC V (agC V agN))),(by first|exact rrT (by rw[←vrb];assumption)|exact rrF (by rw[←vrb];simp_all))⟩
 skip;rintro hu hl ⟨l2,a_,ad,f3,a9,aw,a6,c6,q2⟩;refine ap _ c6 (fun _=>?_);clear c6;replace hT:=hT.mono a9;replace A:=A.mono a9;have n2:=rr_len2 n1 q2;refine aj 3 V ?_;refine bF 1 30 32 [] [(32,(.bool ((aR z.i.op).form==4)))] (Hr_ 1 1 Hn_) aw V V fun _=>?_
 refine bH (fun f H'=> ∃(l3:List Int) (ag:Option Addr) (al:Nat) (F':Fz),Fz.le f3 F'/\HS (Base.of H []) F' H' [b4,b5] R/\SR F' (sL ag l3.length al) l3/\aA f [(1,(pT b1 0)),(3,(sL ag l3.length al))]/\(l3=da l2 (if z.i.op=11\/z.i.op=12 then [z.i.c] else []))) (fun dn=>?_) ?_
 ·refine az 0 0 (v:=((aR z.i.op).form==4)) V V V V (fun co=>?_) (fun co=>?_)
  ·try simp only[BS]at co
   refine aa ?_;refine bn 4 0 33 36 [] [(33,(sL a_ l2.length ad)),(36,(iI z.i.c))] (Hr_ 3 0 Hn_) aw V V fun _=>?_
   refine aH (aq V V V) V V (m6.dG ex l2 z.i.c (HS.call aw) a6 l_ hT l_) ?_;rintro _ hp ⟨b8,dv,hC,ha,e3,bz,rfl,ea,rfl⟩;replace bz:=HS.back aw V bz;refine wa (sL b8 (dJ l2 z.i.c).length dv) V V V ?_;refine ae 0 V ?_;exact dn _ _ ⟨dJ l2 z.i.c,b8,dv,_,(e3),bz,ea,(agC V (agC V agN)),(by first|exact rrT ((vf4 b0).1 X)|exact rrF (fun hh=>absurd ((vf4 b0).2 hh) M))⟩
  try simp only[BS]at co
  exact dn _ _ ⟨l2,a_,ad,_,fR,aw,a6,(agC V (agC V agN)),(by first|exact rrT ((vf4 b0).1 X)|exact rrF (fun hh=>absurd ((vf4 b0).2 hh) M))⟩
 skip;rintro hv hn ⟨l3,ag,al,f4,bb,e6,d2,c7,q3⟩;refine ap _ c7 (fun _=>?_);clear c7;refine aj 3 V ?_;refine wT 2 [] 1 0 [5] [(5,(iI 0))] V fun _=>?_
 refine ah (fun(mm:Nat) f H'=> ∃(l4:List Int) (k:Nat) (E:Option Addr) (N:Nat) (F':Fz),Fz.le f4 F'/\HS (Base.of H []) F' H' [b4,b5] R/\SR F' (sL E l4.length N) l4/\aA f [(1,(pT b1 0)),(3,(sL E l4.length N)),(5,(iI (k:Int)))]/\mm=z.args.length-k/\(l4=da l3 (z.args.take k))/\(k<=z.args.length)/\(k=0\/z.i.op=6)) _ ⟨l3,0,ag,al,_,fR,e6,d2,(agC V (agC V (agC V agN))),V,s_,(by first|assumption|omega|(simp at *;omega)),(by first|assumption|omega|(simp at *;omega))⟩ ?_;rintro g5 hw hq ⟨l4,k,E,N,hb,a2,T,a7,c8,rfl,q4,q5,q6⟩ fd;refine ap _ c8 (fun _=>?_);clear c8;replace hT:=(hT.mono bb).mono a2;replace A:=(A.mono bb).mono a2;have n4:=rr_len q1 q2 q3 q4;refine aj 2 V ?_;refine bF 1 38 48 [] [(48,(.bool ((decide ((k:Int)<(z.args.length:Int)))&&(z.i.op==6))))] (Hr_ 2 0 (bt 8 (fun _=>(ql 3 0 (g_ T V) V V)) Hn_)) T V V fun _=>?_
 refine az 3 5 (v:=((decide ((k:Int)<(z.args.length:Int)))&&(z.i.op==6))) V V V V (fun c0=>?_) (fun c0=>?_)
 ·try simp only[BS]at c0
  refine aa ?_;obtain⟨g3,dd⟩:=Sv.view (SR.sv A T);have hz:=fI (dd k);refine bn 6 0 51 56 [] [(51,(sL E l4.length N)),(56,(iI (z.args.getD k 0)))] (Hr_ 2 0 (Ha_ (Sv.ix (j:=(k:Int)) (SR.sv A T) l_ l_) (Hl_ 5 (ql 3 0 (vI (dd k) l_) V V) Hn_))) T V V fun _=>?_
  refine aH (aq V V V) V V (m6.dG ex l4 (z.args.getD k 0) (HS.call T) a7 l_ hT l_) ?_;rintro _ hr ⟨cc,d1,hD,he,e4,b2,rfl,em,rfl⟩;replace b2:=HS.back T V b2;refine wa (sL cc (dJ l4 (z.args.getD k 0)).length d1) V V V ?_;refine ae 2 V ?_;refine wU 1 [] 49 50 [5] [(5,(iI ((k:Int)+1)))] (vi (n:=(k:Int)+1) l_) V fun _=>?_
  refine fd _ _ _ ?_ ⟨dJ l4 (z.args.getD k 0),k+1,cc,d1,_,(fT (a2) e4),b2,em,(agC V (agC V (agC V agN))),V,(by exact gn M q4),(by first|assumption|omega|(simp at *;omega)),(by first|assumption|omega|(simp at *;omega))⟩;omega
 try simp only[BS]at c0
 refine wT 1 [] 2 2 [58] [(2,(sL E l4.length N))] V fun _=>?_
 refine am ⟨.inr V,_,V,E,N,l4,_,(fT (fT (fT (fT (c3) a8) a9) bb) a2),(HS.forget T),V,a7,(by exact rr_end X q1 q2 q3 q4 q6 M)⟩
theorem jL{N:Option Addr}{T:Nat}(z:VInT)(hs:HS (.of H []) F H [] R)(a1:in64 z.i.op)(a2:in64 z.i.a)(a3:in64 z.i.b)(a4:in64 z.i.c)(a5:in64 z.i.n)(a6:SR F (sL N z.args.length T) z.args)(hT:TB 37 tabC F):kKt ex 59 [(aG [(iI z.i.op),(iI z.i.a),(iI z.i.b),(iI z.i.c),(iI z.i.n),(sL N z.args.length T)])] H fun v H'=> ∃(ar:Option Addr) (kr:Nat) (r:List Int) (p:Fp) (F':Fz),Fz.le F F'/\HS (.of H []) F' H' [p] R/\v=sL ar r.length kr/\OS F' (sL ar r.length kr) r p/\r=ab z:=by
 refine aC Tryd.func59 V V ?_;refine aj 1 V ?_;refine aa ?_;refine aV (aO hs V V) V V ?_;rintro _ H2 _ ⟨b1,rfl,E,_⟩;refine wa (sL none 0 0) V V V ?_;refine ae 3 V ?_;refine bF 1 5 9 [] [(9,(.bool (!(alV z.i.op))))] (Hr_ 2 0 (Hc_ 3 (m1.lV ex z.i.op H2) Hn_)) E V V fun _=>?_
 refine az 1 2 (v:=(!(alV z.i.op))) V V V V (fun c4=>?_) (fun c4=>?_)
 ·try simp only[BS]at c4
  refine wT 1 [] 2 2 [] [(2,(sL none 0 0))] V fun _=>?_
  refine am ⟨.inr V,_,V,none,0,([]:List Int),[],_,fR,(HS.cons (HS.forget E)),V,(OS.nil:OS _ _ _ []),(by exact writes_no X)⟩
 try simp only[BS]at c4
 refine aa ?_;refine bn 3 0 11 13 [] [(13,(iI z.i.op))] (Hr_ 2 0 Hn_) E V V fun _=>?_
 refine aH (aq V V V) V V (m1.mInfo_c ex z.i.op (HS.call E) M hT) ?_;rintro _ H7 ⟨x7,o7,F7,ad,a_,rfl,ax,ay,rfl,rfl⟩;replace a_:=HS.back E V a_;refine cj 3 4 15 16 [10] [(15,(aG [(tX (aW z.i.op).name.b),(iI (aW z.i.op).form),(.bool (aW z.i.op).ra),(.bool (aW z.i.op).wa),(.bool (aW z.i.op).rb),(.bool (aW z.i.op).mt),(iI (aW z.i.op).words)])),(16,(.bool (infO z.i.op)))] Hn_ (by kernel_rfl) V fun _=>?_
 refine zn a_ V fun b9 a9 av=>?_
 refine sgo 2 8 1 0 [4] [] (Hr_ 8 1 Hn_) av V V fun a8 bb A=>?_
 refine ae 3 V ?_;refine bF 1 17 30 [] [(30,(.bool (((aW z.i.op).wa||(z.i.op==6))||(z.i.op==38))))] (Hr_ 1 1 (bt 5 (fun _=>(ql 3 0 (g_ A V) V V)) (bt 11 (fun _=>(ql 3 0 (g_ A V) V V)) Hn_))) A V V fun _=>?_
 refine az 1 2 (v:=(((aW z.i.op).wa||(z.i.op==6))||(z.i.op==38))) V V V V (fun U=>?_) (fun U=>?_)
 ·try simp only[BS]at U
  refine aa ?_;refine bn 3 0 31 33 [] [(33,(iI z.i.a))] (Hr_ 2 0 Hn_) A V V fun _=>?_
  refine zlo ([z.i.a]:List Int) A V (RL.cs ⟨V,by omega⟩ RL.nl) V fun Z ag a0 bk an aw=>?_
  refine wa (sL Z ([z.i.a]:List Int).length ag) V V V ?_;refine ae 1 V ?_;refine am ⟨.inr V,_,V,Z,ag,([z.i.a]:List Int),a0,_,(ad),(HS.only aw (i:=2) V),V,an,(by exact kT X (or_assoc.1 X))⟩
 try simp only[BS]at U
 refine wT 1 [] 2 2 [] [(2,(sL none 0 0))] V fun _=>?_
 refine am ⟨.inr V,_,V,none,0,([]:List Int),[],_,(ad),(HS.cons (HS.forget A)),V,(OS.nil:OS _ _ _ []),(by exact writes_not q_)⟩
theorem jW{N:Option Addr}{T:Nat}(z:VInT)(hs:HS (.of H []) F H [] R)(a4:in64 z.i.op)(a5:in64 z.i.a)(a6:in64 z.i.b)(a7:in64 z.i.c)(a8:in64 z.i.n)(a9:SR F (sL N z.args.length T) z.args)(hT:TB 37 tabC F):kKt ex 43 [(aG [(iI z.i.op),(iI z.i.a),(iI z.i.b),(iI z.i.c),(iI z.i.n),(sL N z.args.length T)])] H fun v H'=> ∃(ar:Option Addr) (kr:Nat) (r:List Int) (p:Fp) (F':Fz),Fz.le F F'/\HS (.of H []) F' H' [p] R/\v=sL ar r.length kr/\OS F' (sL ar r.length kr) r p/\r=ab z:=by
 refine aC Tryd.func43 V V ?_;refine aj 1 V ?_;refine aa ?_;refine aV (aO hs V V) V V ?_;rintro _ H2 _ ⟨b1,rfl,a_,_⟩;refine wa (sL none 0 0) V V V ?_;refine ae 3 V ?_;refine wk_rcut 3 19 [] [(19,(.bool (alV z.i.op&&((aR z.i.op).wa||(z.i.op==6)))))] (fun H'=> ∃F',Fz.le F F'/\HS (Base.of H []) F' H' [(fP b1 [(iI z.i.op),(iI z.i.a),(iI z.i.b),(iI z.i.c),(iI z.i.n),(sL N z.args.length T)])] R) ?_ ?_
 ·refine aa ?_;refine aS (v:=(pT b1 0)) (fJ V V) V V ?_;refine aS (v:=(pT b1 0)) (fJ V V) V V ?_;refine aS (v:=(iI z.i.op)) (cW (i:=0) V V (g_ a_ V) V V) V V ?_;refine aH (aq V V V) V V (m1.ralw_c ex z.i.op _) ?_;rintro _ H2 ⟨r6,rfl,rfl,rfl⟩;refine wm (.bool (alV z.i.op)) V V V ?_;refine wo_gsT (v:=(alV z.i.op)) V V (fun A=>?_) (fun A=>?_)
  ·have ag:=A;try simp only[BS]at ag
   refine aS (v:=(pT b1 0)) (fJ V V) V V ?_;refine cX V A ?_;refine aS (v:=(pT b1 0)) (fJ V V) V V ?_;refine cX V A ?_;refine aS (v:=(iI z.i.op)) (cW (i:=0) V V (g_ a_ V) V V) V V ?_;refine cX V A ?_;refine aH (aq V V V) V V (m3.rinfo_c ex z.i.op (HS.call a_) M hT) ?_;rintro _ H8 ⟨x8,F8,aw,Z,rfl,a1,a2,rfl⟩;replace Z:=HS.back a_ V Z;refine cX V A ?_;refine aS (v:=(.bool (aR z.i.op).wa)) (ap_fv V V) V V ?_;refine cX V A ?_;refine wm (.bool (aR z.i.op).wa) V V V ?_;refine wo_gsF (v:=(aR z.i.op).wa) V V (fun E=>?_) (fun E=>?_)
   ·have al:=E;try simp only[BS]at al
    refine aS (v:=(pT b1 0)) (fJ V V) V V ?_;refine cX V E ?_;refine aS (v:=(pT b1 0)) (fJ V V) V V ?_;refine cX V E ?_;refine aS (v:=(iI z.i.op)) (cW (i:=0) V V (g_ Z V) V V) V V ?_;refine cX V E ?_;refine aS (v:=(.bool (z.i.op==6))) (lP V V V V) V V ?_;refine cX V A ?_;refine aS (v:=(.bool (z.i.op==6))) (cn V E V) V V ?_;refine aS (v:=(.bool (z.i.op==6))) (ca V A V) V V ?_;refine eN ?_;exact bp ⟨V,⟨_,(fT fR aw),HS.sub Z (List.Sublist.refl _)⟩,(Lu V (Lu V (Lu V (Lu V (Lu V (Lu V (Lu V (Lu V (Lu V (Lu V (Lu V (Lu V (Lu V (Lu V (Lu V (Lu V (Lu V Lr))))))))))))))))),(agC (congrArg Value.bool (show(z.i.op==6)=(alV z.i.op&&((aR z.i.op).wa||(z.i.op==6))) by first|rfl|simp only[↓A,↓E,BT]|grind)) agN)⟩
   have al:=E;try simp only[BS]at al
   refine aP V E V ?_;refine aP V E V ?_;refine aP V E V ?_;refine cX V A ?_;refine aS (v:=(.bool true)) (ca V E V) V V ?_;refine aS (v:=(.bool true)) (ca V A V) V V ?_;refine eN ?_;exact bp ⟨V,⟨_,(fT fR aw),HS.sub Z (List.Sublist.refl _)⟩,(Lu V (Lu V (Lu V (Lu V (Lu V (Lu V (Lu V (Lu V (Lu V (Lu V (Lu V (Lu V (Lu V (Lu V (Lu V (Lu V (Lu V Lr))))))))))))))))),(agC (congrArg Value.bool (show true=(alV z.i.op&&((aR z.i.op).wa||(z.i.op==6))) by first|rfl|simp only[↓A,↓E,BT]|grind)) agN)⟩
  have ag:=A;try simp only[BS]at ag
  refine kV V A V ?_;refine kV V A V ?_;refine kV V A V ?_;refine kV V A V ?_;refine kV V A V ?_;refine wo_gn V V ?_;refine wo_gn V V ?_;refine wo_gn V V ?_;refine wo_gn V V ?_;refine kV V A V ?_;refine aS (v:=(.bool false)) (cn V A V) V V ?_;refine eN ?_;exact bp ⟨V,⟨_,fR,HS.sub a_ (List.Sublist.refl _)⟩,(Lu V (Lu V (Lu V (Lu V (Lu V (Lu V (Lu V (Lu V (Lu V (Lu V (Lu V (Lu V (Lu V (Lu V (Lu V (Lu V (Lu V Lr))))))))))))))))),(agC (congrArg Value.bool (show false=(alV z.i.op&&((aR z.i.op).wa||(z.i.op==6))) by first|rfl|simp only[↓A,BT]|grind)) agN)⟩
 skip;rintro g5 H5 ⟨F5,av,ad⟩;refine aj 1 V ?_;refine az 1 2 (v:=(alV z.i.op&&((aR z.i.op).wa||(z.i.op==6)))) V V V V (fun U=>?_) (fun U=>?_)
 ·try simp only[BS]at U
  have hq:=U;refine aa ?_;refine bn 3 0 20 22 [] [(22,(iI z.i.a))] (Hr_ 2 0 Hn_) ad V V fun _=>?_
  refine zlo ([z.i.a]:List Int) ad V (RL.cs ⟨V,by omega⟩ RL.nl) V fun an ax a3 bk ay a0=>?_
  refine wa (sL an ([z.i.a]:List Int).length ax) V V V ?_;refine ae 1 V ?_;refine am ⟨.inr V,_,V,an,ax,([z.i.a]:List Int),a3,_,(av),(HS.only a0 (i:=1) V),V,ay,(by first|exact rwr_yes hq|exact rwr_no hq)⟩
 try simp only[BS]at U
 have hq:=U;refine wT 1 [] 2 2 [] [(2,(sL none 0 0))] V fun _=>?_
 refine am ⟨.inr V,_,V,none,0,([]:List Int),[],_,(av),(HS.cons (HS.forget ad)),V,(OS.nil:OS _ _ _ []),(by first|exact rwr_yes hq|exact rwr_no hq)⟩
theorem vsucc_c{N:Option Addr}{ad:Nat}(b:BlkT)(hs:HS (.of H []) F H [] R)(a5:SR F (sL N b.ins.length ad) b.ins)(a6:in64 b.fin)(a8:in64 b.reg)(a9:in64 b.tgt)(bb:in64 b.els)(hT:TB 37 tabC F):kKt ex 78 [(aG [(sL N b.ins.length ad),(iI b.fin),(iI b.reg),(iI b.tgt),(iI b.els)])] H fun v H'=> ∃(ar:Option Addr) (kr:Nat) (r:List Int) (p:Fp) (F':Fz),Fz.le F F'/\HS (.of H []) F' H' [p] R/\v=sL ar r.length kr/\OS F' (sL ar r.length kr) r p/\r=bo b:=by
 refine aC Tryd.func78 V V ?_;refine aj 1 V ?_;refine aa ?_;refine aV (aO hs V V) V V ?_;rintro _ H2 _ ⟨b1,rfl,A,_⟩;refine wa (sL none 0 0) V V V ?_;refine ae 3 V ?_;refine bF 3 3 4 [] [(4,(iI b.fin))] (Hr_ 1 0 Hn_) A V V fun _=>?_
 refine wT 1 [] 5 6 [] [(5,(.bool (b.fin==1)))] V fun _=>?_
 refine az 1 1 (v:=(b.fin==1)) V V V V (fun z=>?_) (fun z=>?_)
 ·try simp only[BS]at z
  refine aa ?_;refine bn 2 0 7 8 [] [(8,(iI b.tgt))] (Hr_ 1 0 Hn_) A V V fun _=>?_
  refine zlo ([b.tgt]:List Int) A V (RL.cs ⟨V,by omega⟩ RL.nl) V fun a7 k7 p7 H8 a1 a2=>?_
  refine wa (sL a7 ([b.tgt]:List Int).length k7) V V V ?_;refine ae 1 V ?_;refine am ⟨.inr V,_,V,a7,k7,([b.tgt]:List Int),p7,_,fR,(HS.only a2 (i:=1) V),V,a1,(by first|exact succ1 X|exact(succ2 X).symm|exact succ0 M)⟩
 try simp only[BS]at z
 refine wT 1 [] 10 11 [] [(10,(.bool (b.fin==2)))] V fun _=>?_
 refine az 1 3 (v:=(b.fin==2)) V V V V (fun U=>?_) (fun U=>?_)
 ·try simp only[BS]at U
  refine aa ?_;refine bn 4 0 12 15 [] [(13,(iI b.tgt)),(15,(iI b.els))] (Hr_ 1 0 (Hr_ 3 0 Hn_)) A V V fun _=>?_
  refine zlo ([b.tgt,b.els]:List Int) A V (RL.cs ⟨V,by omega⟩ (RL.cs ⟨V,by omega⟩ RL.nl)) V fun b5 b6 b7 b3 aw ay=>?_
  obtain⟨bz,a_,Z,ax,bk⟩:=OS.frz aw ay (i:=1) V;replace hT:=hT.mono a_;refine aH (aq V V V) V V (unique_c ex ([b.tgt,b.els]:List Int) (HS.call Z) ax hT u_) ?_;rintro _ b4 ⟨T,ag,b8,a4,b2,av,E,rfl,al,rfl⟩;replace E:=HS.back Z V E;refine wa (sL T (da [] ([b.tgt,b.els]:List Int)).length ag) V V V ?_;refine ae 1 V ?_;refine am ⟨.inr V,_,V,T,ag,da [] ([b.tgt,b.els]:List Int),a4,_,(fT (a_) av),(HS.only E (i:=2) V),V,al,(by first|exact succ1 X|exact(succ2 X).symm|exact succ0 M)⟩
 try simp only[BS]at U
 refine wT 1 [] 2 2 [] [(2,(sL none 0 0))] V fun _=>?_
 refine am ⟨.inr V,_,V,none,0,([]:List Int),[],_,fR,(HS.cons (HS.forget A)),V,(OS.nil:OS _ _ _ []),(by first|exact succ1 X|exact(succ2 X).symm|exact succ0 M)⟩
theorem rsucc_c{N:Option Addr}{ag:Nat}(b:BlkT)(hs:HS (.of H []) F H [] R)(a8:SR F (sL N b.ins.length ag) b.ins)(a9:in64 b.fin)(bb:in64 b.reg)(bk:in64 b.tgt)(bl:in64 b.els)(hT:TB 37 tabC F):kKt ex 39 [(aG [(sL N b.ins.length ag),(iI b.fin),(iI b.reg),(iI b.tgt),(iI b.els)])] H fun v H'=> ∃(ar:Option Addr) (kr:Nat) (r:List Int) (F':Fz),Fz.le F F'/\HS (.of H []) F' H' [] R/\v=sL ar r.length kr/\SR F' (sL ar r.length kr) r/\r=bo b:=by
 refine aC Tryd.func39 V V ?_;refine aj 1 V ?_;refine aa ?_;refine aV (aO hs V V) V V ?_;rintro _ H2 _ ⟨b1,rfl,A,_⟩;refine wa (sL none 0 0) V V V ?_;refine ae 3 V ?_;refine bF 3 3 4 [] [(4,(iI b.fin))] (Hr_ 1 0 Hn_) A V V fun _=>?_
 refine wT 1 [] 5 6 [] [(5,(.bool (b.fin==1)))] V fun _=>?_
 refine az 1 1 (v:=(b.fin==1)) V V V V (fun z=>?_) (fun z=>?_)
 ·try simp only[BS]at z
  refine aa ?_;refine bn 2 0 7 8 [] [(8,(iI b.tgt))] (Hr_ 1 0 Hn_) A V V fun _=>?_
  refine zlo ([b.tgt]:List Int) A V (RL.cs ⟨V,by omega⟩ RL.nl) V fun a7 k7 p7 H8 a2 a4=>?_
  refine wa (sL a7 ([b.tgt]:List Int).length k7) V V V ?_;refine ae 1 V ?_;obtain⟨F9,a1,a5,a3,b7⟩:=OS.frz a2 a4 (i:=1) V;refine am ⟨.inr V,_,V,a7,k7,([b.tgt]:List Int),_,(a1),(HS.forget a5),V,a3,(by first|exact succ1 X|exact(succ2 X).symm|exact succ0 M)⟩
 try simp only[BS]at z
 refine wT 1 [] 10 11 [] [(10,(.bool (b.fin==2)))] V fun _=>?_
 refine az 1 3 (v:=(b.fin==2)) V V V V (fun U=>?_) (fun U=>?_)
 ·try simp only[BS]at U
  refine aa ?_;refine bn 2 0 12 13 [] [(13,(iI b.tgt))] (Hr_ 1 0 Hn_) A V V fun _=>?_
  refine zlo ([b.tgt]:List Int) A V (RL.cs ⟨V,by omega⟩ RL.nl) V fun b6 b8 b9 b4 ax Z=>?_
  refine bn 2 3 15 16 [] [(16,(iI b.els))] (Hr_ 4 0 Hn_) Z V V fun _=>?_
  obtain⟨b2,a_,ad,ay,bz⟩:=OS.frz ax Z (i:=1) V;replace hT:=hT.mono a_;refine aH (aq V V V) V V (m6.dG ex ([b.tgt]:List Int) b.els (HS.call ad) ay M hT u_) ?_;rintro _ b5 ⟨T,al,cc,b3,aw,E,rfl,an,rfl⟩;replace E:=HS.back ad V E;refine wa (sL T (dJ ([b.tgt]:List Int) b.els).length al) V V V ?_;refine ae 1 V ?_;refine am ⟨.inr V,_,V,T,al,dJ ([b.tgt]:List Int) b.els,_,(fT (a_) aw),(HS.forget E),V,an,(by first|exact succ1 X|exact(succ2 X).symm|exact succ0 M)⟩
 try simp only[BS]at U
 refine wT 1 [] 2 2 [] [(2,(sL none 0 0))] V fun _=>?_
 refine am ⟨.inr V,_,V,none,0,([]:List Int),_,fR,(HS.forget A),V,(SR.nil:SR F (sL none 0 0) ([]:List Int)),(by first|exact succ1 X|exact(succ2 X).symm|exact succ0 M)⟩
theorem rend_c{E:Option Addr}{N:Nat}(b:BlkT)(hs:HS (.of H []) F H [] R)(ag:SR F (sL E b.ins.length N) b.ins)(al:in64 b.fin)(an:in64 b.reg)(av:in64 b.tgt)(aw:in64 b.els)(hT:TB 37 tabC F):kKt ex 44 [(aG [(sL E b.ins.length N),(iI b.fin),(iI b.reg),(iI b.tgt),(iI b.els)])] H fun v H'=> ∃(z:Option Addr) (kr:Nat) (r:List Int) (p:Fp) (F':Fz),Fz.le F F'/\HS (.of H []) F' H' [p] R/\v=sL z r.length kr/\OS F' (sL z r.length kr) r p/\r=ei b:=by
 refine aC Tryd.func44 V V ?_;refine aj 1 V ?_;refine aa ?_;refine aV (aO hs V V) V V ?_;rintro _ H2 _ ⟨b1,rfl,A,_⟩;refine wa (sL none 0 0) V V V ?_;refine ae 3 V ?_;refine bF 1 3 10 [] [(10,(.bool ((b.fin==2)||(b.fin==3))))] (Hr_ 1 0 (bt 5 (fun _=>(ql 3 1 (g_ A V) V V)) Hn_)) A V V fun _=>?_
 refine az 1 2 (v:=((b.fin==2)||(b.fin==3))) V V V V (fun T=>?_) (fun T=>?_)
 ·try simp only[BS]at T
  refine aa ?_;refine bn 2 0 11 12 [] [(12,(iI b.reg))] (Hr_ 1 0 Hn_) A V V fun _=>?_
  refine zlo ([b.reg]:List Int) A V (RL.cs ⟨V,by omega⟩ RL.nl) V fun U k6 p6 H7 a_ Z=>?_
  refine wa (sL U ([b.reg]:List Int).length k6) V V V ?_;refine ae 1 V ?_;refine am ⟨.inr V,_,V,U,k6,([b.reg]:List Int),p6,_,fR,(HS.only Z (i:=1) V),V,a_,(by first|exact(if_pos M).symm|exact(if_neg M).symm)⟩
 try simp only[BS]at T
 refine wT 1 [] 2 2 [] [(2,(sL none 0 0))] V fun _=>?_
 refine am ⟨.inr V,_,V,none,0,([]:List Int),[],_,fR,(HS.cons (HS.forget A)),V,(OS.nil:OS _ _ _ []),(by first|exact(if_pos M).symm|exact(if_neg M).symm)⟩
theorem fp{z:Option Addr}{ao:Nat}(a:List Int){ai:Option Addr}{ay:Nat}(b:List Int)(hs:HS (.of H []) F H [] R)(ha:SR F (sL z a.length ao) a)(hb:SR F (sL ai b.length ay) b)(hT:TB 37 tabC F)(cv:a.length+b.length<=1073741824):kKt ex 40 [(sL z a.length ao),(sL ai b.length ay)] H fun v H'=> ∃(ar:Option Addr) (kr:Nat) (r:List Int) (F':Fz),Fz.le F F'/\HS (.of H []) F' H' [] R/\v=sL ar r.length kr/\SR F' (sL ar r.length kr) r/\r=da a b:=by
 refine aC Tryd.func40 V V ?_;refine aj 1 V ?_;refine wT 2 [] 4 4 [] [(4,(sL none 0 0))] V fun _=>?_
 refine aa ?_;refine wm (sL z a.length ao) V V V ?_;have ax:=HS.snoc hs;refine zao 0 (OS.nil:OS F (sL none 0 0) ([]:List Int) []) ax (SR.sv ha ax) V V V k_ fun a3 k3 p3 H4 ag a6=>?_
 have ag:OS F (sL a3 a.length k3) a p3:=ag;refine wa (sL a3 a.length k3) V V V ?_;refine ae 3 V ?_;obtain⟨F5,ad,a7,a5,b3⟩:=OS.frz ag a6 (i:=0) V;refine wT 2 [] 1 0 [6] [(6,(iI 0))] V fun _=>?_
 refine ah (fun(mm:Nat) f H'=> ∃(o:List Int) (i:Nat) (A:Option Addr) (E:Nat) (F':Fz),Fz.le F5 F'/\HS (Base.of H []) F' H' [[]] R/\SR F' (sL A o.length E) o/\aA f [(1,(sL ai b.length ay)),(5,(sL A o.length E)),(6,(iI (i:Int)))]/\mm=b.length-i/\(i<=b.length)/\(o=da a (b.take i))) _ ⟨a,0,a3,k3,_,fR,a7,a5,(agC V (agC V (agC V agN))),V,(by first|assumption|omega|(simp at *;omega)),s_⟩ ?_;rintro b4 f7 H7 ⟨o,i,A,E,F7,U,N,a_,aw,rfl,h1,h2⟩ a8;refine ap _ aw (fun _=>?_);clear aw;replace hT:=(hT.mono ad).mono U;replace hb:=(hb.mono ad).mono U;have n4:o.length<=a.length+b.length:=by rw[h2];exact a0e eV m_
 refine aj 2 V ?_;refine wT 1 [] 9 12 [] [(12,(.bool (decide ((i:Int)<(b.length:Int)))))] V fun _=>?_
 refine az 3 5 (v:=(decide ((i:Int)<(b.length:Int)))) V V V V (fun c9=>?_) (fun c9=>?_)
 ·try simp only[BS]at c9
  refine aa ?_;obtain⟨bb,al⟩:=Sv.view (SR.sv hb N);have b2:=fI (al i);refine cj 5 0 15 19 [] [(15,(sL A o.length E)),(19,(iI (b.getD i 0)))] (Ha_ (Sv.ix (j:=(i:Int)) (SR.sv hb N) M M) (Hl_ 4 (ql 3 0 (vI (al i) M) V V) Hn_)) (by kernel_rfl) V fun _=>?_
  refine aH (aq V V V) V V (m6.dG ex o (b.getD i 0) (HS.call N) a_ M hT M) ?_;rintro _ bz ⟨Z,an,b5,bl,a2,T,rfl,av,rfl⟩;replace T:=HS.back N V T;refine wa (sL Z (dJ o (b.getD i 0)).length an) V V V ?_;refine ae 2 V ?_;refine wU 1 [] 13 14 [6] [(6,(iI ((i:Int)+1)))] (vi (n:=(i:Int)+1) M) V fun _=>?_
  refine a8 _ _ _ ?_ ⟨dJ o (b.getD i 0),i+1,Z,an,_,(fT (U) a2),T,av,(agC V (agC V (agC V agN))),V,(by first|assumption|omega|(simp at *;omega)),(by exact gn M h2)⟩;omega
 try simp only[BS]at c9
 refine wT 1 [] 4 4 [21] [(4,(sL A o.length E))] V fun _=>?_
 refine am ⟨.inr V,_,V,A,E,o,_,(fT (ad) U),(HS.forget N),V,a_,(by exact uni_all M h2)⟩
theorem minus_c{ai:Option Addr}{a0:Nat}(a:List Int){ao:Option Addr}{b0:Nat}(b:List Int)(hs:HS (.of H []) F H [] R)(z:SR F (sL ai a.length a0) a)(hb:SR F (sL ao b.length b0) b)(hT:TB 37 tabC F)(c4:a.length<=1073741824/\b.length<=1073741824):kKt ex 48 [(sL ai a.length a0),(sL ao b.length b0)] H fun v H'=> ∃(ar:Option Addr) (kr:Nat) (r:List Int) (p:Fp) (F':Fz),Fz.le F F'/\HS (.of H []) F' H' [p] R/\v=sL ar r.length kr/\OS F' (sL ar r.length kr) r p/\r=gE a b:=by
 refine aC Tryd.func48 V V ?_;refine aj 1 V ?_;refine wT 2 [] 4 4 [] [(4,(sL none 0 0))] V fun _=>?_
 refine wT 3 [] 1 0 [5] [(5,(sL none 0 0))] V fun _=>?_
 refine wT 2 [] 1 0 [6] [(6,(iI 0))] V fun _=>?_
 have a4:=HS.snoc hs;refine ah (fun(mm:Nat) f H'=> ∃(o:List Int) (i:Nat) (A:Option Addr) (E:Nat) (N:Fp) (F':Fz),Fz.le F F'/\HS (Base.of H []) F' H' [N] R/\OS F' (sL A o.length E) o N/\aA f [(0,(sL ai a.length a0)),(1,(sL ao b.length b0)),(5,(sL A o.length E)),(6,(iI (i:Int)))]/\mm=a.length-i/\(i<=a.length)/\(o=gE (a.take i) b)) _ ⟨([]:List Int),0,none,0,[],_,fR,a4,(OS.nil:OS _ (sL none 0 0) ([]:List Int) []),(agC V (agC V (agC V (agC V agN)))),V,(by first|assumption|omega|(simp at *;omega)),s_⟩ ?_;rintro bz f4 H4 ⟨o,i,A,E,N,F4,U,T,a_,av,rfl,h1,Z⟩ ax;refine ap _ av (fun _=>?_);clear av;replace hT:=hT.mono U;replace z:=z.mono U;replace hb:=hb.mono U;have n4:o.length<=a.length:=by rw[Z];exact a0e min_len m_
 refine aj 2 V ?_;refine wT 1 [] 7 10 [] [(10,(.bool (decide ((i:Int)<(a.length:Int)))))] V fun _=>?_
 refine az 4 5 (v:=(decide ((i:Int)<(a.length:Int)))) V V V V (fun c7=>?_) (fun c7=>?_)
 ·try simp only[BS]at c7
  obtain⟨bb,aw⟩:=Sv.view (SR.sv z T);have g9:=fI (aw i);refine wrp 1 13 19 [] [(19,(.bool (!(bS b (a.getD i 0)))))] (Ha_ (Sv.ix (j:=(i:Int)) (SR.sv z T) M M) (Hl_ 4 (ql 3 0 (vI (aw i) M) V V) (Hc_ 5 (m6.bQ ex b (a.getD i 0) (HS.call T) hb M hT M) Hn_))) (by kernel_rfl) V fun _=>?_
  refine az 0 2 (v:=(!(bS b (a.getD i 0)))) V V V V (fun ad=>?_) (fun ad=>?_)
  ·try simp only[BS]at ad
   refine aa ?_;obtain⟨a6,al⟩:=Sv.view (SR.sv z T);have bk:=fI (al i);refine cj 5 0 20 24 [] [(20,(sL A o.length E)),(24,(iI (a.getD i 0)))] (Ha_ (Sv.ix (j:=(i:Int)) (SR.sv z T) M M) (Hl_ 4 (ql 3 0 (vI (al i) M) V V) Hn_)) (by kernel_rfl) V fun _=>?_
   refine zlo ([(a.getD i 0)]:List Int) T V (RL.cs ⟨V,by omega⟩ RL.nl) V fun a9 bl b2 a7 a1 ag=>?_
   refine zao 0 a_ ag (OS.sv a1 ag (i:=1) V) V V V k_ fun an ay a5 a8 a2 a3=>?_
   refine wa (sL an (o++([(a.getD i 0)]:List Int)).length ay) V V V ?_;refine ae 2 V ?_;refine wU 1 [] 11 12 [6] [(6,(iI ((i:Int)+1)))] (vi (n:=(i:Int)+1) M) V fun _=>?_
   refine ax _ _ _ ?_ ⟨o++([(a.getD i 0)]:List Int),i+1,an,ay,a5,_,(U),(HS.sub a3 (a02 _ _)),a2,(agC V (agC V (agC V (agC V agN)))),V,(by first|assumption|omega|(simp at *;omega)),(by first|exact(dX M Z).1 X|exact(dX M Z).2 X)⟩;omega
  try simp only[BS]at ad
  refine wU 1 [] 11 12 [6] [(6,(iI ((i:Int)+1)))] (vi (n:=(i:Int)+1) M) V fun _=>?_
  refine ax _ _ _ ?_ ⟨o,i+1,A,E,N,_,(U),T,a_,(agC V (agC V (agC V (agC V agN)))),V,(by first|assumption|omega|(simp at *;omega)),(by first|exact(dX M Z).1 X|exact(dX M Z).2 X)⟩;omega
 try simp only[BS]at c7
 refine wT 1 [] 4 4 [27] [(4,(sL A o.length E))] V fun _=>?_
 refine am ⟨.inr V,_,V,A,E,o,N,_,(U),(HS.only T (i:=0) V),V,a_,(by rw[Z,a0h M])⟩
end Go.Proofs.YtgdggmlghemecaaDoor.ma
