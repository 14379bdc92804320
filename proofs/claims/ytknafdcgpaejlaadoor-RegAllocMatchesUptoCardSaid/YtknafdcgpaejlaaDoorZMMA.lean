/-
What instructions read and write, what follows a block, unions and differences of sets: the program and the reference. No condition but bounds on lengths.
-/
import Derived.Test.YtknafdcgpaejlaaDoorZMM6
noncomputable section
namespace Go.Proofs.YtknafdcgpaejlaaDoor.ma
open Go.R
set_option maxRecDepth 10000
set_option maxHeartbeats 1000000
set_option linter.unusedVariables false
set_option linter.unusedSimpArgs false
variable (ex:FuncId) {F:Fz} {H:Heap} {R:List Fp}
open m1 m2 m3 m4 m5 m6
abbrev Asc(l:List Int):Prop:=l.Pairwise (· < ·)
def cJ(a l:List Int):List Int:=l.foldl dp a
def bZ(a b:List Int):List Int:=a.filter fun x=> !im b x
theorem asc_at{l:List Int}(h:Asc l){i j:Nat}(A:i<j)(E:j<l.length):l.getD i 0<l.getD j 0:=by have:=(a1N.1 h) i j (by omega) E A;rw[a02,a02,a06 E,a06 (show i<l.length by omega)];exact this
theorem pre_lt{l:List Int}{n:Int}: ∀x∈l.take (ic l n),x<n:=by
 intro x A;have e:l.take (ic l n)=l.takeWhile (fun x=>decide (x<n)):=by unfold ic;exact(List.prefix_iff_eq_take.1 (List.takeWhile_prefix _)).symm
 rw[e]at A;have:=a0v.1 (List.all_takeWhile (p:=fun x=>decide (x<n)) (l:=l)) x A;simpa using this
theorem pre_at{l:List Int}{n:Int}(h:ic l n<l.length): ¬l.getD (ic l n) 0<n:=by
 induction l with
 |nil=>simp at h
 |cons x l ih=>
  unfold ic at h⊢
  by_cases A:x<n
  ·rw[List.takeWhile_cons_of_pos (by simpa using A)]at h⊢;simp only[a09,a2d]at h⊢;exact ih (by unfold ic;omega)
  rw[List.takeWhile_cons_of_neg (by simpa using A)]
  simpa using A
theorem pre_ge{l:List Int}{n:Int}(A:Asc l): ∀x∈l.drop (ic l n),n<=x:=by
 intro x E;obtain⟨i,hi,rfl⟩:=a0E.1 E;rw[List.getElem_drop];rw[a0w]at hi;have h0:=pre_at (l:=l) (n:=n) (by omega);rw[a02,a06 (show ic l n<l.length by omega)]at h0;rcases a1v i with rfl|hp
 ·simp only[a1Y];simpa using h0
 have:=(a1N.1 A) (ic l n) (ic l n+i) (by omega) (by omega) (by omega)
 simp only[a0P]at h0;omega
theorem ins_asc{l:List Int}{n:Int}(h:Asc l):Asc (dp l n):=by
 unfold dp;split
 ·exact h
 rename_i hc;have Z:=pre_ge (n:=n) h;have V:=pre_lt (l:=l) (n:=n);refine a25.2 ⟨a25.2 ⟨h.sublist (List.take_sublist _ _),List.pairwise_singleton _ _,fun a T b U=>?_⟩,h.sublist (List.drop_sublist _ _),fun a T b U=>?_⟩
 ·rw[a0h]at U;subst U;exact V a T
 have hn:n<b:=by
  have N:=Z b U;rcases Int.lt_or_eq_of_le N with A|A
  ·exact A
  exfalso;obtain⟨i,hi,rfl⟩:=a0E.1 U;rw[a0w]at hi;rw[List.getElem_drop]at A;apply hc;refine⟨by omega,?_⟩;have E:=pre_at (l:=l) (n:=n) (by omega);rw[a02,a06 (show ic l n<l.length by omega)]at E⊢;simp only[a0P]at E⊢;rcases a1v i with rfl|hp
  ·simpa using A.symm
  have:=(a1N.1 h) (ic l n) (ic l n+i) (by omega) (by omega) (by omega)
  omega
 rcases a07.1 T with T|T
 ·have:=V a T;omega
 rw[a0h]at T;subst T;exact hn
theorem js{l:List Int}{n x:Int}:x∈dp l n↔x=n\/x∈l:=by
 unfold dp;split
 ·rename_i h;constructor
  ·exact .inr
  rintro(rfl|A)
  ·rw[←h.2,a02,a06 h.1];exact a1r h.1
  exact A
 rw[a07,a07,a0h];constructor
 ·rintro((h|h)|h)
  ·exact .inr (a0Q h)
  ·exact .inl h
  exact .inr (a26 h)
 rintro(h|h)
 ·exact .inl (.inr h)
 rw[←a1H (ic l n) l]at h;rcases a07.1 h with h|h
 ·exact .inl (.inl h)
 exact .inr h
theorem uni_asc{l:List Int}: ∀{a:List Int},Asc a->Asc (cJ a l):=by
 induction l with
 |nil=>exact fun h=>h
 |cons x l ih=>exact fun h=>ih (ins_asc h)
theorem kH{l:List Int}{x:Int}: ∀{a:List Int},x∈cJ a l↔x∈a\/x∈l:=by
 induction l with
 |nil=>intro a;simp[cJ]
 |cons y l ih=>
  intro a
  have:cJ a (y::l)=cJ (dp a y) l:=rfl
  rw[this,ih,js,a0s]
  constructor
  ·rintro((h|h)|h)
   ·exact .inr (.inl h)
   ·exact .inl h
   exact .inr (.inr h)
  rintro(h|h|h)
  ·exact .inl (.inr h)
  ·exact .inl (.inl h)
  exact .inr h
theorem en{l:List Int}: ∀{a:List Int},(cJ a l).length<=a.length+l.length:=by
 induction l with
 |nil=>intro a;exact a0a _
 |cons y l ih=>
  intro a
  have A:=ih (a:=dp a y)
  have E:=ins_len (l:=a) (n:=y)
  have:cJ a (y::l)=cJ (dp a y) l:=rfl
  rw[this,a09];omega
theorem uni_snoc{a l:List Int}{x:Int}:cJ a (l++[x])=dp (cJ a l) x:=by unfold cJ;rw[List.foldl_append];rfl
theorem uni_app{a l m:List Int}:cJ a (l++m)=cJ (cJ a l) m:=by unfold cJ;rw[List.foldl_append]
theorem aY{α:Type}{d:α}{l:List α}{i:Nat}(h:i<l.length):l.take (i+1)=l.take i++[l.getD i d]:=by rw[List.take_add_one,a06 h,a02,a06 h];rfl
theorem iJ{a l o:List Int}{i:Nat}(h:i<l.length)(A:o=cJ a (l.take i)):dp o (l.getD i 0)=cJ a (l.take (i+1)):=by rw[aY h (d:=0),uni_snoc,A]
theorem uni_all{a l o:List Int}{i:Nat}(h:l.length<=i)(A:o=cJ a (l.take i)):o=cJ a l:=by rw[A,a0g h]
theorem pre_eqR{l:List Int}{n:Int}{k:Nat}(V:Asc l)(Z:k<=l.length)(E: ∀j,k<=j->j<l.length->n<=l.getD j 0)(N:0<k->l.getD (k-1) 0<n):k=ic l n:=by
 refine pre_eq Z (fun j hj=>?_) (fun U=>by have:=E k (a0a _) U;omega);have T:=N (by omega);rcases a0i j (k-1) with A|A
 ·have:=asc_at V A (by omega);omega
 have:j=k-1:=by omega
 subst this;exact T
theorem ge_step{l:List Int}{n:Int}{k:Nat}(h: ∀j,k<=j->j<l.length->n<=l.getD j 0)(E:n<=l.getD (k-1) 0): ∀j,k-1<=j->j<l.length->n<=l.getD j 0:=fun j U N=>by
 rcases a0i j k with A|A
 ·have T:j=k-1:=by omega
  subst T;exact E
 exact h j A N
theorem cp_ins{l:List Int}{n:Int}{k:Nat}(Z:k=ic l n)(V:k<=l.length)(h: ¬(k<l.length/\l.getD k 0=n)):(cpL (l++[0]) (k+1) ((l++[0]).drop k)).set k n=dp l n:=by
 have e:cpL (l++[0]) (k+1) ((l++[0]).drop k)=(l++[0]).take (k+1)++l.drop k:=by
  unfold cpL;have E:((l++[0]).drop k).length=l.length+1-k:=by simp
  have A:(l++[(0:Int)]).length=l.length+1:=by simp
  rw[E,A,show min (l.length+1-k) (l.length+1-(k+1))=l.length-k by omega,show k+1+(l.length-k)=l.length+1 by omega];rw[show List.drop (l.length+1) (l++[(0:Int)])=[] from a1q (by rw[A];exact a0a _),a0B];congr 1;rw[List.drop_append,a22,a0w,show l.length+1-(k+1)=l.length-k by omega,a1D,a2f,a0B,a0g (by rw[a0w];omega)]
 rw[e,←ins_new Z h,a0m,List.take_add_one];rw[List.set_append];have N:(List.take k (l++[0]))=l.take k:=by rw[a22,Nat.sub_eq_zero_of_le V,a2f,a0B]
 have T:(l++[(0:Int)])[k]?.toList=[(l++[(0:Int)]).getD k 0]:=by rw[a02,a06 (show k<(l++[(0:Int)]).length by simp;omega)];rfl
 rw[N,T];have U:(List.take k l++[(l++[(0:Int)]).getD k 0]).length=k+1:=by simp;omega
 rw[if_pos (by rw[U];omega),List.set_append,if_neg (by rw[a0k];omega),a0k,show k-min k l.length=0 by omega];simp
def je(v:VInT):List Int:=(if(aN v.i.op).ra then [v.i.a] else [])++((if(aN v.i.op).rb then [v.i.b] else [])++((if v.i.op=11\/v.i.op=12 then [v.i.c] else [])++(if v.i.op=6 then v.args else [])))
def ak(v:VInT):List Int:=if alV v.i.op then cJ [] (je v) else []
def ab(v:VInT):List Int:=if alV v.i.op=true/\((aN v.i.op).wa=true\/v.i.op=6\/v.i.op=38) then [v.i.a] else []
def bh(b:BlkT):List Int:=if b.fin=1 then [b.tgt] else if b.fin=2 then dp [b.tgt] b.els else []
def dr(b:BlkT):List Int:=if b.fin=2\/b.fin=3 then [b.reg] else []
theorem reads_no{v:VInT}(h:alV v.i.op=false):[]=ak v:=by unfold ak;rw[h];rfl
theorem reads_yes{v:VInT}{l:List Int}(h:alV v.i.op=true)(A:l=je v):cJ [] l=ak v:=by unfold ak;rw[h,A];rfl
theorem rrT{l:List Int}{a:Int}{p:Prop} [Decidable p](h:p):dp l a=cJ l (if p then [a] else []):=by rw[if_pos h];rfl
theorem rrF{l:List Int}{a:Int}{p:Prop} [Decidable p](h: ¬p):l=cJ l (if p then [a] else []):=by rw[if_neg h];rfl
theorem vra{op:Int}:(aL op).ra=(aN op).ra:=by unfold aL;split<;>first|rfl|(rename_i h;subst h;rfl)
theorem vrb{op:Int}:(aL op).rb=(aN op).rb:=by unfold aL;split<;>first|rfl|(rename_i h;subst h;rfl)
theorem vf4{op:Int}(h:alV op=true):(aL op).form=4↔op=11\/op=12:=by
 unfold alV at h;have h:=of_decide_eq_true h;by_cases A:op=38
 ·subst A;decide
 have e:aL op=aN op:=by unfold aL;rw[if_neg A]
 rw[e];obtain⟨k,E⟩:=ex37 (op:=op) ⟨by omega,by omega⟩;rw[E];clear E;revert k;decide+kernel
theorem rr_end{v:VInT}{E N T U:List Int}{k:Nat}(ad:alV v.i.op=true)(V:E=cJ [] (if(aN v.i.op).ra=true then [v.i.a] else []))(Z:N=cJ E (if(aN v.i.op).rb=true then [v.i.b] else []))(q3:T=cJ N (if v.i.op=11\/v.i.op=12 then [v.i.c] else []))
  (q4:U=cJ T (v.args.take k)) (q6:k=0\/v.i.op=6) (h:v.i.op=6->v.args.length<=k):U=ak v:=by
 have e:v.args.take k=if v.i.op=6 then v.args else []:=by
  by_cases A:v.i.op=6
  ·rw[if_pos A,a0g (h A)]
  rw[if_neg A];have:k=0:=by omega
  subst this;rfl
 unfold ak je
 rw[if_pos ad,uni_app,uni_app,uni_app,←V,←Z,←q3,←e,←q4]
theorem d9{a:Int}{p:Prop} [Decidable p]:(if p then [a] else []).length<=1:=by split<;>simp
theorem rr_len{v:VInT}{A E N T:List Int}{k:Nat}(q1:A=cJ [] (if(aN v.i.op).ra=true then [v.i.a] else []))(q2:E=cJ A (if(aN v.i.op).rb=true then [v.i.b] else []))(q3:N=cJ E (if v.i.op=11\/v.i.op=12 then [v.i.c] else []))
  (q4:T=cJ N (v.args.take k)):T.length<=3+v.args.length:=by
 have U:A.length<=1:=by rw[q1];exact a0d en (by simpa using d9)
 have V:E.length<=2:=by rw[q2];exact a0d en (a1O U d9)
 have Z:N.length<=3:=by rw[q3];exact a0d en (a1O V d9)
 rw[q4];exact a0d en (a1O Z (by rw[a0k];omega))
theorem rr_len1{v:VInT}{A:List Int}(E:A=cJ [] (if(aN v.i.op).ra=true then [v.i.a] else [])):A.length<=1:=by rw[E];exact a0d en (by simpa using d9)
theorem rr_len2{v:VInT}{A E:List Int}(N:A.length<=1)(T:E=cJ A (if(aN v.i.op).rb=true then [v.i.b] else [])):E.length<=2:=by rw[T];exact a0d en (a1O N d9)
theorem writes_no{v:VInT}(h:alV v.i.op=false):[]=ab v:=by unfold ab;rw[if_neg (by simp[h])]
theorem jO{v:VInT}(h:alV v.i.op=true)(A:(aN v.i.op).wa=true\/v.i.op=6\/v.i.op=38):[v.i.a]=ab v:=by unfold ab;rw[if_pos ⟨h,A⟩]
theorem writes_not{v:VInT}(h: ¬((aN v.i.op).wa=true\/v.i.op=6\/v.i.op=38)):[]=ab v:=by unfold ab;rw[if_neg fun A=>h A.2]
theorem vwa{op:Int}:((aL op).wa=true)↔((aN op).wa=true\/op=38):=by
 unfold aL;split
 ·rename_i h;subst h;simp
 rename_i h;constructor
 ·exact .inl
 rintro(A|A)
 ·exact A
 exact absurd A h
theorem rwr_yes{v:VInT}(h:alV v.i.op=true/\((aL v.i.op).wa=true\/v.i.op=6)):[v.i.a]=ab v:=jO h.1 (by have:=vwa (op:=v.i.op);rcases h.2 with A|A;(rcases this.1 A with E|E);exact .inl E;exact .inr (.inr E);exact .inr (.inl A))
theorem rwr_no{v:VInT}(h:alV v.i.op=true->(aL v.i.op).wa=false/\v.i.op≠6):[]=ab v:=by
 unfold ab;rw[if_neg];rintro⟨N,A⟩;obtain⟨E,T⟩:=h N;have:=vwa (op:=v.i.op);rcases A with A|A|A
 ·rw[this.2 (.inl A)]at E;cases E
 ·exact T A
 rw[this.2 (.inr A)]at E;cases E
theorem succ1{b:BlkT}(h:b.fin=1):[b.tgt]=bh b:=by unfold bh;rw[if_pos h]
theorem succ2{b:BlkT}(h:b.fin=2):bh b=dp [b.tgt] b.els:=by unfold bh;rw[if_neg (by omega),if_pos h]
theorem succ0{b:BlkT}(h:b.fin≠1/\b.fin≠2):[]=bh b:=by unfold bh;rw[if_neg h.1,if_neg h.2]
theorem iN{a b o:List Int}{i:Nat}(h:i<a.length)(A:o=bZ (a.take i) b):(im b (a.getD i 0)=false->o++[a.getD i 0]=bZ (a.take (i+1)) b)/\(im b (a.getD i 0)=true->o=bZ (a.take (i+1)) b):=by
 unfold bZ at A⊢;rw[aY h (d:=0),List.filter_append,←A];constructor
 ·intro hc;rw[a1s,hc];rfl
 intro hc;rw[a1s,hc];simp
theorem min_len{a b:List Int}:(bZ a b).length<=a.length:=a16 _ _
theorem unique_c{ai:Option Addr}{ao:Nat}(l:List Int)(hs:HS (.of H []) F H [] R)(hl:SR F (sL ai l.length ao) l)(hT:TB 37 tabC F)(f9:l.length<=1048600):kKt ex 101 [(sL ai l.length ao)] H fun v H'=> ∃(ar:Option Addr) (kr:Nat) (r:List Int) (p:Fp) (F':Fz),Fz.le F F'/\HS (.of H []) F' H' [p] R/\v=sL ar r.length kr/\OS F' (sL ar r.length kr) r p/\r=cJ [] l:=by
 refine aD Tryd.func101 rfl rfl (zf 1 (wT 2 [] 2 2 [] [(2,(sL none 0 0))] rfl fun _=>wT 3 [] 1 0 [3] [(3,(sL none 0 0))] rfl fun _=>wT 2 [] 7 9 [] [(7,(sL ai l.length ao)),(8,(iI (l.length:Int))),(9,(iI 0))] rfl fun _=>?_));have a8:=HS.snoc hs;have a8:HS _ _ _ [[]] _:=a8;refine ae (fun(mm:Nat) f H'=> ∃(ow:List Int) (i:Nat) (A:Option Addr) (E:Nat) (T:Fp) (F':Fz),Fz.le F F'/\HS (Base.of H []) F' H' [T] R/\OS F' (sL A ow.length E) ow T/\ap f [(3,(sL A ow.length E)),(7,(sL ai l.length ao)),(8,(iI (l.length:Int))),(9,(iI (i:Int)))]/\mm=l.length-i/\(i<=l.length)/\(ow=cJ [] (l.take i))) _ ⟨([]:List Int),0,none,0,[],_,fR,a8,(OS.nil:OS _ (sL none 0 0) ([]:List Int) []),⟨rfl,rfl,rfl,rfl,trivial⟩,rfl,(by omega),(by rfl)⟩ ?_;rintro fd f4 H4 ⟨ow,i,A,E,T,F4,a2,V,N,b1,rfl,h1,h2⟩ b3;refine ah _ b1 (fun _=>?_);clear b1;replace hl:=hl.mono a2;have fi:Asc ow:=h2▸uni_asc List.Pairwise.nil;have gb:ow.length<=i:=by rw[h2];exact a0d en (by simp;omega)
 refine aA 1 rfl (wT 2 [] 10 10 [] [(10,(.bool (decide ((i:Int)<(l.length:Int)))))] rfl fun _=>zd 4 5 (fun c7=>?_) fun c7=>?_)
 ·obtain⟨e1,b2⟩:=Sv.view (SR.sv hl V);have g9:=fI (b2 i);refine wR 2 [(1,.o (iI (l.getD i 0)))] 11 12 [5] [(5,(iI (l.getD i 0)))] (vA (Sv.ix (j:=(i:Int)) (SR.sv hl V)) (vA (ql 3 0 (vI (b2 i)) rfl rfl) trivial)) rfl fun _=>wT 3 [] 13 14 [6] [(6,(iI (ow.length:Int)))] rfl fun _=>ae (fun(mm:Nat) f H'=> ∃(k:Nat),H'=H4/\ap f [(3,(sL A ow.length E)),(5,(iI (l.getD i 0))),(6,(iI (k:Int))),(7,(sL ai l.length ao)),(8,(iI (l.length:Int))),(9,(iI (i:Int)))]/\mm=k+1/\(k<=ow.length)/\(∀j,k<=j->j<ow.length->l.getD i 0<=ow.getD j 0)) _ ⟨ow.length,rfl,⟨rfl,rfl,rfl,rfl,rfl,rfl,trivial⟩,rfl,(by omega),(by intro j h5 h6;omega)⟩ ?_
  rintro d4 e2 H4 ⟨k,rfl,a6,rfl,h3,h4⟩ ci;refine ah _ a6 (fun _=>?_);clear a6;refine zf 2 ?_;obtain⟨dv,a9⟩:=Sv.view (OS.sv N V (i:=0) rfl);have e3:=fI (a9 (k-1));refine wR 1 [(5,.e ((k-1:Nat):Int)),(7,.o (iI (ow.getD (k-1) 0)))] 15 25 [] [(25,(.bool ((decide ((0:Int)<(k:Int)))&&(decide ((l.getD i 0)<=(ow.getD (k-1) 0))))))] (vA (fun(g1:(decide ((0:Int)<(k:Int)))=true)=>(ve (n:=(k:Int)-1) (m:=((k-1:Nat):Int)) (by(try simp only[BS]at g1);omega) (by(try simp only[BS]at g1);omega))) (vA (fun(g1:(decide ((0:Int)<(k:Int)))=true)=>(Sv.ix (j:=((k-1:Nat):Int)) (OS.sv N V (i:=0) rfl) (by(try simp only[BS]at g1);omega) (by(try simp only[BS]at g1);omega))) (vA (fun(g1:(decide ((0:Int)<(k:Int)))=true)=>(ql 3 0 (vI (a9 (k-1)) (by(try simp only[BS]at g1);omega)) rfl rfl)) trivial))) rfl fun _=>zi 2 6 (fun a3=>?_) fun a3=>?_
  ·try simp only[BS]at a3
   refine wU 2 [(1,.e ((k-1:Nat):Int))] 26 27 [6] [(6,(iI ((k-1:Nat):Int)))] (ve (n:=(k:Int)-1) (m:=((k-1:Nat):Int)) (by omega) (by omega)) rfl fun _=>ci _ _ _ ?_ ⟨k-1,rfl,⟨rfl,rfl,rfl,rfl,rfl,rfl,trivial⟩,rfl,(by omega),(ge_step h4 (by omega))⟩
   omega
  try simp only[BS]at a3
  have hk:=pre_eqR fi h3 h4 (by omega);obtain⟨d1,bb⟩:=Sv.view (OS.sv N V (i:=0) rfl);have e4:=fI (bb k);refine wR 1 [(8,.o (iI (ow.getD k 0)))] 28 39 [] [(39,(.bool ((decide ((k:Int)<(ow.length:Int)))&&((ow.getD k 0)==(l.getD i 0)))))] (vA (fun(g1:(decide ((k:Int)<(ow.length:Int)))=true)=>(Sv.ix (j:=(k:Int)) (OS.sv N V (i:=0) rfl) (by(try simp only[BS]at g1);omega) (by(try simp only[BS]at g1);omega))) (vA (fun(g1:(decide ((k:Int)<(ow.length:Int)))=true)=>(ql 3 0 (vI (bb k) (by(try simp only[BS]at g1);omega)) rfl rfl)) trivial)) rfl fun _=>zi 3 2 (fun a4=>?_) fun a4=>?_
  ·try simp only[BS]at a4
   refine wU 1 [] 9 9 [55] [(9,(iI ((i:Int)+1)))] (vi (n:=(i:Int)+1)) rfl fun _=>b3 _ _ _ ?_ ⟨ow,i+1,A,E,T,_,(a2),V,N,⟨rfl,rfl,rfl,rfl,trivial⟩,rfl,(by omega),(by(rw[←iJ (by omega) h2];exact kU hk (by omega) (by omega)))⟩
   omega
  try simp only[BS]at a4
  refine aa (zm (sL A ow.length E) (aB (aT (α:=Int) (ps:=[(0,(iI 0))]) (cells:=[(iI 0)]) ([0]:List Int) V rfl rfl rfl (by kernel_rfl) ⟨[(iI 0)],[],rfl,⟨rfl,by omega⟩,rfl⟩ rfl) rfl rfl ?_));rintro _ ea dd ⟨et,e5,rfl,b9,(a7:HS _ _ _ [T,dd] _),_⟩;refine aB (aZ (α:=Int) (q:=0) N a7 rfl rfl rfl (OS.sv b9 a7 (i:=1) rfl) rfl rfl rfl rfl rfl rfl rfl (by(simp only[a05,a09,a0e];omega))) rfl rfl ?_;rintro _ c4 b4 ⟨Z,ad,rfl,ax,(a0:HS _ _ _ [b4,_] _),_⟩;refine za (sL Z (ow++([0]:List Int)).length ad) (ze 2 ?_);have la:(ow++([0]:List Int)).length=ow.length+1:=by simp
  refine aI rfl (zfm (sL Z (ow++([0]:List Int)).length ad) (zfm (iI (k:Int)) (wfv (v:=(iI ((k:Int)+1))) (ap_add rfl rfl (w_i64 (n:=(k:Int)+1) (by omega))) (bC (id:= .r) (rs_cutX (α:=Int) (i:=k+1) ax a0.log0 (q:=0) rfl rfl rfl rfl (optN (by omega)) (by omega)) rfl rfl (by rintro _ _ _ ⟨_,_,_,hH,_⟩;simp only at hH;subst hH;exact did_r fun b hb=>absurd hb a0c) (kb rfl) ?_))));rintro _ _ _ ⟨ez,e6,rfl,al,d3,bk⟩ co bl;simp only at al;replace al:=al.symm;subst al;have aw:=HS.lg a0.log0 a0 bl;generalize ({{c4 with log:=[]} with log:=co}:Heap)=b7 at aw⊢;refine zfm (sL Z (ow++([0]:List Int)).length ad) (zfm (iI (k:Int)) (bC (id:= .r) (rs_cutX (α:=Int) (i:=k) ax aw.log0 (q:=0) rfl rfl rfl rfl (optN (by omega)) (by omega)) rfl rfl (by rintro _ _ _ ⟨_,_,_,hH,_⟩;simp only at hH;subst hH;exact did_r fun b hb=>absurd hb a0c) (kb rfl) ?_));rintro _ _ _ ⟨e0,e9,rfl,an,cc,dk⟩ c0 bz;simp only at an;replace an:=an.symm;subst an;have a1:=HS.lg aw.log0 aw bz;generalize ({{b7 with log:=[]} with log:=c0}:Heap)=dn at a1⊢;refine bC (id:= .x (b4.map Prod.fst)) (rs_cp (α:=Int) (i:=k+1) ax a1.log0 (q:=0) rfl rfl bk (by omega) cc rfl rfl rfl) rfl rfl (by rintro _ _ b5 ⟨rfl,av,_,hwr⟩;exact bt rfl rfl (Wr.did hwr)) (kb rfl) ?_;rintro _ c5 b5 ⟨rfl,av,U,_⟩ c3 b0;replace U:=HS.lg U a1 b0;generalize ({c5 with log:=c3}:Heap)=ds at U⊢;have U:HS _ _ _ [b5,_] _:=U;have d2:=OS.len' av;refine bf (aA 1 rfl (aa (wUo 4 0 [] 51 54 [] [(53,(iI (l.getD i 0))),(54,(.pointer (some ⟨sB (sL Z (ow++([0]:List Int)).length ad),sO (sL Z (ow++([0]:List Int)).length ad)+k*Rp.sz Int,none⟩)))] (Sv.ix (j:=(k:Int)) (OS.sv av U (i:=0) rfl)) rfl fun _=>aH (bF (α:=Int) (j:=k) (off:=0) (q:=0) (l.getD i 0) av U rfl rfl rfl rfl rfl rfl rfl rfl (aq (x:=(0:Int)) (by omega)) rfl (by rintro cs ⟨rfl,_⟩;exact⟨a03 rfl,rfl,by omega⟩)) rfl ?_)));rintro _ em b6 ⟨ay,(ch:HS _ _ _ [b6,_] _),_⟩;have dl:=OS.len' ay;refine au 2 rfl (wU 1 [] 9 9 [55] [(9,(iI ((i:Int)+1)))] (vi (n:=(i:Int)+1)) rfl fun _=>b3 _ _ _ ?_ ⟨(cpL (ow++([0]:List Int)) (k+1) ((ow++([0]:List Int)).drop k)).set k (l.getD i 0),i+1,Z,ad,b6,_,(a2),(HS.sub ch (a01 _ _)),(OS.norm ay),(agC (show Value.slice Z (ow++([0]:List Int)).length ad=Value.slice Z ((cpL (ow++([0]:List Int)) (k+1) ((ow++([0]:List Int)).drop k)).set k (l.getD i 0)).length ad by rw[OS.len' ay]) ⟨rfl,rfl,rfl,trivial⟩),rfl,(by omega),(by(rw[cp_ins hk h3 (by omega)];exact iJ (by omega) h2))⟩);omega
 refine wT 1 [] 2 2 [56] [(2,(sL A ow.length E))] rfl fun _=>aj ⟨.inr rfl,_,rfl,A,E,ow,T,_,(a2),(HS.only V (i:=0) rfl),rfl,N,(uni_all (by omega) h2)⟩
theorem iH{al:Option Addr}{an:Nat}(iv:VInT)(hs:HS (.of H []) F H [] R)(hp:in64 iv.i.op)(hr:in64 iv.i.a)(ht:in64 iv.i.b)(hu:in64 iv.i.c)(hv:in64 iv.i.n)(A:SR F (sL al iv.args.length an) iv.args)(hT:TB 37 tabC F)(i3:iv.args.length<=1048576):kKt ex 57 [(aG [(iI iv.i.op),(iI iv.i.a),(iI iv.i.b),(iI iv.i.c),(iI iv.i.n),(sL al iv.args.length an)])] H fun v H'=> ∃(ar:Option Addr) (kr:Nat) (r:List Int) (p:Fp) (F':Fz),Fz.le F F'/\HS (.of H []) F' H' [p] R/\v=sL ar r.length kr/\OS F' (sL ar r.length kr) r p/\r=ak iv:=by
 refine aD Tryd.func57 rfl rfl (zf 1 (aa (aB (aU hs rfl rfl) rfl rfl ?_)));rintro _ H2 _ ⟨b1,rfl,(a9:HS _ _ _ [(fP b1 [(iI iv.i.op),(iI iv.i.a),(iI iv.i.b),(iI iv.i.c),(iI iv.i.n),(sL al iv.args.length an)])] _),_⟩;refine za (sL none 0 0) (au 3 rfl (wR 1 [(2,.o (iI iv.i.op)),(3,.o (.bool (alV iv.i.op)))] 6 10 [] [(10,(.bool (!(alV iv.i.op))))] (vA (ql 3 0 (HS.hc a9 (i:=0) rfl) rfl rfl) (vA (m1.kE ex iv.i.op H2) trivial)) rfl fun _=>zi 1 2 (fun c4=>?_) fun c4=>?_))
 ·try simp only[BS]at c4
  refine wT 1 [] 2 2 [] [(2,(sL none 0 0))] rfl fun _=>aj ⟨.inr rfl,_,rfl,none,0,([]:List Int),[],_,fR,(HS.cons (HS.forget a9)),rfl,(OS.nil:OS _ _ _ []),(reads_no (by assumption))⟩
 try simp only[BS]at c4
 refine aa (wUo 3 0 [(2,.o (iI iv.i.op))] 12 14 [] [(14,(iI iv.i.op))] (ql 3 0 (HS.hc a9 (i:=0) rfl) rfl rfl) rfl fun _=>zc (m1.mInfo_c ex iv.i.op (HS.call a9) (by omega) hT) ?_);rintro _ H7 ⟨x7,o7,F7,c7,dv,rfl,hb,he,rfl,rfl⟩;replace dv:HS _ _ _ [_] _:=HS.back a9 rfl dv;replace hT:=hT.mono c7;replace A:=A.mono c7;refine wTo 3 4 [] 16 17 [11] [(16,(aG [(.string ⟨⟨(aN iv.i.op).name.b⟩⟩),(iI (aN iv.i.op).form),(.bool (aN iv.i.op).ra),(.bool (aN iv.i.op).wa),(.bool (aN iv.i.op).rb),(.bool (aN iv.i.op).mt),(iI (aN iv.i.op).words)])),(17,(.bool (infO iv.i.op)))] rfl fun _=>aB (be dv rfl) rfl rfl ?_
 rintro _ hF _ ⟨b9,rfl,(g0:HS _ _ _ [_,(fP b9 [(.string ⟨⟨[]⟩⟩),(iI 0),(.bool false),(.bool false),(.bool false),(.bool false),(iI 0)])] _),_⟩;refine aH (az (q:=1) g0 rfl rfl rfl rfl rfl rfl rfl rfl rfl) rfl ?_;rintro _ hG _ ⟨(dl:HS _ _ _ [_,(fP b9 [(.string ⟨⟨(aN iv.i.op).name.b⟩⟩),(iI (aN iv.i.op).form),(.bool (aN iv.i.op).ra),(.bool (aN iv.i.op).wa),(.bool (aN iv.i.op).rb),(.bool (aN iv.i.op).mt),(iI (aN iv.i.op).words)])] _),_⟩;refine za (.bool (infO iv.i.op)) (ze 2 (wT 3 [] 1 0 [5] [(5,(sL none 0 0))] rfl fun _=>wU 1 [(1,.o (.bool (aN iv.i.op).ra))] 18 19 [] [(19,(.bool (aN iv.i.op).ra))] (ql 4 2 (HS.hc dl (i:=1) rfl) rfl rfl) rfl fun _=>?_));have ay:=HS.snoc dl;have ay:HS _ _ _ [_,_,[]] _:=ay;let b5:Fp:=(fP b1 [(iI iv.i.op),(iI iv.i.a),(iI iv.i.b),(iI iv.i.c),(iI iv.i.n),(sL al iv.args.length an)])
 let b6:Fp:=(fP b9 [(.string ⟨⟨(aN iv.i.op).name.b⟩⟩),(iI (aN iv.i.op).form),(.bool (aN iv.i.op).ra),(.bool (aN iv.i.op).wa),(.bool (aN iv.i.op).rb),(.bool (aN iv.i.op).mt),(iI (aN iv.i.op).words)])
 refine bP (fun f H'=> ∃(l1:List Int) (E:Option Addr) (U:Nat) (ad:Fp) (F':Fz),Fz.le F7 F'/\HS (Base.of H []) F' H' [b5,b6,ad] R/\OS F' (sL E l1.length U) l1 ad/\ap f [(1,(pT b1 0)),(3,(pT b9 0)),(5,(sL E l1.length U))]/\(l1=if(aN iv.i.op).ra=true then [iv.i.a] else [])) (fun d1=>?_) ?_
 ·refine zi 0 0 (fun ci=>?_) fun ci=>?_
  ·try simp only[BS]at ci
   refine aa (wUo 4 0 [(3,.o (iI iv.i.a))] 20 23 [] [(20,(sL none 0 0)),(23,(iI iv.i.a))] (ql 3 1 (HS.hc ay (i:=0) rfl) rfl rfl) rfl fun _=>aB (aT (α:=Int) (ps:=[(0,(iI iv.i.a))]) (cells:=[(iI iv.i.a)]) ([iv.i.a]:List Int) ay rfl rfl rfl (by kernel_rfl) ⟨[(iI iv.i.a)],[],rfl,⟨rfl,by omega⟩,rfl⟩ rfl) rfl rfl ?_);rintro _ hI hf ⟨h2,h9,rfl,f4,(dn:HS _ _ _ [_,_,_,hf] _),_⟩;refine aB (aZ (α:=Int) (q:=2) (OS.nil:OS _ (sL none 0 0) ([]:List Int) []) dn rfl rfl rfl (OS.sv f4 dn (i:=3) rfl) rfl rfl rfl rfl rfl rfl rfl (by(simp only[a05,a09,a0e];omega))) rfl rfl ?_;rintro _ hK ez ⟨b7,ea,rfl,b3,(g2:HS _ _ _ [_,_,ez,_] _),_⟩;have b3:OS F7 (sL b7 ([iv.i.a]:List Int).length ea) ([iv.i.a]:List Int) ez:=b3;refine za (sL b7 ([iv.i.a]:List Int).length ea) (ze 0 ?_);exact d1 _ _ ⟨([iv.i.a]:List Int),b7,ea,ez,_,fR,(HS.sub g2 (a01 _ _)),b3,⟨rfl,rfl,rfl,trivial⟩,(by(rw[if_pos (by first|assumption|omega)];done))⟩
  try simp only[BS]at ci
  exact d1 _ _ ⟨([]:List Int),none,0,[],_,fR,ay,(OS.nil:OS _ (sL none 0 0) ([]:List Int) []),⟨rfl,rfl,rfl,trivial⟩,(by(rw[if_neg (by first|omega|(intro hh;simp_all;done))];done))⟩
 skip;rintro h5 hH ⟨l1,E,U,ad,g7,bz,a7,bb,c8,q1⟩;refine ah _ c8 (fun _=>?_);clear c8;replace hT:=hT.mono bz;replace A:=A.mono bz;have n1:l1.length<=1:=by rw[q1];exact d9
 refine zf 3 (wU 1 [(1,.o (.bool (aN iv.i.op).rb))] 26 27 [] [(27,(.bool (aN iv.i.op).rb))] (ql 4 4 (HS.hc a7 (i:=1) rfl) rfl rfl) rfl fun _=>bP (fun f H'=> ∃(l2:List Int) (N:Option Addr) (V:Nat) (ag:Fp) (F':Fz),Fz.le g7 F'/\HS (Base.of H []) F' H' [b5,b6,ag] R/\OS F' (sL N l2.length V) l2 ag/\ap f [(1,(pT b1 0)),(5,(sL N l2.length V))]/\(l2=l1++if(aN iv.i.op).rb=true then [iv.i.b] else [])) (fun d2=>?_) ?_)
 ·refine zi 0 0 (fun co=>?_) fun co=>?_
  ·try simp only[BS]at co
   refine aa (wUo 4 0 [(3,.o (iI iv.i.b))] 28 31 [] [(28,(sL E l1.length U)),(31,(iI iv.i.b))] (ql 3 2 (HS.hc a7 (i:=0) rfl) rfl rfl) rfl fun _=>aB (aT (α:=Int) (ps:=[(0,(iI iv.i.b))]) (cells:=[(iI iv.i.b)]) ([iv.i.b]:List Int) a7 rfl rfl rfl (by kernel_rfl) ⟨[(iI iv.i.b)],[],rfl,⟨rfl,by omega⟩,rfl⟩ rfl) rfl rfl ?_);rintro _ hQ hg ⟨h3,ib,rfl,f5,(ds:HS _ _ _ [_,_,ad,hg] _),_⟩;refine aB (aZ (α:=Int) (q:=2) bb ds rfl rfl rfl (OS.sv f5 ds (i:=3) rfl) rfl rfl rfl rfl rfl rfl rfl (by(simp only[a05,a09,a0e];omega))) rfl rfl ?_;rintro _ hR fd ⟨e2,e5,rfl,f6,(g3:HS _ _ _ [_,_,fd,_] _),_⟩;refine za (sL e2 (l1++([iv.i.b]:List Int)).length e5) (ze 0 ?_);exact d2 _ _ ⟨l1++([iv.i.b]:List Int),e2,e5,fd,_,fR,(HS.sub g3 (a01 _ _)),f6,⟨rfl,rfl,trivial⟩,(by(rw[if_pos (by first|assumption|omega)];done))⟩
  try simp only[BS]at co
  exact d2 _ _ ⟨l1,E,U,ad,_,fR,a7,bb,⟨rfl,rfl,trivial⟩,(by(rw[if_neg (by first|omega|(intro hh;simp_all;done)),a0B]))⟩
 skip;rintro h6 hM ⟨l2,N,V,ag,g8,b0,a0,bk,c9,q2⟩;refine ah _ c9 (fun _=>?_);clear c9;replace hT:=hT.mono b0;replace A:=A.mono b0;have n2:l2.length<=2:=by rw[q2,a05];exact a1O n1 d9
 refine zf 3 (wR 1 [(2,.o (iI iv.i.op)),(7,.o (iI iv.i.op))] 34 43 [] [(43,(.bool ((iv.i.op==11)||(iv.i.op==12))))] (vA (ql 3 0 (HS.hc a0 (i:=0) rfl) rfl rfl) (vA (fun(g1:(iv.i.op==11)=false)=>(ql 3 0 (HS.hc a0 (i:=0) rfl) rfl rfl)) trivial)) rfl fun _=>bP (fun f H'=> ∃(l3:List Int) (T:Option Addr) (Z:Nat) (ax:Fp) (F':Fz),Fz.le g8 F'/\HS (Base.of H []) F' H' [b5,b6,ax] R/\OS F' (sL T l3.length Z) l3 ax/\ap f [(1,(pT b1 0)),(5,(sL T l3.length Z))]/\(l3=l2++if iv.i.op=11\/iv.i.op=12 then [iv.i.c] else [])) (fun d3=>?_) ?_)
 ·refine zi 0 0 (fun c0=>?_) fun c0=>?_
  ·try simp only[BS]at c0
   refine aa (wUo 4 0 [(3,.o (iI iv.i.c))] 44 47 [] [(44,(sL N l2.length V)),(47,(iI iv.i.c))] (ql 3 3 (HS.hc a0 (i:=0) rfl) rfl rfl) rfl fun _=>aB (aT (α:=Int) (ps:=[(0,(iI iv.i.c))]) (cells:=[(iI iv.i.c)]) ([iv.i.c]:List Int) a0 rfl rfl rfl (by kernel_rfl) ⟨[(iI iv.i.c)],[],rfl,⟨rfl,by omega⟩,rfl⟩ rfl) rfl rfl ?_);rintro _ hV hj ⟨h4,ih,rfl,f7,(dt:HS _ _ _ [_,_,ag,hj] _),_⟩;refine aB (aZ (α:=Int) (q:=2) bk dt rfl rfl rfl (OS.sv f7 dt (i:=3) rfl) rfl rfl rfl rfl rfl rfl rfl (by(simp only[a05,a09,a0e];omega))) rfl rfl ?_;rintro _ hW fi ⟨e3,e6,rfl,f8,(g4:HS _ _ _ [_,_,fi,_] _),_⟩;refine za (sL e3 (l2++([iv.i.c]:List Int)).length e6) (ze 0 ?_);exact d3 _ _ ⟨l2++([iv.i.c]:List Int),e3,e6,fi,_,fR,(HS.sub g4 (a01 _ _)),f8,⟨rfl,rfl,trivial⟩,(by(rw[if_pos (by first|assumption|omega)];done))⟩
  try simp only[BS]at c0
  exact d3 _ _ ⟨l2,N,V,ag,_,fR,a0,bk,⟨rfl,rfl,trivial⟩,(by(rw[if_neg (by first|omega|(intro hh;simp_all;done)),a0B]))⟩
 skip;rintro h7 hS ⟨l3,T,Z,ax,g9,b2,a1,bl,dd,q3⟩;refine ah _ dd (fun _=>?_);clear dd;replace hT:=hT.mono b2;replace A:=A.mono b2;have n3:l3.length<=3:=by rw[q3,a05];exact a1O n2 d9
 refine zf 3 (wU 1 [(2,.o (iI iv.i.op))] 50 53 [] [(53,(.bool (iv.i.op==6)))] (ql 3 0 (HS.hc a1 (i:=0) rfl) rfl rfl) rfl fun _=>bP (fun f H'=> ∃(l4:List Int) (av:Option Addr) (aw:Nat) (a5:Fp) (F':Fz),Fz.le g9 F'/\HS (Base.of H []) F' H' [b5,b6,a5] R/\OS F' (sL av l4.length aw) l4 a5/\ap f [(5,(sL av l4.length aw))]/\(l4=l3++if iv.i.op=6 then iv.args else [])) (fun d4=>?_) ?_)
 ·refine zi 0 0 (fun c3=>?_) fun c3=>?_
  ·try simp only[BS]at c3
   refine aa (wUo 3 0 [(2,.o (sL al iv.args.length an))] 54 56 [] [(54,(sL T l3.length Z)),(56,(sL al iv.args.length an))] (ql 25 5 (HS.hc a1 (i:=0) rfl) rfl rfl) rfl fun _=>aB (aZ (α:=Int) (q:=2) bl a1 rfl rfl rfl (SR.sv A a1) rfl rfl rfl rfl rfl rfl rfl (by omega)) rfl rfl ?_);rintro _ hY f0 ⟨e4,e9,rfl,f9,(g6:HS _ _ _ [_,_,f0] _),_⟩;refine za (sL e4 (l3++iv.args).length e9) (ze 0 ?_);exact d4 _ _ ⟨l3++iv.args,e4,e9,f0,_,fR,g6,f9,⟨rfl,trivial⟩,(by(rw[if_pos (by first|assumption|omega)];done))⟩
  try simp only[BS]at c3
  exact d4 _ _ ⟨l3,T,Z,ax,_,fR,a1,bl,⟨rfl,trivial⟩,(by(rw[if_neg (by first|omega|(intro hh;simp_all;done)),a0B]))⟩
 skip;rintro h8 hX ⟨l4,av,aw,a5,hC,c5,g5,et,dk,q4⟩;refine ah _ dk (fun _=>?_);clear dk;have n4:l4.length<=1048579:=by rw[q4,a05];(have hq:(if iv.i.op=6 then iv.args else []).length<=iv.args.length:=by split<;>first|exact a0a _|exact a0p _);omega
 refine aA 2 rfl (aa (zm (sL av l4.length aw) ?_));obtain⟨hD,c6,a8,go,hz⟩:=OS.frz et g5 (i:=2) rfl;have a8:HS _ _ _ [_,_,_] _:=a8;replace hT:=(hT.mono c5).mono c6;refine zc (unique_c ex l4 (HS.call a8) go hT (by omega)) ?_;rintro _ h1 ⟨cc,em,ii,f1,hE,f3,b4,rfl,e1,rfl⟩;replace b4:HS _ _ _ [_,_,_,f1] _:=HS.back a8 rfl b4;refine za (sL cc (cJ [] l4).length em) (ze 1 (aj ⟨.inr rfl,_,rfl,cc,em,cJ [] l4,f1,_,(fT (fT (fT (fT (fT (fT (c7) bz) b0) b2) c5) c6) f3),(HS.only b4 (i:=3) rfl),rfl,e1,(reads_yes (by assumption) (by simp only[q4,q3,q2,q1,je,a0m]))⟩))
theorem kN{ag:Option Addr}{al:Nat}(iv:VInT)(hs:HS (.of H []) F H [] R)(f8:in64 iv.i.op)(f9:in64 iv.i.a)(go:in64 iv.i.b)(g0:in64 iv.i.c)(g2:in64 iv.i.n)(A:SR F (sL ag iv.args.length al) iv.args)(hT:TB 37 tabC F)(hy:iv.args.length<=1048576):kKt ex 58 [(aG [(iI iv.i.op),(iI iv.i.a),(iI iv.i.b),(iI iv.i.c),(iI iv.i.n),(sL ag iv.args.length al)])] H fun v H'=> ∃(ar:Option Addr) (kr:Nat) (r:List Int) (F':Fz),Fz.le F F'/\HS (.of H []) F' H' [] R/\v=sL ar r.length kr/\SR F' (sL ar r.length kr) r/\r=ak iv:=by
 refine aD Tryd.func58 rfl rfl (zf 1 (aa (aB (aU hs rfl rfl) rfl rfl ?_)));rintro _ H2 _ ⟨b1,rfl,(a4:HS _ _ _ [(fP b1 [(iI iv.i.op),(iI iv.i.a),(iI iv.i.b),(iI iv.i.c),(iI iv.i.n),(sL ag iv.args.length al)])] _),_⟩;refine za (sL none 0 0) (au 2 rfl (wT 3 [] 1 0 [3] [(3,(sL none 0 0))] rfl fun _=>wR 1 [(2,.o (iI iv.i.op)),(3,.o (.bool (alV iv.i.op)))] 6 10 [] [(10,(.bool (!(alV iv.i.op))))] (vA (ql 3 0 (HS.hc a4 (i:=0) rfl) rfl rfl) (vA (m1.ralw_c_q ex iv.i.op H2) trivial)) rfl fun _=>zi 1 2 (fun c5=>?_) fun c5=>?_))
 ·try simp only[BS]at c5
  refine wT 1 [] 2 2 [11] [(2,(sL none 0 0))] rfl fun _=>aj ⟨.inr rfl,_,rfl,none,0,([]:List Int),_,fR,(HS.forget a4),rfl,(SR.nil:SR F (sL none 0 0) ([]:List Int)),(reads_no (by assumption))⟩
 try simp only[BS]at c5
 have fi:alV iv.i.op=true:=by assumption
 refine aa (wUo 3 0 [(2,.o (iI iv.i.op))] 12 14 [] [(14,(iI iv.i.op))] (ql 3 0 (HS.hc a4 (i:=0) rfl) rfl rfl) rfl fun _=>zc (m3.rinfo_c ex iv.i.op (HS.call a4) (by omega) hT) ?_);rintro _ H8 ⟨x8,F8,c6,dk,rfl,f5,f6,rfl⟩;replace dk:HS _ _ _ [_] _:=HS.back a4 rfl dk;replace hT:=hT.mono c6;replace A:=A.mono c6;refine aB (be dk rfl) rfl rfl ?_;rintro _ hf _ ⟨b9,rfl,(e6:HS _ _ _ [_,(fP b9 [(.string ⟨⟨[]⟩⟩),(iI 0),(.bool false),(.bool false),(.bool false),(.bool false),(iI 0)])] _),_⟩;refine aH (az (q:=1) e6 rfl rfl rfl rfl rfl rfl rfl rfl rfl) rfl ?_;rintro _ hg _ ⟨(aw:HS _ _ _ [_,(fP b9 [(.string ⟨⟨(aL iv.i.op).name.b⟩⟩),(iI (aL iv.i.op).form),(.bool (aL iv.i.op).ra),(.bool (aL iv.i.op).wa),(.bool (aL iv.i.op).rb),(.bool (aL iv.i.op).mt),(iI (aL iv.i.op).words)])] _),_⟩;let b3:Fp:=(fP b1 [(iI iv.i.op),(iI iv.i.a),(iI iv.i.b),(iI iv.i.c),(iI iv.i.n),(sL ag iv.args.length al)])
 let b4:Fp:=(fP b9 [(.string ⟨⟨(aL iv.i.op).name.b⟩⟩),(iI (aL iv.i.op).form),(.bool (aL iv.i.op).ra),(.bool (aL iv.i.op).wa),(.bool (aL iv.i.op).rb),(.bool (aL iv.i.op).mt),(iI (aL iv.i.op).words)])
 refine ze 3 (wU 1 [(1,.o (.bool (aL iv.i.op).ra))] 16 17 [] [(17,(.bool (aL iv.i.op).ra))] (ql 4 2 (HS.hc aw (i:=1) rfl) rfl rfl) rfl fun _=>bP (fun f H'=> ∃(l1:List Int) (U:Option Addr) (Z:Nat) (F':Fz),Fz.le F8 F'/\HS (Base.of H []) F' H' [b3,b4] R/\SR F' (sL U l1.length Z) l1/\ap f [(1,(pT b1 0)),(3,(sL U l1.length Z)),(4,(pT b9 0))]/\(l1=cJ [] (if(aN iv.i.op).ra=true then [iv.i.a] else []))) (fun dn=>?_) ?_)
 ·refine zi 0 0 (fun co=>?_) fun co=>?_
  ·try simp only[BS]at co
   refine aa (wUo 4 0 [(3,.o (iI iv.i.a))] 18 21 [] [(18,(sL none 0 0)),(21,(iI iv.i.a))] (ql 3 1 (HS.hc aw (i:=0) rfl) rfl rfl) rfl fun _=>zc (m6.dj ex ([]:List Int) iv.i.a (HS.call aw) (SR.nil:SR F8 (sL none 0 0) ([]:List Int)) (by omega) hT (by(simp<;>omega))) ?_);rintro _ hk ⟨b6,dv,hA,g8,e2,bk,rfl,ea,rfl⟩;replace bk:HS _ _ _ [_,_] _:=HS.back aw rfl bk;refine za (sL b6 (dp ([]:List Int) iv.i.a).length dv) (ze 0 ?_);exact dn _ _ ⟨dp ([]:List Int) iv.i.a,b6,dv,_,(e2),bk,ea,⟨rfl,rfl,rfl,trivial⟩,(rrT (by rw[←vra];assumption))⟩
  try simp only[BS]at co
  exact dn _ _ ⟨([]:List Int),none,0,_,fR,aw,(SR.nil:SR F8 (sL none 0 0) ([]:List Int)),⟨rfl,rfl,rfl,trivial⟩,(rrF (by rw[←vra];simp_all))⟩
 skip;rintro ht hj ⟨l1,U,Z,f2,a8,ax,a5,c7,q1⟩;refine ah _ c7 (fun _=>?_);clear c7;replace hT:=hT.mono a8;replace A:=A.mono a8;have n1:=rr_len1 q1;refine zf 3 (wU 1 [(1,.o (.bool (aL iv.i.op).rb))] 23 24 [] [(24,(.bool (aL iv.i.op).rb))] (ql 4 4 (HS.hc ax (i:=1) rfl) rfl rfl) rfl fun _=>bP (fun f H'=> ∃(l2:List Int) (V:Option Addr) (ad:Nat) (F':Fz),Fz.le f2 F'/\HS (Base.of H []) F' H' [b3,b4] R/\SR F' (sL V l2.length ad) l2/\ap f [(1,(pT b1 0)),(3,(sL V l2.length ad)),(4,(pT b9 0))]/\(l2=cJ l1 (if(aN iv.i.op).rb=true then [iv.i.b] else []))) (fun ds=>?_) ?_)
 ·refine zi 0 0 (fun c0=>?_) fun c0=>?_
  ·try simp only[BS]at c0
   refine aa (wUo 4 0 [(3,.o (iI iv.i.b))] 25 28 [] [(25,(sL U l1.length Z)),(28,(iI iv.i.b))] (ql 3 2 (HS.hc ax (i:=0) rfl) rfl rfl) rfl fun _=>zc (m6.dj ex l1 iv.i.b (HS.call ax) a5 (by omega) hT (by omega)) ?_);rintro _ hm ⟨b7,d1,hB,g9,e3,bl,rfl,em,rfl⟩;replace bl:HS _ _ _ [_,_] _:=HS.back ax rfl bl;refine za (sL b7 (dp l1 iv.i.b).length d1) (ze 0 ?_);exact ds _ _ ⟨dp l1 iv.i.b,b7,d1,_,(e3),bl,em,⟨rfl,rfl,rfl,trivial⟩,(rrT (by rw[←vrb];assumption))⟩
  try simp only[BS]at c0
  exact ds _ _ ⟨l1,U,Z,_,fR,ax,a5,⟨rfl,rfl,rfl,trivial⟩,(rrF (by rw[←vrb];simp_all))⟩
 skip;rintro hu hl ⟨l2,V,ad,f3,a9,ay,a6,c8,q2⟩;refine ah _ c8 (fun _=>?_);clear c8;replace hT:=hT.mono a9;replace A:=A.mono a9;have n2:=rr_len2 n1 q2;refine zf 3 (wU 1 [(1,.o (iI (aL iv.i.op).form))] 30 32 [] [(32,(.bool ((aL iv.i.op).form==4)))] (ql 3 1 (HS.hc ay (i:=1) rfl) rfl rfl) rfl fun _=>bP (fun f H'=> ∃(l3:List Int) (an:Option Addr) (av:Nat) (F':Fz),Fz.le f3 F'/\HS (Base.of H []) F' H' [b3,b4] R/\SR F' (sL an l3.length av) l3/\ap f [(1,(pT b1 0)),(3,(sL an l3.length av))]/\(l3=cJ l2 (if iv.i.op=11\/iv.i.op=12 then [iv.i.c] else []))) (fun dt=>?_) ?_)
 ·refine zi 0 0 (fun c3=>?_) fun c3=>?_
  ·try simp only[BS]at c3
   refine aa (wUo 4 0 [(3,.o (iI iv.i.c))] 33 36 [] [(33,(sL V l2.length ad)),(36,(iI iv.i.c))] (ql 3 3 (HS.hc ay (i:=0) rfl) rfl rfl) rfl fun _=>zc (m6.dj ex l2 iv.i.c (HS.call ay) a6 (by omega) hT (by omega)) ?_);rintro _ hp ⟨cc,d2,hC,ha,e4,bz,rfl,et,rfl⟩;replace bz:HS _ _ _ [_,_] _:=HS.back ay rfl bz;refine za (sL cc (dp l2 iv.i.c).length d2) (ze 0 ?_);exact dt _ _ ⟨dp l2 iv.i.c,cc,d2,_,(e4),bz,et,⟨rfl,rfl,trivial⟩,(rrT ((vf4 fi).1 (by assumption)))⟩
  try simp only[BS]at c3
  exact dt _ _ ⟨l2,V,ad,_,fR,ay,a6,⟨rfl,rfl,trivial⟩,(rrF (fun hh=>absurd ((vf4 fi).2 hh) (by omega)))⟩
 skip;rintro hv hn ⟨l3,an,av,f4,bb,e9,d4,c9,q3⟩;refine ah _ c9 (fun _=>?_);clear c9;refine zf 3 (wT 2 [] 1 0 [5] [(5,(iI 0))] rfl fun _=>ae (fun(mm:Nat) f H'=> ∃(l4:List Int) (k:Nat) (E:Option Addr) (N:Nat) (F':Fz),Fz.le f4 F'/\HS (Base.of H []) F' H' [b3,b4] R/\SR F' (sL E l4.length N) l4/\ap f [(1,(pT b1 0)),(3,(sL E l4.length N)),(5,(iI (k:Int)))]/\mm=iv.args.length-k/\(l4=cJ l3 (iv.args.take k))/\(k<=iv.args.length)/\(k=0\/iv.i.op=6)) _ ⟨l3,0,an,av,_,fR,e9,d4,⟨rfl,rfl,rfl,trivial⟩,rfl,(by rfl),(by omega),(by omega)⟩ ?_);rintro g5 hw hq ⟨l4,k,E,N,hb,a3,T,a7,dd,rfl,q4,q5,q6⟩ fd;refine ah _ dd (fun _=>?_);clear dd;replace hT:=(hT.mono bb).mono a3;replace A:=(A.mono bb).mono a3;have n4:=rr_len q1 q2 q3 q4;refine aA 2 rfl (wR 1 [(2,.o (sL ag iv.args.length al)),(8,.o (iI iv.i.op))] 38 48 [] [(48,(.bool ((decide ((k:Int)<(iv.args.length:Int)))&&(iv.i.op==6))))] (vA (ql 25 5 (HS.hc T (i:=0) rfl) rfl rfl) (vA (fun(g1:(decide ((k:Int)<(iv.args.length:Int)))=true)=>(ql 3 0 (HS.hc T (i:=0) rfl) rfl rfl)) trivial)) rfl fun _=>zi 3 5 (fun c4=>?_) fun c4=>?_)
 ·try simp only[BS]at c4
  refine aa ?_;obtain⟨g4,dl⟩:=Sv.view (SR.sv A T);have hz:=fI (dl k);refine wRo 6 0 [(2,.o (sL ag iv.args.length al)),(5,.o (iI (iv.args.getD k 0)))] 51 56 [] [(51,(sL E l4.length N)),(56,(iI (iv.args.getD k 0)))] (vA (ql 25 5 (HS.hc T (i:=0) rfl) rfl rfl) (vA (Sv.ix (j:=(k:Int)) (SR.sv A T)) (vA (ql 3 0 (vI (dl k)) rfl rfl) trivial))) rfl fun _=>zc (m6.dj ex l4 (iv.args.getD k 0) (HS.call T) a7 (by omega) hT (by omega)) ?_
  rintro _ hr ⟨ch,d3,hD,he,e5,b0,rfl,ez,rfl⟩;replace b0:HS _ _ _ [_,_] _:=HS.back T rfl b0;refine za (sL ch (dp l4 (iv.args.getD k 0)).length d3) (au 2 rfl (wU 1 [] 49 50 [5] [(5,(iI ((k:Int)+1)))] (vi (n:=(k:Int)+1)) rfl fun _=>fd _ _ _ ?_ ⟨dp l4 (iv.args.getD k 0),k+1,ch,d3,_,(fT (a3) e5),b0,ez,⟨rfl,rfl,rfl,trivial⟩,rfl,(iJ (by omega) q4),(by omega),(by omega)⟩));omega
 try simp only[BS]at c4
 refine wT 1 [] 2 2 [58] [(2,(sL E l4.length N))] rfl fun _=>aj ⟨.inr rfl,_,rfl,E,N,l4,_,(fT (fT (fT (fT (c6) a8) a9) bb) a3),(HS.forget T),rfl,a7,(rr_end (by assumption) q1 q2 q3 q4 q6 (by omega))⟩
theorem gf{E:Option Addr}{N:Nat}(iv:VInT)(hs:HS (.of H []) F H [] R)(a2:in64 iv.i.op)(a3:in64 iv.i.a)(a4:in64 iv.i.b)(a5:in64 iv.i.c)(a6:in64 iv.i.n)(a7:SR F (sL E iv.args.length N) iv.args)(hT:TB 37 tabC F):kKt ex 52 [(aG [(iI iv.i.op),(iI iv.i.a),(iI iv.i.b),(iI iv.i.c),(iI iv.i.n),(sL E iv.args.length N)])] H fun v H'=> ∃(ar:Option Addr) (kr:Nat) (r:List Int) (p:Fp) (F':Fz),Fz.le F F'/\HS (.of H []) F' H' [p] R/\v=sL ar r.length kr/\OS F' (sL ar r.length kr) r p/\r=ab iv:=by
 refine aD Tryd.func52 rfl rfl (zf 1 (aa (aB (aU hs rfl rfl) rfl rfl ?_)));rintro _ H2 _ ⟨b1,rfl,(T:HS _ _ _ [(fP b1 [(iI iv.i.op),(iI iv.i.a),(iI iv.i.b),(iI iv.i.c),(iI iv.i.n),(sL E iv.args.length N)])] _),_⟩;refine za (sL none 0 0) (au 3 rfl (wR 1 [(2,.o (iI iv.i.op)),(3,.o (.bool (alV iv.i.op)))] 5 9 [] [(9,(.bool (!(alV iv.i.op))))] (vA (ql 3 0 (HS.hc T (i:=0) rfl) rfl rfl) (vA (m1.kE ex iv.i.op H2) trivial)) rfl fun _=>zi 1 2 (fun c4=>?_) fun c4=>?_))
 ·try simp only[BS]at c4
  refine wT 1 [] 2 2 [] [(2,(sL none 0 0))] rfl fun _=>aj ⟨.inr rfl,_,rfl,none,0,([]:List Int),[],_,fR,(HS.cons (HS.forget T)),rfl,(OS.nil:OS _ _ _ []),(writes_no (by assumption))⟩
 try simp only[BS]at c4
 refine aa (wUo 3 0 [(2,.o (iI iv.i.op))] 11 13 [] [(13,(iI iv.i.op))] (ql 3 0 (HS.hc T (i:=0) rfl) rfl rfl) rfl fun _=>zc (m1.mInfo_c ex iv.i.op (HS.call T) (by omega) hT) ?_);rintro _ H7 ⟨x7,o7,F7,ad,V,rfl,a0,a1,rfl,rfl⟩;replace V:HS _ _ _ [_] _:=HS.back T rfl V;refine wTo 3 4 [] 15 16 [10] [(15,(aG [(.string ⟨⟨(aN iv.i.op).name.b⟩⟩),(iI (aN iv.i.op).form),(.bool (aN iv.i.op).ra),(.bool (aN iv.i.op).wa),(.bool (aN iv.i.op).rb),(.bool (aN iv.i.op).mt),(iI (aN iv.i.op).words)])),(16,(.bool (infO iv.i.op)))] rfl fun _=>aB (be V rfl) rfl rfl ?_
 rintro _ bk _ ⟨b9,rfl,(aw:HS _ _ _ [_,(fP b9 [(.string ⟨⟨[]⟩⟩),(iI 0),(.bool false),(.bool false),(.bool false),(.bool false),(iI 0)])] _),_⟩;refine aH (az (q:=1) aw rfl rfl rfl rfl rfl rfl rfl rfl rfl) rfl ?_;rintro _ bl _ ⟨(A:HS _ _ _ [_,(fP b9 [(.string ⟨⟨(aN iv.i.op).name.b⟩⟩),(iI (aN iv.i.op).form),(.bool (aN iv.i.op).ra),(.bool (aN iv.i.op).wa),(.bool (aN iv.i.op).rb),(.bool (aN iv.i.op).mt),(iI (aN iv.i.op).words)])] _),_⟩;refine za (.bool (infO iv.i.op)) (au 3 rfl (wR 1 [(1,.o (.bool (aN iv.i.op).wa)),(5,.o (iI iv.i.op)),(11,.o (iI iv.i.op))] 17 30 [] [(30,(.bool (((aN iv.i.op).wa||(iv.i.op==6))||(iv.i.op==38))))] (vA (ql 4 3 (HS.hc A (i:=1) rfl) rfl rfl) (vA (fun(g1:(aN iv.i.op).wa=false)=>(ql 3 0 (HS.hc A (i:=0) rfl) rfl rfl)) (vA (fun(g1:((aN iv.i.op).wa||(iv.i.op==6))=false)=>(ql 3 0 (HS.hc A (i:=0) rfl) rfl rfl)) trivial))) rfl fun _=>zi 1 2 (fun U=>?_) fun U=>?_))
 ·try simp only[BS]at U
  refine aa (wUo 3 0 [(2,.o (iI iv.i.a))] 31 33 [] [(33,(iI iv.i.a))] (ql 3 1 (HS.hc A (i:=0) rfl) rfl rfl) rfl fun _=>aB (aT (α:=Int) (ps:=[(0,(iI iv.i.a))]) (cells:=[(iI iv.i.a)]) ([iv.i.a]:List Int) A rfl rfl rfl (by kernel_rfl) ⟨[(iI iv.i.a)],[],rfl,⟨rfl,by omega⟩,rfl⟩ rfl) rfl rfl ?_);rintro _ bz al ⟨Z,ag,rfl,av,(ax:HS _ _ _ [_,_,al] _),_⟩;refine za (sL Z ([iv.i.a]:List Int).length ag) (ze 1 (aj ⟨.inr rfl,_,rfl,Z,ag,([iv.i.a]:List Int),al,_,(ad),(HS.only ax (i:=2) rfl),rfl,av,(jO (by assumption) (or_assoc.1 (by assumption)))⟩))
 try simp only[BS]at U
 refine wT 1 [] 2 2 [] [(2,(sL none 0 0))] rfl fun _=>aj ⟨.inr rfl,_,rfl,none,0,([]:List Int),[],_,(ad),(HS.cons (HS.forget A)),rfl,(OS.nil:OS _ _ _ []),(writes_not (by simp_all))⟩
theorem i8{N:Option Addr}{T:Nat}(iv:VInT)(hs:HS (.of H []) F H [] R)(a5:in64 iv.i.op)(a6:in64 iv.i.a)(a7:in64 iv.i.b)(a8:in64 iv.i.c)(a9:in64 iv.i.n)(bb:SR F (sL N iv.args.length T) iv.args)(hT:TB 37 tabC F):kKt ex 54 [(aG [(iI iv.i.op),(iI iv.i.a),(iI iv.i.b),(iI iv.i.c),(iI iv.i.n),(sL N iv.args.length T)])] H fun v H'=> ∃(ar:Option Addr) (kr:Nat) (r:List Int) (p:Fp) (F':Fz),Fz.le F F'/\HS (.of H []) F' H' [p] R/\v=sL ar r.length kr/\OS F' (sL ar r.length kr) r p/\r=ab iv:=by
 refine aD Tryd.func54 rfl rfl (zf 1 (aa (aB (aU hs rfl rfl) rfl rfl ?_)));rintro _ H2 _ ⟨U,rfl,(Z:HS _ _ _ [(fP U [(iI iv.i.op),(iI iv.i.a),(iI iv.i.b),(iI iv.i.c),(iI iv.i.n),(sL N iv.args.length T)])] _),_⟩;refine za (sL none 0 0) (ze 3 (kB 3 19 [] [(19,(.bool (alV iv.i.op&&((aL iv.i.op).wa||(iv.i.op==6)))))] (fun H'=> ∃F',Fz.le F F'/\HS (Base.of H []) F' H' [(fP U [(iI iv.i.op),(iI iv.i.a),(iI iv.i.b),(iI iv.i.c),(iI iv.i.n),(sL N iv.args.length T)])] R) ?_ ?_))
 ·refine aa (aO (v:=(pT U 0)) (dO rfl rfl) rfl rfl (aO (v:=(pT U 0)) (dO rfl rfl) rfl rfl (aO (v:=(iI iv.i.op)) (b8 (i:=0) rfl rfl (HS.hc Z (i:=0) rfl) rfl rfl) rfl rfl (zc (m1.ralw_c ex iv.i.op _) ?_))));rintro _ H2 ⟨r6,rfl,rfl,rfl⟩;refine zm (.bool (alV iv.i.op)) (wo_gsT (v:=(alV iv.i.op)) rfl rfl (fun A=>?_) (fun A=>?_))
  ·have al:=A;try simp only[BS]at al
   refine aO (v:=(pT U 0)) (dO rfl rfl) rfl rfl (ca rfl A (aO (v:=(pT U 0)) (dO rfl rfl) rfl rfl (ca rfl A (aO (v:=(iI iv.i.op)) (b8 (i:=0) rfl rfl (HS.hc Z (i:=0) rfl) rfl rfl) rfl rfl (ca rfl A (zc (m3.rinfo_c ex iv.i.op (HS.call Z) (by omega) hT) ?_))))));rintro _ H8 ⟨x8,F8,ax,ad,rfl,a3,a4,rfl⟩;replace ad:HS _ _ _ [_] _:=HS.back Z rfl ad;refine ca rfl A (aO (v:=(.bool (aL iv.i.op).wa)) (ap_fv rfl rfl) rfl rfl (ca rfl A (zm (.bool (aL iv.i.op).wa) (wo_gsF (v:=(aL iv.i.op).wa) rfl rfl (fun E=>?_) (fun E=>?_)))))
   ·have an:=E;try simp only[BS]at an
    refine aO (v:=(pT U 0)) (dO rfl rfl) rfl rfl (ca rfl E (aO (v:=(pT U 0)) (dO rfl rfl) rfl rfl (ca rfl E (aO (v:=(iI iv.i.op)) (b8 (i:=0) rfl rfl (HS.hc ad (i:=0) rfl) rfl rfl) rfl rfl (ca rfl E (aO (v:=(.bool (iv.i.op==6))) (jF rfl rfl rfl rfl) rfl rfl (ca rfl A (aO (v:=(.bool (iv.i.op==6))) (ej rfl E rfl) rfl rfl (aO (v:=(.bool (iv.i.op==6))) (eR rfl A rfl) rfl rfl (dQ ?_))))))))));exact aK ⟨rfl,⟨_,(fT fR ax),HS.sub ad (List.Sublist.refl _)⟩,(Lu rfl (Lu rfl (Lu rfl (Lu rfl (Lu rfl (Lu rfl (Lu rfl (Lu rfl (Lu rfl (Lu rfl (Lu rfl (Lu rfl (Lu rfl (Lu rfl (Lu rfl (Lu rfl (Lu rfl Lr))))))))))))))))),(agC (congrArg Value.bool (show(iv.i.op==6)=(alV iv.i.op&&((aL iv.i.op).wa||(iv.i.op==6))) by simp only[↓A,↓E,BT])) agN)⟩
   have an:=E;try simp only[BS]at an
   refine wo_gf0 rfl E rfl (wo_gf0 rfl E rfl (wo_gf0 rfl E rfl (ca rfl A (aO (v:=(.bool true)) (eR rfl E rfl) rfl rfl (aO (v:=(.bool true)) (eR rfl A rfl) rfl rfl (dQ ?_))))));exact aK ⟨rfl,⟨_,(fT fR ax),HS.sub ad (List.Sublist.refl _)⟩,(Lu rfl (Lu rfl (Lu rfl (Lu rfl (Lu rfl (Lu rfl (Lu rfl (Lu rfl (Lu rfl (Lu rfl (Lu rfl (Lu rfl (Lu rfl (Lu rfl (Lu rfl (Lu rfl (Lu rfl Lr))))))))))))))))),(agC (congrArg Value.bool (show true=(alV iv.i.op&&((aL iv.i.op).wa||(iv.i.op==6))) by simp only[↓A,↓E,BT])) agN)⟩
  have al:=A;try simp only[BS]at al
  refine br rfl A rfl (br rfl A rfl (br rfl A rfl (br rfl A rfl (br rfl A rfl (wo_gn rfl rfl (wo_gn rfl rfl (wo_gn rfl rfl (wo_gn rfl rfl (br rfl A rfl (aO (v:=(.bool false)) (ej rfl A rfl) rfl rfl (dQ ?_)))))))))));exact aK ⟨rfl,⟨_,fR,HS.sub Z (List.Sublist.refl _)⟩,(Lu rfl (Lu rfl (Lu rfl (Lu rfl (Lu rfl (Lu rfl (Lu rfl (Lu rfl (Lu rfl (Lu rfl (Lu rfl (Lu rfl (Lu rfl (Lu rfl (Lu rfl (Lu rfl (Lu rfl Lr))))))))))))))))),(agC (congrArg Value.bool (show false=(alV iv.i.op&&((aL iv.i.op).wa||(iv.i.op==6))) by simp only[↓A,BT])) agN)⟩
 skip;rintro g5 H5 ⟨F5,aw,ag⟩;refine aA 1 rfl (zi 1 2 (fun V=>?_) fun V=>?_)
 ·try simp only[BS]at V
  have hq:=V;refine aa (wUo 3 0 [(2,.o (iI iv.i.a))] 20 22 [] [(22,(iI iv.i.a))] (ql 3 1 (HS.hc ag (i:=0) rfl) rfl rfl) rfl fun _=>aB (aT (α:=Int) (ps:=[(0,(iI iv.i.a))]) (cells:=[(iI iv.i.a)]) ([iv.i.a]:List Int) ag rfl rfl rfl (by kernel_rfl) ⟨[(iI iv.i.a)],[],rfl,⟨rfl,by omega⟩,rfl⟩ rfl) rfl rfl ?_);rintro _ bl a0 ⟨av,ay,rfl,a1,(a2:HS _ _ _ [_,a0] _),_⟩;refine za (sL av ([iv.i.a]:List Int).length ay) (ze 1 (aj ⟨.inr rfl,_,rfl,av,ay,([iv.i.a]:List Int),a0,_,(aw),(HS.only a2 (i:=1) rfl),rfl,a1,(rwr_yes hq)⟩))
 try simp only[BS]at V
 have hq:=V;refine wT 1 [] 2 2 [] [(2,(sL none 0 0))] rfl fun _=>aj ⟨.inr rfl,_,rfl,none,0,([]:List Int),[],_,(aw),(HS.cons (HS.forget ag)),rfl,(OS.nil:OS _ _ _ []),(rwr_no hq)⟩
theorem vsucc_c{N:Option Addr}{U:Nat}(b:BlkT)(hs:HS (.of H []) F H [] R)(a9:SR F (sL N b.ins.length U) b.ins)(bb:in64 b.fin)(bk:in64 b.reg)(bl:in64 b.tgt)(bz:in64 b.els)(hT:TB 37 tabC F):kKt ex 133 [(aG [(sL N b.ins.length U),(iI b.fin),(iI b.reg),(iI b.tgt),(iI b.els)])] H fun v H'=> ∃(ar:Option Addr) (kr:Nat) (r:List Int) (p:Fp) (F':Fz),Fz.le F F'/\HS (.of H []) F' H' [p] R/\v=sL ar r.length kr/\OS F' (sL ar r.length kr) r p/\r=bh b:=by
 refine aD Tryd.func133 rfl rfl (zf 1 (aa (aB (aU hs rfl rfl) rfl rfl ?_)));rintro _ H2 _ ⟨b1,rfl,(A:HS _ _ _ [(fP b1 [(sL N b.ins.length U),(iI b.fin),(iI b.reg),(iI b.tgt),(iI b.els)])] _),_⟩;refine za (sL none 0 0) (au 3 rfl (wU 3 [(1,.o (iI b.fin))] 3 4 [] [(4,(iI b.fin))] (ql 3 1 (HS.hc A (i:=0) rfl) rfl rfl) rfl fun _=>wT 1 [] 5 6 [] [(5,(.bool (b.fin==1)))] rfl fun _=>zi 1 1 (fun c5=>?_) fun c5=>?_))
 ·try simp only[BS]at c5
  refine aa (wUo 2 0 [(1,.o (iI b.tgt))] 7 8 [] [(8,(iI b.tgt))] (ql 3 3 (HS.hc A (i:=0) rfl) rfl rfl) rfl fun _=>aB (aT (α:=Int) (ps:=[(0,(iI b.tgt))]) (cells:=[(iI b.tgt)]) ([b.tgt]:List Int) A rfl rfl rfl (by kernel_rfl) ⟨[(iI b.tgt)],[],rfl,⟨rfl,by omega⟩,rfl⟩ rfl) rfl rfl ?_);rintro _ H8 p7 ⟨a7,k7,rfl,a2,(a3:HS _ _ _ [_,p7] _),_⟩;refine za (sL a7 ([b.tgt]:List Int).length k7) (ze 1 (aj ⟨.inr rfl,_,rfl,a7,k7,([b.tgt]:List Int),p7,_,fR,(HS.only a3 (i:=1) rfl),rfl,a2,(succ1 (by assumption))⟩))
 try simp only[BS]at c5
 refine wT 1 [] 10 11 [] [(10,(.bool (b.fin==2)))] rfl fun _=>zi 1 3 (fun Z=>?_) fun Z=>?_
 ·try simp only[BS]at Z
  refine aa (wRo 4 0 [(1,.o (iI b.tgt)),(3,.o (iI b.els))] 12 15 [] [(13,(iI b.tgt)),(15,(iI b.els))] (vA (ql 3 3 (HS.hc A (i:=0) rfl) rfl rfl) (vA (ql 3 4 (HS.hc A (i:=0) rfl) rfl rfl) trivial)) rfl fun _=>aB (aT (α:=Int) (ps:=[(0,(iI b.tgt)),(1,(iI b.els))]) (cells:=[(iI b.tgt),(iI b.els)]) ([b.tgt,b.els]:List Int) A rfl rfl rfl (by kernel_rfl) ⟨[(iI b.tgt)],[(iI b.els)],rfl,⟨rfl,by omega⟩,⟨[(iI b.els)],[],rfl,⟨rfl,by omega⟩,rfl⟩⟩ rfl) rfl rfl ?_);rintro _ b4 a5 ⟨b6,b7,rfl,ax,(a0:HS _ _ _ [_,a5] _),_⟩;obtain⟨b2,ad,E,ay,b0⟩:=OS.frz ax a0 (i:=1) rfl;have E:HS _ _ _ [_,[]] _:=E;replace hT:=hT.mono ad;refine zc (unique_c ex ([b.tgt,b.els]:List Int) (HS.call E) ay hT (by simp)) ?_;rintro _ b5 ⟨V,ag,b9,an,b3,aw,T,rfl,al,rfl⟩;replace T:HS _ _ _ [_,_,an] _:=HS.back E rfl T;refine za (sL V (cJ [] ([b.tgt,b.els]:List Int)).length ag) (ze 1 (aj ⟨.inr rfl,_,rfl,V,ag,cJ [] ([b.tgt,b.els]:List Int),an,_,(fT (ad) aw),(HS.only T (i:=2) rfl),rfl,al,(succ2 (by assumption)).symm⟩))
 try simp only[BS]at Z
 refine wT 1 [] 2 2 [] [(2,(sL none 0 0))] rfl fun _=>aj ⟨.inr rfl,_,rfl,none,0,([]:List Int),[],_,fR,(HS.cons (HS.forget A)),rfl,(OS.nil:OS _ _ _ []),(succ0 (by omega))⟩
theorem rsucc_c{N:Option Addr}{U:Nat}(b:BlkT)(hs:HS (.of H []) F H [] R)(bb:SR F (sL N b.ins.length U) b.ins)(bk:in64 b.fin)(bl:in64 b.reg)(bz:in64 b.tgt)(b0:in64 b.els)(hT:TB 37 tabC F):kKt ex 66 [(aG [(sL N b.ins.length U),(iI b.fin),(iI b.reg),(iI b.tgt),(iI b.els)])] H fun v H'=> ∃(ar:Option Addr) (kr:Nat) (r:List Int) (F':Fz),Fz.le F F'/\HS (.of H []) F' H' [] R/\v=sL ar r.length kr/\SR F' (sL ar r.length kr) r/\r=bh b:=by
 refine aD Tryd.func66 rfl rfl (zf 1 (aa (aB (aU hs rfl rfl) rfl rfl ?_)));rintro _ H2 _ ⟨b1,rfl,(A:HS _ _ _ [(fP b1 [(sL N b.ins.length U),(iI b.fin),(iI b.reg),(iI b.tgt),(iI b.els)])] _),_⟩;refine za (sL none 0 0) (au 3 rfl (wU 3 [(1,.o (iI b.fin))] 3 4 [] [(4,(iI b.fin))] (ql 3 1 (HS.hc A (i:=0) rfl) rfl rfl) rfl fun _=>wT 1 [] 5 6 [] [(5,(.bool (b.fin==1)))] rfl fun _=>zi 1 1 (fun c5=>?_) fun c5=>?_))
 ·try simp only[BS]at c5
  refine aa (wUo 2 0 [(1,.o (iI b.tgt))] 7 8 [] [(8,(iI b.tgt))] (ql 3 3 (HS.hc A (i:=0) rfl) rfl rfl) rfl fun _=>aB (aT (α:=Int) (ps:=[(0,(iI b.tgt))]) (cells:=[(iI b.tgt)]) ([b.tgt]:List Int) A rfl rfl rfl (by kernel_rfl) ⟨[(iI b.tgt)],[],rfl,⟨rfl,by omega⟩,rfl⟩ rfl) rfl rfl ?_);rintro _ H8 p7 ⟨a7,k7,rfl,a3,(a5:HS _ _ _ [_,p7] _),_⟩;refine za (sL a7 ([b.tgt]:List Int).length k7) (ze 1 ?_);obtain⟨F9,a2,al,a4,cc⟩:=OS.frz a3 a5 (i:=1) rfl;have al:HS _ _ _ [_,[]] _:=al;refine aj ⟨.inr rfl,_,rfl,a7,k7,([b.tgt]:List Int),_,(a2),(HS.forget al),rfl,a4,(succ1 (by assumption))⟩
 try simp only[BS]at c5
 refine wT 1 [] 10 11 [] [(10,(.bool (b.fin==2)))] rfl fun _=>zi 1 3 (fun Z=>?_) fun Z=>?_
 ·try simp only[BS]at Z
  refine aa (wUo 2 0 [(1,.o (iI b.tgt))] 12 13 [] [(13,(iI b.tgt))] (ql 3 3 (HS.hc A (i:=0) rfl) rfl rfl) rfl fun _=>aB (aT (α:=Int) (ps:=[(0,(iI b.tgt))]) (cells:=[(iI b.tgt)]) ([b.tgt]:List Int) A rfl rfl rfl (by kernel_rfl) ⟨[(iI b.tgt)],[],rfl,⟨rfl,by omega⟩,rfl⟩ rfl) rfl rfl ?_);rintro _ b6 a8 ⟨b9,ch,rfl,ay,(ag:HS _ _ _ [_,a8] _),_⟩;refine wUo 2 3 [(4,.o (iI b.els))] 15 16 [] [(16,(iI b.els))] (ql 3 4 (HS.hc ag (i:=0) rfl) rfl rfl) rfl fun _=>?_
  obtain⟨b4,ad,E,a0,b2⟩:=OS.frz ay ag (i:=1) rfl;have E:HS _ _ _ [_,[]] _:=E;replace hT:=hT.mono ad;refine zc (m6.dj ex ([b.tgt]:List Int) b.els (HS.call E) a0 (by omega) hT (by simp)) ?_;rintro _ b7 ⟨V,an,ci,b5,ax,T,rfl,av,rfl⟩;replace T:HS _ _ _ [_,_] _:=HS.back E rfl T;refine za (sL V (dp ([b.tgt]:List Int) b.els).length an) (ze 1 (aj ⟨.inr rfl,_,rfl,V,an,dp ([b.tgt]:List Int) b.els,_,(fT (ad) ax),(HS.forget T),rfl,av,(succ2 (by assumption)).symm⟩))
 try simp only[BS]at Z
 refine wT 1 [] 2 2 [] [(2,(sL none 0 0))] rfl fun _=>aj ⟨.inr rfl,_,rfl,none,0,([]:List Int),_,fR,(HS.forget A),rfl,(SR.nil:SR F (sL none 0 0) ([]:List Int)),(succ0 (by omega))⟩
theorem rend_c{E:Option Addr}{N:Nat}(b:BlkT)(hs:HS (.of H []) F H [] R)(an:SR F (sL E b.ins.length N) b.ins)(av:in64 b.fin)(aw:in64 b.reg)(ax:in64 b.tgt)(ay:in64 b.els)(hT:TB 37 tabC F):kKt ex 59 [(aG [(sL E b.ins.length N),(iI b.fin),(iI b.reg),(iI b.tgt),(iI b.els)])] H fun v H'=> ∃(ar:Option Addr) (kr:Nat) (r:List Int) (p:Fp) (F':Fz),Fz.le F F'/\HS (.of H []) F' H' [p] R/\v=sL ar r.length kr/\OS F' (sL ar r.length kr) r p/\r=dr b:=by
 refine aD Tryd.func59 rfl rfl (zf 1 (aa (aB (aU hs rfl rfl) rfl rfl ?_)));rintro _ H2 _ ⟨b1,rfl,(A:HS _ _ _ [(fP b1 [(sL E b.ins.length N),(iI b.fin),(iI b.reg),(iI b.tgt),(iI b.els)])] _),_⟩;refine za (sL none 0 0) (au 3 rfl (wR 1 [(1,.o (iI b.fin)),(5,.o (iI b.fin))] 3 10 [] [(10,(.bool ((b.fin==2)||(b.fin==3))))] (vA (ql 3 1 (HS.hc A (i:=0) rfl) rfl rfl) (vA (fun(g1:(b.fin==2)=false)=>(ql 3 1 (HS.hc A (i:=0) rfl) rfl rfl)) trivial)) rfl fun _=>zi 1 2 (fun T=>?_) fun T=>?_))
 ·try simp only[BS]at T
  refine aa (wUo 2 0 [(1,.o (iI b.reg))] 11 12 [] [(12,(iI b.reg))] (ql 3 2 (HS.hc A (i:=0) rfl) rfl rfl) rfl fun _=>aB (aT (α:=Int) (ps:=[(0,(iI b.reg))]) (cells:=[(iI b.reg)]) ([b.reg]:List Int) A rfl rfl rfl (by kernel_rfl) ⟨[(iI b.reg)],[],rfl,⟨rfl,by omega⟩,rfl⟩ rfl) rfl rfl ?_);rintro _ H7 p6 ⟨U,k6,rfl,V,(Z:HS _ _ _ [_,p6] _),_⟩;refine za (sL U ([b.reg]:List Int).length k6) (ze 1 (aj ⟨.inr rfl,_,rfl,U,k6,([b.reg]:List Int),p6,_,fR,(HS.only Z (i:=1) rfl),rfl,V,(if_pos (by omega)).symm⟩))
 try simp only[BS]at T
 refine wT 1 [] 2 2 [] [(2,(sL none 0 0))] rfl fun _=>aj ⟨.inr rfl,_,rfl,none,0,([]:List Int),[],_,fR,(HS.cons (HS.forget A)),rfl,(OS.nil:OS _ _ _ []),(if_neg (by omega)).symm⟩
theorem eH{ai:Option Addr}{a0:Nat}(a:List Int){ao:Option Addr}{a1:Nat}(b:List Int)(hs:HS (.of H []) F H [] R)(ha:SR F (sL ai a.length a0) a)(hb:SR F (sL ao b.length a1) b)(hT:TB 37 tabC F)(ck:a.length+b.length<=1073741824):kKt ex 69 [(sL ai a.length a0),(sL ao b.length a1)] H fun v H'=> ∃(ar:Option Addr) (kr:Nat) (r:List Int) (F':Fz),Fz.le F F'/\HS (.of H []) F' H' [] R/\v=sL ar r.length kr/\SR F' (sL ar r.length kr) r/\r=cJ a b:=by
 refine aD Tryd.func69 rfl rfl (aA 1 rfl (wT 2 [] 4 4 [] [(4,(sL none 0 0))] rfl fun _=>aa (zm (sL ai a.length a0) ?_)));have V:=HS.snoc hs;have V:HS _ _ _ [[]] _:=V;refine aB (aZ (α:=Int) (q:=0) (OS.nil:OS F (sL none 0 0) ([]:List Int) []) V rfl rfl rfl (SR.sv ha V) rfl rfl rfl rfl rfl rfl rfl (by(simp only[a05,a09,a0e];omega))) rfl rfl ?_;rintro _ H4 p3 ⟨a3,k3,rfl,al,(a6:HS _ _ _ [p3] _),_⟩;have al:OS F (sL a3 a.length k3) a p3:=al;refine za (sL a3 a.length k3) (ze 3 ?_);obtain⟨F5,ag,an,a5,b1⟩:=OS.frz al a6 (i:=0) rfl;have an:HS _ _ _ [[]] _:=an;refine wT 2 [] 1 0 [6] [(6,(iI 0))] rfl fun _=>ae (fun(mm:Nat) f H'=> ∃(o:List Int) (i:Nat) (A:Option Addr) (E:Nat) (F':Fz),Fz.le F5 F'/\HS (Base.of H []) F' H' [[]] R/\SR F' (sL A o.length E) o/\ap f [(1,(sL ao b.length a1)),(5,(sL A o.length E)),(6,(iI (i:Int)))]/\mm=b.length-i/\(i<=b.length)/\(o=cJ a (b.take i))) _ ⟨a,0,a3,k3,_,fR,an,a5,⟨rfl,rfl,rfl,trivial⟩,rfl,(by omega),(by rfl)⟩ ?_
 rintro b2 f7 H7 ⟨o,i,A,E,F7,U,N,Z,ay,rfl,h1,h2⟩ a7;refine ah _ ay (fun _=>?_);clear ay;replace hT:=(hT.mono ag).mono U;replace hb:=(hb.mono ag).mono U;have n4:o.length<=a.length+b.length:=by rw[h2];exact a0d en (by simp;omega)
 refine aA 2 rfl (wT 1 [] 9 12 [] [(12,(.bool (decide ((i:Int)<(b.length:Int)))))] rfl fun _=>zd 3 5 (fun c9=>?_) fun c9=>?_)
 ·refine aa ?_;obtain⟨bk,av⟩:=Sv.view (SR.sv hb N);have b0:=fI (av i);refine wRo 5 0 [(4,.o (iI (b.getD i 0)))] 15 19 [] [(15,(sL A o.length E)),(19,(iI (b.getD i 0)))] (vA (Sv.ix (j:=(i:Int)) (SR.sv hb N)) (vA (ql 3 0 (vI (av i)) rfl rfl) trivial)) rfl fun _=>zc (m6.dj ex o (b.getD i 0) (HS.call N) Z (by omega) hT (by omega)) ?_
  rintro _ bz ⟨ad,aw,b3,bl,a2,T,rfl,ax,rfl⟩;replace T:HS _ _ _ [_] _:=HS.back N rfl T;refine za (sL ad (dp o (b.getD i 0)).length aw) (au 2 rfl (wU 1 [] 13 14 [6] [(6,(iI ((i:Int)+1)))] (vi (n:=(i:Int)+1)) rfl fun _=>a7 _ _ _ ?_ ⟨dp o (b.getD i 0),i+1,ad,aw,_,(fT (U) a2),T,ax,⟨rfl,rfl,rfl,trivial⟩,rfl,(by omega),(iJ (by omega) h2)⟩));omega
 refine wT 1 [] 4 4 [21] [(4,(sL A o.length E))] rfl fun _=>aj ⟨.inr rfl,_,rfl,A,E,o,_,(fT (ag) U),(HS.forget N),rfl,Z,(uni_all (by omega) h2)⟩
theorem minus_c{an:Option Addr}{a6:Nat}(a:List Int){ao:Option Addr}{b1:Nat}(b:List Int)(hs:HS (.of H []) F H [] R)(ha:SR F (sL an a.length a6) a)(hb:SR F (sL ao b.length b1) b)(hT:TB 37 tabC F)(ch:a.length<=1073741824/\b.length<=1073741824):kKt ex 106 [(sL an a.length a6),(sL ao b.length b1)] H fun v H'=> ∃(ar:Option Addr) (kr:Nat) (r:List Int) (p:Fp) (F':Fz),Fz.le F F'/\HS (.of H []) F' H' [p] R/\v=sL ar r.length kr/\OS F' (sL ar r.length kr) r p/\r=bZ a b:=by
 refine aD Tryd.func106 rfl rfl (zf 1 (wT 2 [] 4 4 [] [(4,(sL none 0 0))] rfl fun _=>wT 3 [] 1 0 [5] [(5,(sL none 0 0))] rfl fun _=>wT 2 [] 1 0 [6] [(6,(iI 0))] rfl fun _=>?_));have ag:=HS.snoc hs;have ag:HS _ _ _ [[]] _:=ag;refine ae (fun(mm:Nat) f H'=> ∃(o:List Int) (i:Nat) (A:Option Addr) (E:Nat) (N:Fp) (F':Fz),Fz.le F F'/\HS (Base.of H []) F' H' [N] R/\OS F' (sL A o.length E) o N/\ap f [(0,(sL an a.length a6)),(1,(sL ao b.length b1)),(5,(sL A o.length E)),(6,(iI (i:Int)))]/\mm=a.length-i/\(i<=a.length)/\(o=bZ (a.take i) b)) _ ⟨([]:List Int),0,none,0,[],_,fR,ag,(OS.nil:OS _ (sL none 0 0) ([]:List Int) []),⟨rfl,rfl,rfl,rfl,trivial⟩,rfl,(by omega),(by rfl)⟩ ?_;rintro b0 f4 H4 ⟨o,i,A,E,N,F4,U,T,V,aw,rfl,h1,h2⟩ ay;refine ah _ aw (fun _=>?_);clear aw;replace hT:=hT.mono U;replace ha:=ha.mono U;replace hb:=hb.mono U;have n4:o.length<=a.length:=by rw[h2];exact a0d min_len (by simp;omega)
 refine aA 2 rfl (wT 1 [] 7 10 [] [(10,(.bool (decide ((i:Int)<(a.length:Int)))))] rfl fun _=>zd 4 5 (fun c7=>?_) fun c7=>?_)
 ·obtain⟨bk,ax⟩:=Sv.view (SR.sv ha T);have g9:=fI (ax i);refine wR 1 [(4,.o (iI (a.getD i 0))),(5,.o (.bool (im b (a.getD i 0))))] 13 19 [] [(19,(.bool (!(im b (a.getD i 0)))))] (vA (Sv.ix (j:=(i:Int)) (SR.sv ha T)) (vA (ql 3 0 (vI (ax i)) rfl rfl) (vA (m6.ei ex b (a.getD i 0) (HS.call T) hb (by omega) hT (by omega)) trivial))) rfl fun _=>zi 0 2 (fun Z=>?_) fun Z=>?_
  ·try simp only[BS]at Z
   refine aa ?_;obtain⟨a7,al⟩:=Sv.view (SR.sv ha T);have bl:=fI (al i);refine wRo 5 0 [(4,.o (iI (a.getD i 0)))] 20 24 [] [(20,(sL A o.length E)),(24,(iI (a.getD i 0)))] (vA (Sv.ix (j:=(i:Int)) (SR.sv ha T)) (vA (ql 3 0 (vI (al i)) rfl rfl) trivial)) rfl fun _=>aB (aT (α:=Int) (ps:=[(0,(iI (a.getD i 0)))]) (cells:=[(iI (a.getD i 0))]) ([(a.getD i 0)]:List Int) T rfl rfl rfl (by kernel_rfl) ⟨[(iI (a.getD i 0))],[],rfl,⟨rfl,by omega⟩,rfl⟩ rfl) rfl rfl ?_
   rintro _ a8 a5 ⟨bb,bz,rfl,a2,(ad:HS _ _ _ [N,a5] _),_⟩;refine aB (aZ (α:=Int) (q:=0) V ad rfl rfl rfl (OS.sv a2 ad (i:=1) rfl) rfl rfl rfl rfl rfl rfl rfl (by(simp only[a05,a09,a0e];omega))) rfl rfl ?_;rintro _ a9 a1 ⟨av,a0,rfl,a3,(a4:HS _ _ _ [a1,_] _),_⟩;refine za (sL av (o++([(a.getD i 0)]:List Int)).length a0) (au 2 rfl (wU 1 [] 11 12 [6] [(6,(iI ((i:Int)+1)))] (vi (n:=(i:Int)+1)) rfl fun _=>ay _ _ _ ?_ ⟨o++([(a.getD i 0)]:List Int),i+1,av,a0,a1,_,(U),(HS.sub a4 (a01 _ _)),a3,⟨rfl,rfl,rfl,rfl,trivial⟩,rfl,(by omega),((iN (by omega) h2).1 (by assumption))⟩));omega
  try simp only[BS]at Z
  refine wU 1 [] 11 12 [6] [(6,(iI ((i:Int)+1)))] (vi (n:=(i:Int)+1)) rfl fun _=>ay _ _ _ ?_ ⟨o,i+1,A,E,N,_,(U),T,V,⟨rfl,rfl,rfl,rfl,trivial⟩,rfl,(by omega),((iN (by omega) h2).2 (by assumption))⟩
  omega
 refine wT 1 [] 4 4 [27] [(4,(sL A o.length E))] rfl fun _=>aj ⟨.inr rfl,_,rfl,A,E,o,N,_,(U),(HS.only T (i:=0) rfl),rfl,V,(by rw[h2,a0g (by omega)])⟩
end Go.Proofs.YtknafdcgpaejlaaDoor.ma
