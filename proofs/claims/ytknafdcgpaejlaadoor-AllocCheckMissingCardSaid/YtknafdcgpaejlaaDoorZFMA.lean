/-
What instructions read and write, what follows a block, unions and differences of sets: the program and the reference. No condition but bounds on lengths.
-/
import Derived.Test.YtknafdcgpaejlaaDoorZFM6
noncomputable section
namespace Go.Proofs.YtknafdcgpaejlaaDoor.ma
open Go.R
set_option maxRecDepth 10000
set_option maxHeartbeats 1000000
set_option linter.unusedVariables false
set_option linter.unusedSimpArgs false
variable (ex:FuncId) {F:Fz} {H:Heap} {R:List Fp}
open m1 m2 m3 m4 m5 m6
abbrev Asc(l:List Int):Prop:=l.Pairwise (· < ·)
def cH(a l:List Int):List Int:=l.foldl di a
def dR(a b:List Int):List Int:=a.filter fun x=> !cG b x
theorem kU{l:List Int}(h:Asc l){i j:Nat}(z:i<j)(A:j<l.length):l.getD i 0<l.getD j 0:=by have:=(a1Q.1 h) i j (by omega) A z;rw[a01,a01,a05 A,a05 (show i<l.length by omega)];exact this
theorem pre_lt{l:List Int}{n:Int}: ∀x∈l.take (iH l n),x<n:=by
 intro x z;have e:l.take (iH l n)=l.takeWhile (fun x=>decide (x<n)):=by unfold iH;exact(List.prefix_iff_eq_take.1 (List.takeWhile_prefix _)).symm
 rw[e]at z;have:=a0y.1 (List.all_takeWhile (p:=fun x=>decide (x<n)) (l:=l)) x z;simpa using this
theorem pre_at{l:List Int}{n:Int}(h:iH l n<l.length): ¬l.getD (iH l n) 0<n:=by
 induction l with
 |nil=>simp at h
 |cons x l ih=>
  unfold iH at h⊢
  by_cases z:x<n
  ·rw[List.takeWhile_cons_of_pos (by simpa using z)]at h⊢;simp only[a08,a2f]at h⊢;exact ih (by unfold iH;omega)
  rw[List.takeWhile_cons_of_neg (by simpa using z)]
  simpa using z
theorem pre_ge{l:List Int}{n:Int}(z:Asc l): ∀x∈l.drop (iH l n),n<=x:=by
 intro x E;obtain⟨i,hi,rfl⟩:=a0B.1 E;rw[List.getElem_drop];rw[a0n]at hi;have A:=pre_at (l:=l) (n:=n) (by omega);rw[a01,a05 (show iH l n<l.length by omega)]at A;rcases a1G i with rfl|hp
 ·simp only[a2g];simpa using A
 have:=(a1Q.1 z) (iH l n) (iH l n+i) (by omega) (by omega) (by omega)
 simp only[a0C]at A;omega
theorem ins_asc{l:List Int}{n:Int}(h:Asc l):Asc (di l n):=by
 unfold di;split
 ·exact h
 rename_i hc;have V:=pre_ge (n:=n) h;have U:=pre_lt (l:=l) (n:=n);refine a2a.2 ⟨a2a.2 ⟨h.sublist (List.take_sublist _ _),List.pairwise_singleton _ _,fun a z b T=>?_⟩,h.sublist (List.drop_sublist _ _),fun a z b T=>?_⟩
 ·rw[a0d]at T;subst T;exact U a z
 have Z:n<b:=by
  have N:=V b T;rcases Int.lt_or_eq_of_le N with A|A
  ·exact A
  exfalso;obtain⟨i,hi,rfl⟩:=a0B.1 T;rw[a0n]at hi;rw[List.getElem_drop]at A;apply hc;refine⟨by omega,?_⟩;have E:=pre_at (l:=l) (n:=n) (by omega);rw[a01,a05 (show iH l n<l.length by omega)]at E⊢;simp only[a0C]at E⊢;rcases a1G i with rfl|hp
  ·simpa using A.symm
  have:=(a1Q.1 h) (iH l n) (iH l n+i) (by omega) (by omega) (by omega)
  omega
 rcases a07.1 z with z|z
 ·have:=U a z;omega
 rw[a0d]at z;subst z;exact Z
theorem jP{l:List Int}{n x:Int}:x∈di l n↔x=n\/x∈l:=by
 unfold di;split
 ·rename_i h;constructor
  ·exact .inr
  rintro(rfl|A)
  ·rw[←h.2,a01,a05 h.1];exact a1w h.1
  exact A
 rw[a07,a07,a0d];constructor
 ·rintro((h|h)|h)
  ·exact .inr (a1s h)
  ·exact .inl h
  exact .inr (a2b h)
 rintro(h|h)
 ·exact .inl (.inr h)
 rw[←a25 (iH l n) l]at h;rcases a07.1 h with h|h
 ·exact .inl (.inl h)
 exact .inr h
theorem uni_asc{l:List Int}: ∀{a:List Int},Asc a->Asc (cH a l):=by
 induction l with
 |nil=>exact fun h=>h
 |cons x l ih=>exact fun h=>ih (ins_asc h)
theorem uni_mem{l:List Int}{x:Int}: ∀{a:List Int},x∈cH a l↔x∈a\/x∈l:=by
 induction l with
 |nil=>intro a;simp[cH]
 |cons y l ih=>
  intro a
  have:cH a (y::l)=cH (di a y) l:=rfl
  rw[this,ih,jP,a0m]
  constructor
  ·rintro((h|h)|h)
   ·exact .inr (.inl h)
   ·exact .inl h
   exact .inr (.inr h)
  rintro(h|h|h)
  ·exact .inl (.inr h)
  ·exact .inl (.inl h)
  exact .inr h
theorem ev{l:List Int}: ∀{a:List Int},(cH a l).length<=a.length+l.length:=by
 induction l with
 |nil=>intro a;exact a0a _
 |cons y l ih=>
  intro a
  have A:=ih (a:=di a y)
  have E:=ins_len (l:=a) (n:=y)
  have:cH a (y::l)=cH (di a y) l:=rfl
  rw[this,a08];omega
theorem uni_snoc{a l:List Int}{x:Int}:cH a (l++[x])=di (cH a l) x:=by unfold cH;rw[List.foldl_append];rfl
theorem uni_app{a l m:List Int}:cH a (l++m)=cH (cH a l) m:=by unfold cH;rw[List.foldl_append]
theorem bt{α:Type}{d:α}{l:List α}{i:Nat}(h:i<l.length):l.take (i+1)=l.take i++[l.getD i d]:=by rw[List.take_add_one,a05 h,a01,a05 h];rfl
theorem i6{a l o:List Int}{i:Nat}(h:i<l.length)(z:o=cH a (l.take i)):di o (l.getD i 0)=cH a (l.take (i+1)):=by rw[bt h (d:=0),uni_snoc,z]
theorem uni_all{a l o:List Int}{i:Nat}(h:l.length<=i)(z:o=cH a (l.take i)):o=cH a l:=by rw[z,a0i h]
theorem pre_eqR{l:List Int}{n:Int}{k:Nat}(U:Asc l)(V:k<=l.length)(E: ∀j,k<=j->j<l.length->n<=l.getD j 0)(N:0<k->l.getD (k-1) 0<n):k=iH l n:=by
 refine pre_eq V (fun j Z=>?_) (fun z=>by have:=E k (a0a _) z;omega);have T:=N (by omega);rcases a0k j (k-1) with A|A
 ·have:=kU U A (by omega);omega
 have:j=k-1:=by omega
 subst this;exact T
theorem ge_step{l:List Int}{n:Int}{k:Nat}(h: ∀j,k<=j->j<l.length->n<=l.getD j 0)(E:n<=l.getD (k-1) 0): ∀j,k-1<=j->j<l.length->n<=l.getD j 0:=fun j U N=>by
 rcases a0k j k with A|A
 ·have T:j=k-1:=by omega
  subst T;exact E
 exact h j A N
theorem cp_ins{l:List Int}{n:Int}{k:Nat}(V:k=iH l n)(z:k<=l.length)(h: ¬(k<l.length/\l.getD k 0=n)):(cpL (l++[0]) (k+1) ((l++[0]).drop k)).set k n=di l n:=by
 have e:cpL (l++[0]) (k+1) ((l++[0]).drop k)=(l++[0]).take (k+1)++l.drop k:=by
  unfold cpL;have E:((l++[0]).drop k).length=l.length+1-k:=by simp
  have A:(l++[(0:Int)]).length=l.length+1:=by simp
  rw[E,A,show min (l.length+1-k) (l.length+1-(k+1))=l.length-k by omega,show k+1+(l.length-k)=l.length+1 by omega];rw[show List.drop (l.length+1) (l++[(0:Int)])=[] from a1E (by rw[A];exact a0a _),a0F];congr 1;rw[List.drop_append,a27,a0n,show l.length+1-(k+1)=l.length-k by omega,a1T,List.take_zero,a0F,a0i (by rw[a0n];omega)]
 rw[e,←ins_new V h,a0o,List.take_add_one];rw[List.set_append];have N:(List.take k (l++[0]))=l.take k:=by rw[a27,Nat.sub_eq_zero_of_le z,List.take_zero,a0F]
 have T:(l++[(0:Int)])[k]?.toList=[(l++[(0:Int)]).getD k 0]:=by rw[a01,a05 (show k<(l++[(0:Int)]).length by simp;omega)];rfl
 rw[N,T];have U:(List.take k l++[(l++[(0:Int)]).getD k 0]).length=k+1:=by simp;omega
 rw[if_pos (by rw[U];omega),List.set_append,if_neg (by rw[a0j];omega),a0j,show k-min k l.length=0 by omega];simp
def iG(v:VInT):List Int:=(if(aM v.i.op).ra then [v.i.a] else [])++((if(aM v.i.op).rb then [v.i.b] else [])++((if v.i.op=11\/v.i.op=12 then [v.i.c] else [])++(if v.i.op=6 then v.args else [])))
def aB(v:VInT):List Int:=if alV v.i.op then cH [] (iG v) else []
def ab(v:VInT):List Int:=if alV v.i.op=true/\((aM v.i.op).wa=true\/v.i.op=6\/v.i.op=38) then [v.i.a] else []
def bh(b:BlkT):List Int:=if b.fin=1 then [b.tgt] else if b.fin=2 then di [b.tgt] b.els else []
def dE(b:BlkT):List Int:=if b.fin=2\/b.fin=3 then [b.reg] else []
theorem reads_no{v:VInT}(h:alV v.i.op=false):[]=aB v:=by unfold aB;rw[h];rfl
theorem reads_yes{v:VInT}{l:List Int}(h:alV v.i.op=true)(z:l=iG v):cH [] l=aB v:=by unfold aB;rw[h,z];rfl
theorem rrT{l:List Int}{a:Int}{p:Prop} [Decidable p](h:p):di l a=cH l (if p then [a] else []):=by rw[if_pos h];rfl
theorem rrF{l:List Int}{a:Int}{p:Prop} [Decidable p](h: ¬p):l=cH l (if p then [a] else []):=by rw[if_neg h];rfl
theorem vra{op:Int}:(aK op).ra=(aM op).ra:=by unfold aK;split<;>first|rfl|(rename_i h;subst h;rfl)
theorem vrb{op:Int}:(aK op).rb=(aM op).rb:=by unfold aK;split<;>first|rfl|(rename_i h;subst h;rfl)
theorem vf4{op:Int}(h:alV op=true):(aK op).form=4↔op=11\/op=12:=by
 unfold alV at h;have h:=of_decide_eq_true h;by_cases A:op=38
 ·subst A;decide
 have e:aK op=aM op:=by unfold aK;rw[if_neg A]
 rw[e];obtain⟨k,z⟩:=ex37 (op:=op) ⟨by omega,by omega⟩;rw[z];clear z;revert k;decide+kernel
theorem rr_end{v:VInT}{E N T U:List Int}{k:Nat}(z:alV v.i.op=true)(V:E=cH [] (if(aM v.i.op).ra=true then [v.i.a] else []))(Z:N=cH E (if(aM v.i.op).rb=true then [v.i.b] else []))(q3:T=cH N (if v.i.op=11\/v.i.op=12 then [v.i.c] else []))
  (q4:U=cH T (v.args.take k)) (q6:k=0\/v.i.op=6) (h:v.i.op=6->v.args.length<=k):U=aB v:=by
 have e:v.args.take k=if v.i.op=6 then v.args else []:=by
  by_cases A:v.i.op=6
  ·rw[if_pos A,a0i (h A)]
  rw[if_neg A];have:k=0:=by omega
  subst this;rfl
 unfold aB iG
 rw[if_pos z,uni_app,uni_app,uni_app,←V,←Z,←q3,←e,←q4]
theorem ed{a:Int}{p:Prop} [Decidable p]:(if p then [a] else []).length<=1:=by split<;>simp
theorem rr_len{v:VInT}{A E N T:List Int}{k:Nat}(z:A=cH [] (if(aM v.i.op).ra=true then [v.i.a] else []))(q2:E=cH A (if(aM v.i.op).rb=true then [v.i.b] else []))(q3:N=cH E (if v.i.op=11\/v.i.op=12 then [v.i.c] else []))
  (q4:T=cH N (v.args.take k)):T.length<=3+v.args.length:=by
 have U:A.length<=1:=by rw[z];exact a0c ev (by simpa using ed)
 have V:E.length<=2:=by rw[q2];exact a0c ev (a1R U ed)
 have Z:N.length<=3:=by rw[q3];exact a0c ev (a1R V ed)
 rw[q4];exact a0c ev (a1R Z (by rw[a0j];omega))
theorem rr_len1{v:VInT}{A:List Int}(E:A=cH [] (if(aM v.i.op).ra=true then [v.i.a] else [])):A.length<=1:=by rw[E];exact a0c ev (by simpa using ed)
theorem rr_len2{v:VInT}{A E:List Int}(N:A.length<=1)(T:E=cH A (if(aM v.i.op).rb=true then [v.i.b] else [])):E.length<=2:=by rw[T];exact a0c ev (a1R N ed)
theorem writes_no{v:VInT}(h:alV v.i.op=false):[]=ab v:=by unfold ab;rw[if_neg (by simp[h])]
theorem kf{v:VInT}(h:alV v.i.op=true)(A:(aM v.i.op).wa=true\/v.i.op=6\/v.i.op=38):[v.i.a]=ab v:=by unfold ab;rw[if_pos ⟨h,A⟩]
theorem writes_not{v:VInT}(h: ¬((aM v.i.op).wa=true\/v.i.op=6\/v.i.op=38)):[]=ab v:=by unfold ab;rw[if_neg fun z=>h z.2]
theorem vwa{op:Int}:((aK op).wa=true)↔((aM op).wa=true\/op=38):=by
 unfold aK;split
 ·rename_i h;subst h;simp
 rename_i h;constructor
 ·exact .inl
 rintro(A|A)
 ·exact A
 exact absurd A h
theorem rwr_yes{v:VInT}(h:alV v.i.op=true/\((aK v.i.op).wa=true\/v.i.op=6)):[v.i.a]=ab v:=kf h.1 (by have:=vwa (op:=v.i.op);rcases h.2 with A|A;(rcases this.1 A with E|E);exact .inl E;exact .inr (.inr E);exact .inr (.inl A))
theorem rwr_no{v:VInT}(h:alV v.i.op=true->(aK v.i.op).wa=false/\v.i.op≠6):[]=ab v:=by
 unfold ab;rw[if_neg];rintro⟨N,A⟩;obtain⟨E,T⟩:=h N;have:=vwa (op:=v.i.op);rcases A with A|A|A
 ·rw[this.2 (.inl A)]at E;cases E
 ·exact T A
 rw[this.2 (.inr A)]at E;cases E
theorem succ1{b:BlkT}(h:b.fin=1):[b.tgt]=bh b:=by unfold bh;rw[if_pos h]
theorem succ2{b:BlkT}(h:b.fin=2):bh b=di [b.tgt] b.els:=by unfold bh;rw[if_neg (by omega),if_pos h]
theorem succ0{b:BlkT}(h:b.fin≠1/\b.fin≠2):[]=bh b:=by unfold bh;rw[if_neg h.1,if_neg h.2]
theorem jf{a b o:List Int}{i:Nat}(h:i<a.length)(z:o=dR (a.take i) b):(cG b (a.getD i 0)=false->o++[a.getD i 0]=dR (a.take (i+1)) b)/\(cG b (a.getD i 0)=true->o=dR (a.take (i+1)) b):=by
 unfold dR at z⊢;rw[bt h (d:=0),List.filter_append,←z];constructor
 ·intro hc;rw[a1f,hc];rfl
 intro hc;rw[a1f,hc];simp
theorem min_len{a b:List Int}:(dR a b).length<=a.length:=a13 _ _
theorem unique_c{ag:Option Addr}{ai:Nat}(l:List Int)(hs:HS (.of H []) F H [] R)(hl:SR F (sL ag l.length ai) l)(hT:TB 37 tabC F)(f8:l.length<=1048600):kKt ex 101 [(sL ag l.length ai)] H fun v H'=> ∃(ar:Option Addr) (kr:Nat) (r:List Int) (p:Fp) (F':Fz),Fz.le F F'/\HS (.of H []) F' H' [p] R/\v=sL ar r.length kr/\OS F' (sL ar r.length kr) r p/\r=cH [] l:=by
 refine au Tryd.func101 rfl rfl (zf 1 (wT 2 [] 2 2 [] [(2,(sL none 0 0))] rfl fun _=>wT 3 [] 1 0 [3] [(3,(sL none 0 0))] rfl fun _=>wT 2 [] 7 9 [] [(7,(sL ag l.length ai)),(8,(iI (l.length:Int))),(9,(iI 0))] rfl fun _=>?_));have a8:=HS.snoc hs;have a8:HS _ _ _ [[]] _:=a8;refine ah (fun(mm:Nat) f H'=> ∃(z:List Int) (i:Nat) (A:Option Addr) (E:Nat) (T:Fp) (F':Fz),Fz.le F F'/\HS (Base.of H []) F' H' [T] R/\OS F' (sL A z.length E) z T/\am f [(3,(sL A z.length E)),(7,(sL ag l.length ai)),(8,(iI (l.length:Int))),(9,(iI (i:Int)))]/\mm=l.length-i/\(i<=l.length)/\(z=cH [] (l.take i))) _ ⟨([]:List Int),0,none,0,[],_,fR,a8,(OS.nil:OS _ (sL none 0 0) ([]:List Int) []),⟨rfl,rfl,rfl,rfl,trivial⟩,rfl,(by omega),(by rfl)⟩ ?_;rintro fd f4 H4 ⟨z,i,A,E,T,F4,a2,V,N,b0,rfl,h1,h2⟩ b2;refine ak _ b0 (fun _=>?_);clear b0;replace hl:=hl.mono a2;have ds:Asc z:=h2▸uni_asc List.Pairwise.nil;have f9:z.length<=i:=by rw[h2];exact a0c ev (by simp;omega)
 refine aC 1 rfl (wT 2 [] 10 10 [] [(10,(.bool (decide ((i:Int)<(l.length:Int)))))] rfl fun _=>zd 4 5 (fun c7=>?_) fun c7=>?_)
 ·obtain⟨e1,b1⟩:=Sv.view (SR.sv hl V);have g9:=fI (b1 i);refine wR 2 [(1,.o (iI (l.getD i 0)))] 11 12 [5] [(5,(iI (l.getD i 0)))] (vA (Sv.ix (j:=(i:Int)) (SR.sv hl V)) (vA (ql 3 0 (vI (b1 i)) rfl rfl) trivial)) rfl fun _=>wT 3 [] 13 14 [6] [(6,(iI (z.length:Int)))] rfl fun _=>ah (fun(mm:Nat) f H'=> ∃(k:Nat),H'=H4/\am f [(3,(sL A z.length E)),(5,(iI (l.getD i 0))),(6,(iI (k:Int))),(7,(sL ag l.length ai)),(8,(iI (l.length:Int))),(9,(iI (i:Int)))]/\mm=k+1/\(k<=z.length)/\(∀j,k<=j->j<z.length->l.getD i 0<=z.getD j 0)) _ ⟨z.length,rfl,⟨rfl,rfl,rfl,rfl,rfl,rfl,trivial⟩,rfl,(by omega),(by intro j h5 h6;omega)⟩ ?_
  rintro ea e2 H4 ⟨k,rfl,a6,rfl,h3,h4⟩ ch;refine ak _ a6 (fun _=>?_);clear a6;refine zf 2 ?_;obtain⟨dt,a9⟩:=Sv.view (OS.sv N V (i:=0) rfl);have e3:=fI (a9 (k-1));refine wR 1 [(5,.e ((k-1:Nat):Int)),(7,.o (iI (z.getD (k-1) 0)))] 15 25 [] [(25,(.bool ((decide ((0:Int)<(k:Int)))&&(decide ((l.getD i 0)<=(z.getD (k-1) 0))))))] (vA (fun(g1:(decide ((0:Int)<(k:Int)))=true)=>(ve (n:=(k:Int)-1) (m:=((k-1:Nat):Int)) (by(try simp only[BS]at g1);omega) (by(try simp only[BS]at g1);omega))) (vA (fun(g1:(decide ((0:Int)<(k:Int)))=true)=>(Sv.ix (j:=((k-1:Nat):Int)) (OS.sv N V (i:=0) rfl) (by(try simp only[BS]at g1);omega) (by(try simp only[BS]at g1);omega))) (vA (fun(g1:(decide ((0:Int)<(k:Int)))=true)=>(ql 3 0 (vI (a9 (k-1)) (by(try simp only[BS]at g1);omega)) rfl rfl)) trivial))) rfl fun _=>zi 2 6 (fun a3=>?_) fun a3=>?_
  ·try simp only[BS]at a3
   refine wU 2 [(1,.e ((k-1:Nat):Int))] 26 27 [6] [(6,(iI ((k-1:Nat):Int)))] (ve (n:=(k:Int)-1) (m:=((k-1:Nat):Int)) (by omega) (by omega)) rfl fun _=>ch _ _ _ ?_ ⟨k-1,rfl,⟨rfl,rfl,rfl,rfl,rfl,rfl,trivial⟩,rfl,(by omega),(ge_step h4 (by omega))⟩
   omega
  try simp only[BS]at a3
  have hk:=pre_eqR ds h3 h4 (by omega);obtain⟨dv,bb⟩:=Sv.view (OS.sv N V (i:=0) rfl);have e4:=fI (bb k);refine wR 1 [(8,.o (iI (z.getD k 0)))] 28 39 [] [(39,(.bool ((decide ((k:Int)<(z.length:Int)))&&((z.getD k 0)==(l.getD i 0)))))] (vA (fun(g1:(decide ((k:Int)<(z.length:Int)))=true)=>(Sv.ix (j:=(k:Int)) (OS.sv N V (i:=0) rfl) (by(try simp only[BS]at g1);omega) (by(try simp only[BS]at g1);omega))) (vA (fun(g1:(decide ((k:Int)<(z.length:Int)))=true)=>(ql 3 0 (vI (bb k) (by(try simp only[BS]at g1);omega)) rfl rfl)) trivial)) rfl fun _=>zi 3 2 (fun a4=>?_) fun a4=>?_
  ·try simp only[BS]at a4
   refine wU 1 [] 9 9 [55] [(9,(iI ((i:Int)+1)))] (vi (n:=(i:Int)+1)) rfl fun _=>b2 _ _ _ ?_ ⟨z,i+1,A,E,T,_,(a2),V,N,⟨rfl,rfl,rfl,rfl,trivial⟩,rfl,(by omega),(by(rw[←i6 (by omega) h2];exact lF hk (by omega) (by omega)))⟩
   omega
  try simp only[BS]at a4
  refine aa (zm (sL A z.length E) (az (bj (α:=Int) (ps:=[(0,(iI 0))]) (cells:=[(iI 0)]) ([0]:List Int) V rfl rfl rfl (by kernel_rfl) ⟨[(iI 0)],[],rfl,⟨rfl,by omega⟩,rfl⟩ rfl) rfl rfl ?_));rintro _ em c9 ⟨ey,e5,rfl,b7,(a7:HS _ _ _ [T,c9] _),_⟩;refine az (br (α:=Int) (q:=0) N a7 rfl rfl rfl (OS.sv b7 a7 (i:=1) rfl) rfl rfl rfl rfl rfl rfl rfl (by(simp only[a04,a08,a0f];omega))) rfl rfl ?_;rintro _ c3 b3 ⟨Z,ad,rfl,ax,(a0:HS _ _ _ [b3,_] _),_⟩;refine za (sL Z (z++([0]:List Int)).length ad) (ze 2 ?_);have la:(z++([0]:List Int)).length=z.length+1:=by simp
  refine aI rfl (zfm (sL Z (z++([0]:List Int)).length ad) (zfm (iI (k:Int)) (wfv (v:=(iI ((k:Int)+1))) (kW rfl rfl (lb (n:=(k:Int)+1) (by omega))) (bG (id:= .r) (rs_cutX (α:=Int) (i:=k+1) ax a0.log0 (q:=0) rfl rfl rfl rfl (optN (by omega)) (by omega)) rfl rfl (by rintro _ _ _ ⟨_,_,_,hH,_⟩;simp only at hH;subst hH;exact did_r fun b hb=>absurd hb a0b) (kb rfl) ?_))));rintro _ _ _ ⟨ez,e6,rfl,al,d2,be⟩ ci bk;simp only at al;replace al:=al.symm;subst al;have aw:=HS.lg a0.log0 a0 bk;generalize ({{c3 with log:=[]} with log:=ci}:Heap)=b6 at aw⊢;refine zfm (sL Z (z++([0]:List Int)).length ad) (zfm (iI (k:Int)) (bG (id:= .r) (rs_cutX (α:=Int) (i:=k) ax aw.log0 (q:=0) rfl rfl rfl rfl (optN (by omega)) (by omega)) rfl rfl (by rintro _ _ _ ⟨_,_,_,hH,_⟩;simp only at hH;subst hH;exact did_r fun b hb=>absurd hb a0b) (kb rfl) ?_));rintro _ _ _ ⟨e0,e9,rfl,an,b9,dd⟩ co bl;simp only at an;replace an:=an.symm;subst an;have a1:=HS.lg aw.log0 aw bl;generalize ({{b6 with log:=[]} with log:=co}:Heap)=dl at a1⊢;refine bG (id:= .x (b3.map Prod.fst)) (rs_cp (α:=Int) (i:=k+1) ax a1.log0 (q:=0) rfl rfl be (by omega) b9 rfl rfl rfl) rfl rfl (by rintro _ _ b4 ⟨rfl,av,_,hwr⟩;exact bE rfl rfl (Wr.did hwr)) (kb rfl) ?_;rintro _ c4 b4 ⟨rfl,av,U,_⟩ c0 bz;replace U:=HS.lg U a1 bz;generalize ({c4 with log:=c0}:Heap)=dn at U⊢;have U:HS _ _ _ [b4,_] _:=U;have d1:=OS.len' av;refine bm (aC 1 rfl (aa (wUo 4 0 [] 51 54 [] [(53,(iI (l.getD i 0))),(54,(.pointer (some ⟨sB (sL Z (z++([0]:List Int)).length ad),sO (sL Z (z++([0]:List Int)).length ad)+k*Rp.sz Int,none⟩)))] (Sv.ix (j:=(k:Int)) (OS.sv av U (i:=0) rfl)) rfl fun _=>aN (cM (α:=Int) (j:=k) (off:=0) (q:=0) (l.getD i 0) av U rfl rfl rfl rfl rfl rfl rfl rfl (aH (x:=(0:Int)) (by omega)) rfl (by rintro cs ⟨rfl,_⟩;exact⟨a06 rfl,rfl,by omega⟩)) rfl ?_)));rintro _ et b5 ⟨ay,(cc:HS _ _ _ [b5,_] _),_⟩;have dk:=OS.len' ay;refine aD 2 rfl (wU 1 [] 9 9 [55] [(9,(iI ((i:Int)+1)))] (vi (n:=(i:Int)+1)) rfl fun _=>b2 _ _ _ ?_ ⟨(cpL (z++([0]:List Int)) (k+1) ((z++([0]:List Int)).drop k)).set k (l.getD i 0),i+1,Z,ad,b5,_,(a2),(HS.sub cc (a02 _ _)),(OS.norm ay),(agC (show Value.slice Z (z++([0]:List Int)).length ad=Value.slice Z ((cpL (z++([0]:List Int)) (k+1) ((z++([0]:List Int)).drop k)).set k (l.getD i 0)).length ad by rw[OS.len' ay]) ⟨rfl,rfl,rfl,trivial⟩),rfl,(by omega),(by(rw[cp_ins hk h3 (by omega)];exact i6 (by omega) h2))⟩);omega
 refine wT 1 [] 2 2 [56] [(2,(sL A z.length E))] rfl fun _=>aj ⟨.inr rfl,_,rfl,A,E,z,T,_,(a2),(HS.only V (i:=0) rfl),rfl,N,(uni_all (by omega) h2)⟩
theorem vreads_c{al:Option Addr}{an:Nat}(z:VInT)(hs:HS (.of H []) F H [] R)(hr:in64 z.i.op)(ht:in64 z.i.a)(hu:in64 z.i.b)(hv:in64 z.i.c)(hw:in64 z.i.n)(A:SR F (sL al z.args.length an) z.args)(hT:TB 37 tabC F)(i3:z.args.length<=1048576):kKt ex 57 [(aG [(iI z.i.op),(iI z.i.a),(iI z.i.b),(iI z.i.c),(iI z.i.n),(sL al z.args.length an)])] H fun v H'=> ∃(ar:Option Addr) (kr:Nat) (r:List Int) (p:Fp) (F':Fz),Fz.le F F'/\HS (.of H []) F' H' [p] R/\v=sL ar r.length kr/\OS F' (sL ar r.length kr) r p/\r=aB z:=by
 refine au Tryd.func57 rfl rfl (zf 1 (aa (az (aU hs rfl rfl) rfl rfl ?_)));rintro _ H2 _ ⟨b1,rfl,(a9:HS _ _ _ [(fP b1 [(iI z.i.op),(iI z.i.a),(iI z.i.b),(iI z.i.c),(iI z.i.n),(sL al z.args.length an)])] _),_⟩;refine za (sL none 0 0) (aD 3 rfl (wR 1 [(2,.o (iI z.i.op)),(3,.o (.bool (alV z.i.op)))] 6 10 [] [(10,(.bool (!(alV z.i.op))))] (vA (ql 3 0 (HS.hc a9 (i:=0) rfl) rfl rfl) (vA (m1.ld ex z.i.op H2) trivial)) rfl fun _=>zi 1 2 (fun c4=>?_) fun c4=>?_))
 ·try simp only[BS]at c4
  refine wT 1 [] 2 2 [] [(2,(sL none 0 0))] rfl fun _=>aj ⟨.inr rfl,_,rfl,none,0,([]:List Int),[],_,fR,(HS.cons (HS.forget a9)),rfl,(OS.nil:OS _ _ _ []),(reads_no (by assumption))⟩
 try simp only[BS]at c4
 refine aa (wUo 3 0 [(2,.o (iI z.i.op))] 12 14 [] [(14,(iI z.i.op))] (ql 3 0 (HS.hc a9 (i:=0) rfl) rfl rfl) rfl fun _=>zc (m1.mInfo_c ex z.i.op (HS.call a9) (by omega) hT) ?_);rintro _ H7 ⟨x7,o7,F7,c6,dt,rfl,he,hf,rfl,rfl⟩;replace dt:HS _ _ _ [_] _:=HS.back a9 rfl dt;replace hT:=hT.mono c6;replace A:=A.mono c6;refine wTo 3 4 [] 16 17 [11] [(16,(aG [(.string ⟨⟨(aM z.i.op).name.b⟩⟩),(iI (aM z.i.op).form),(.bool (aM z.i.op).ra),(.bool (aM z.i.op).wa),(.bool (aM z.i.op).rb),(.bool (aM z.i.op).mt),(iI (aM z.i.op).words)])),(17,(.bool (infO z.i.op)))] rfl fun _=>az (bg dt rfl) rfl rfl ?_
 rintro _ hG _ ⟨b9,rfl,(g2:HS _ _ _ [_,(fP b9 [(.string ⟨⟨[]⟩⟩),(iI 0),(.bool false),(.bool false),(.bool false),(.bool false),(iI 0)])] _),_⟩;refine aN (aE (q:=1) g2 rfl rfl rfl rfl rfl rfl rfl rfl rfl) rfl ?_;rintro _ hH _ ⟨(dk:HS _ _ _ [_,(fP b9 [(.string ⟨⟨(aM z.i.op).name.b⟩⟩),(iI (aM z.i.op).form),(.bool (aM z.i.op).ra),(.bool (aM z.i.op).wa),(.bool (aM z.i.op).rb),(.bool (aM z.i.op).mt),(iI (aM z.i.op).words)])] _),_⟩;refine za (.bool (infO z.i.op)) (ze 2 (wT 3 [] 1 0 [5] [(5,(sL none 0 0))] rfl fun _=>wU 1 [(1,.o (.bool (aM z.i.op).ra))] 18 19 [] [(19,(.bool (aM z.i.op).ra))] (ql 4 2 (HS.hc dk (i:=1) rfl) rfl rfl) rfl fun _=>?_));have ay:=HS.snoc dk;have ay:HS _ _ _ [_,_,[]] _:=ay;let b4:Fp:=(fP b1 [(iI z.i.op),(iI z.i.a),(iI z.i.b),(iI z.i.c),(iI z.i.n),(sL al z.args.length an)])
 let b5:Fp:=(fP b9 [(.string ⟨⟨(aM z.i.op).name.b⟩⟩),(iI (aM z.i.op).form),(.bool (aM z.i.op).ra),(.bool (aM z.i.op).wa),(.bool (aM z.i.op).rb),(.bool (aM z.i.op).mt),(iI (aM z.i.op).words)])
 refine bN (fun f H'=> ∃(l1:List Int) (E:Option Addr) (U:Nat) (ad:Fp) (F':Fz),Fz.le F7 F'/\HS (Base.of H []) F' H' [b4,b5,ad] R/\OS F' (sL E l1.length U) l1 ad/\am f [(1,(pT b1 0)),(3,(pT b9 0)),(5,(sL E l1.length U))]/\(l1=if(aM z.i.op).ra=true then [z.i.a] else [])) (fun dv=>?_) ?_
 ·refine zi 0 0 (fun ch=>?_) fun ch=>?_
  ·try simp only[BS]at ch
   refine aa (wUo 4 0 [(3,.o (iI z.i.a))] 20 23 [] [(20,(sL none 0 0)),(23,(iI z.i.a))] (ql 3 1 (HS.hc ay (i:=0) rfl) rfl rfl) rfl fun _=>az (bj (α:=Int) (ps:=[(0,(iI z.i.a))]) (cells:=[(iI z.i.a)]) ([z.i.a]:List Int) ay rfl rfl rfl (by kernel_rfl) ⟨[(iI z.i.a)],[],rfl,⟨rfl,by omega⟩,rfl⟩ rfl) rfl rfl ?_);rintro _ hK hg ⟨h2,h9,rfl,f4,(dl:HS _ _ _ [_,_,_,hg] _),_⟩;refine az (br (α:=Int) (q:=2) (OS.nil:OS _ (sL none 0 0) ([]:List Int) []) dl rfl rfl rfl (OS.sv f4 dl (i:=3) rfl) rfl rfl rfl rfl rfl rfl rfl (by(simp only[a04,a08,a0f];omega))) rfl rfl ?_;rintro _ hM ez ⟨b6,em,rfl,b2,(g3:HS _ _ _ [_,_,ez,_] _),_⟩;have b2:OS F7 (sL b6 ([z.i.a]:List Int).length em) ([z.i.a]:List Int) ez:=b2;refine za (sL b6 ([z.i.a]:List Int).length em) (ze 0 ?_);exact dv _ _ ⟨([z.i.a]:List Int),b6,em,ez,_,fR,(HS.sub g3 (a02 _ _)),b2,⟨rfl,rfl,rfl,trivial⟩,(by(rw[if_pos (by first|assumption|omega)];done))⟩
  try simp only[BS]at ch
  exact dv _ _ ⟨([]:List Int),none,0,[],_,fR,ay,(OS.nil:OS _ (sL none 0 0) ([]:List Int) []),⟨rfl,rfl,rfl,trivial⟩,(by(rw[if_neg (by first|omega|(intro hh;simp_all;done))];done))⟩
 skip;rintro h5 hI ⟨l1,E,U,ad,g8,bl,a7,bb,c7,q1⟩;refine ak _ c7 (fun _=>?_);clear c7;replace hT:=hT.mono bl;replace A:=A.mono bl;have n1:l1.length<=1:=by rw[q1];exact ed
 refine zf 3 (wU 1 [(1,.o (.bool (aM z.i.op).rb))] 26 27 [] [(27,(.bool (aM z.i.op).rb))] (ql 4 4 (HS.hc a7 (i:=1) rfl) rfl rfl) rfl fun _=>bN (fun f H'=> ∃(l2:List Int) (N:Option Addr) (V:Nat) (ag:Fp) (F':Fz),Fz.le g8 F'/\HS (Base.of H []) F' H' [b4,b5,ag] R/\OS F' (sL N l2.length V) l2 ag/\am f [(1,(pT b1 0)),(5,(sL N l2.length V))]/\(l2=l1++if(aM z.i.op).rb=true then [z.i.b] else [])) (fun d1=>?_) ?_)
 ·refine zi 0 0 (fun ci=>?_) fun ci=>?_
  ·try simp only[BS]at ci
   refine aa (wUo 4 0 [(3,.o (iI z.i.b))] 28 31 [] [(28,(sL E l1.length U)),(31,(iI z.i.b))] (ql 3 2 (HS.hc a7 (i:=0) rfl) rfl rfl) rfl fun _=>az (bj (α:=Int) (ps:=[(0,(iI z.i.b))]) (cells:=[(iI z.i.b)]) ([z.i.b]:List Int) a7 rfl rfl rfl (by kernel_rfl) ⟨[(iI z.i.b)],[],rfl,⟨rfl,by omega⟩,rfl⟩ rfl) rfl rfl ?_);rintro _ hR hj ⟨h3,ib,rfl,f5,(dn:HS _ _ _ [_,_,ad,hj] _),_⟩;refine az (br (α:=Int) (q:=2) bb dn rfl rfl rfl (OS.sv f5 dn (i:=3) rfl) rfl rfl rfl rfl rfl rfl rfl (by(simp only[a04,a08,a0f];omega))) rfl rfl ?_;rintro _ hS fd ⟨e2,e5,rfl,f6,(g4:HS _ _ _ [_,_,fd,_] _),_⟩;refine za (sL e2 (l1++([z.i.b]:List Int)).length e5) (ze 0 ?_);exact d1 _ _ ⟨l1++([z.i.b]:List Int),e2,e5,fd,_,fR,(HS.sub g4 (a02 _ _)),f6,⟨rfl,rfl,trivial⟩,(by(rw[if_pos (by first|assumption|omega)];done))⟩
  try simp only[BS]at ci
  exact d1 _ _ ⟨l1,E,U,ad,_,fR,a7,bb,⟨rfl,rfl,trivial⟩,(by(rw[if_neg (by first|omega|(intro hh;simp_all;done)),a0F]))⟩
 skip;rintro h6 hQ ⟨l2,N,V,ag,g9,bz,a0,be,c8,q2⟩;refine ak _ c8 (fun _=>?_);clear c8;replace hT:=hT.mono bz;replace A:=A.mono bz;have n2:l2.length<=2:=by rw[q2,a04];exact a1R n1 ed
 refine zf 3 (wR 1 [(2,.o (iI z.i.op)),(7,.o (iI z.i.op))] 34 43 [] [(43,(.bool ((z.i.op==11)||(z.i.op==12))))] (vA (ql 3 0 (HS.hc a0 (i:=0) rfl) rfl rfl) (vA (fun(g1:(z.i.op==11)=false)=>(ql 3 0 (HS.hc a0 (i:=0) rfl) rfl rfl)) trivial)) rfl fun _=>bN (fun f H'=> ∃(l3:List Int) (T:Option Addr) (Z:Nat) (ax:Fp) (F':Fz),Fz.le g9 F'/\HS (Base.of H []) F' H' [b4,b5,ax] R/\OS F' (sL T l3.length Z) l3 ax/\am f [(1,(pT b1 0)),(5,(sL T l3.length Z))]/\(l3=l2++if z.i.op=11\/z.i.op=12 then [z.i.c] else [])) (fun d2=>?_) ?_)
 ·refine zi 0 0 (fun co=>?_) fun co=>?_
  ·try simp only[BS]at co
   refine aa (wUo 4 0 [(3,.o (iI z.i.c))] 44 47 [] [(44,(sL N l2.length V)),(47,(iI z.i.c))] (ql 3 3 (HS.hc a0 (i:=0) rfl) rfl rfl) rfl fun _=>az (bj (α:=Int) (ps:=[(0,(iI z.i.c))]) (cells:=[(iI z.i.c)]) ([z.i.c]:List Int) a0 rfl rfl rfl (by kernel_rfl) ⟨[(iI z.i.c)],[],rfl,⟨rfl,by omega⟩,rfl⟩ rfl) rfl rfl ?_);rintro _ hW hk ⟨h4,ih,rfl,f7,(ds:HS _ _ _ [_,_,ag,hk] _),_⟩;refine az (br (α:=Int) (q:=2) be ds rfl rfl rfl (OS.sv f7 ds (i:=3) rfl) rfl rfl rfl rfl rfl rfl rfl (by(simp only[a04,a08,a0f];omega))) rfl rfl ?_;rintro _ hX fi ⟨e3,e6,rfl,f8,(g5:HS _ _ _ [_,_,fi,_] _),_⟩;refine za (sL e3 (l2++([z.i.c]:List Int)).length e6) (ze 0 ?_);exact d2 _ _ ⟨l2++([z.i.c]:List Int),e3,e6,fi,_,fR,(HS.sub g5 (a02 _ _)),f8,⟨rfl,rfl,trivial⟩,(by(rw[if_pos (by first|assumption|omega)];done))⟩
  try simp only[BS]at co
  exact d2 _ _ ⟨l2,N,V,ag,_,fR,a0,be,⟨rfl,rfl,trivial⟩,(by(rw[if_neg (by first|omega|(intro hh;simp_all;done)),a0F]))⟩
 skip;rintro h7 hV ⟨l3,T,Z,ax,ha,b0,a1,bk,c9,q3⟩;refine ak _ c9 (fun _=>?_);clear c9;replace hT:=hT.mono b0;replace A:=A.mono b0;have n3:l3.length<=3:=by rw[q3,a04];exact a1R n2 ed
 refine zf 3 (wU 1 [(2,.o (iI z.i.op))] 50 53 [] [(53,(.bool (z.i.op==6)))] (ql 3 0 (HS.hc a1 (i:=0) rfl) rfl rfl) rfl fun _=>bN (fun f H'=> ∃(l4:List Int) (av:Option Addr) (aw:Nat) (a5:Fp) (F':Fz),Fz.le ha F'/\HS (Base.of H []) F' H' [b4,b5,a5] R/\OS F' (sL av l4.length aw) l4 a5/\am f [(5,(sL av l4.length aw))]/\(l4=l3++if z.i.op=6 then z.args else [])) (fun ea=>?_) ?_)
 ·refine zi 0 0 (fun c0=>?_) fun c0=>?_
  ·try simp only[BS]at c0
   refine aa (wUo 3 0 [(2,.o (sL al z.args.length an))] 54 56 [] [(54,(sL T l3.length Z)),(56,(sL al z.args.length an))] (ql 25 5 (HS.hc a1 (i:=0) rfl) rfl rfl) rfl fun _=>az (br (α:=Int) (q:=2) bk a1 rfl rfl rfl (SR.sv A a1) rfl rfl rfl rfl rfl rfl rfl (by omega)) rfl rfl ?_);rintro _ h0 f0 ⟨e4,e9,rfl,f9,(g7:HS _ _ _ [_,_,f0] _),_⟩;refine za (sL e4 (l3++z.args).length e9) (ze 0 ?_);exact ea _ _ ⟨l3++z.args,e4,e9,f0,_,fR,g7,f9,⟨rfl,trivial⟩,(by(rw[if_pos (by first|assumption|omega)];done))⟩
  try simp only[BS]at c0
  exact ea _ _ ⟨l3,T,Z,ax,_,fR,a1,bk,⟨rfl,trivial⟩,(by(rw[if_neg (by first|omega|(intro hh;simp_all;done)),a0F]))⟩
 skip;rintro h8 hY ⟨l4,av,aw,a5,hD,c3,g6,ey,dd,q4⟩;refine ak _ dd (fun _=>?_);clear dd;have n4:l4.length<=1048579:=by rw[q4,a04];(have hq:(if z.i.op=6 then z.args else []).length<=z.args.length:=by split<;>first|exact a0a _|exact a0D _);omega
 refine aC 2 rfl (aa (zm (sL av l4.length aw) ?_));obtain⟨hE,c5,a8,go,hA⟩:=OS.frz ey g6 (i:=2) rfl;have a8:HS _ _ _ [_,_,_] _:=a8;replace hT:=(hT.mono c3).mono c5;refine zc (unique_c ex l4 (HS.call a8) go hT (by omega)) ?_;rintro _ h1 ⟨b7,et,ik,f1,hF,f3,b3,rfl,e1,rfl⟩;replace b3:HS _ _ _ [_,_,_,f1] _:=HS.back a8 rfl b3;refine za (sL b7 (cH [] l4).length et) (ze 1 (aj ⟨.inr rfl,_,rfl,b7,et,cH [] l4,f1,_,(fT (fT (fT (fT (fT (fT (c6) bl) bz) b0) c3) c5) f3),(HS.only b3 (i:=3) rfl),rfl,e1,(reads_yes (by assumption) (by simp only[q4,q3,q2,q1,iG,a0o]))⟩))
theorem lw{ag:Option Addr}{al:Nat}(z:VInT)(hs:HS (.of H []) F H [] R)(f8:in64 z.i.op)(f9:in64 z.i.a)(go:in64 z.i.b)(g2:in64 z.i.c)(g3:in64 z.i.n)(A:SR F (sL ag z.args.length al) z.args)(hT:TB 37 tabC F)(hx:z.args.length<=1048576):kKt ex 58 [(aG [(iI z.i.op),(iI z.i.a),(iI z.i.b),(iI z.i.c),(iI z.i.n),(sL ag z.args.length al)])] H fun v H'=> ∃(ar:Option Addr) (kr:Nat) (r:List Int) (F':Fz),Fz.le F F'/\HS (.of H []) F' H' [] R/\v=sL ar r.length kr/\SR F' (sL ar r.length kr) r/\r=aB z:=by
 refine au Tryd.func58 rfl rfl (zf 1 (aa (az (aU hs rfl rfl) rfl rfl ?_)));rintro _ H2 _ ⟨b1,rfl,(a4:HS _ _ _ [(fP b1 [(iI z.i.op),(iI z.i.a),(iI z.i.b),(iI z.i.c),(iI z.i.n),(sL ag z.args.length al)])] _),_⟩;refine za (sL none 0 0) (aD 2 rfl (wT 3 [] 1 0 [3] [(3,(sL none 0 0))] rfl fun _=>wR 1 [(2,.o (iI z.i.op)),(3,.o (.bool (alV z.i.op)))] 6 10 [] [(10,(.bool (!(alV z.i.op))))] (vA (ql 3 0 (HS.hc a4 (i:=0) rfl) rfl rfl) (vA (m1.ralw_c_q ex z.i.op H2) trivial)) rfl fun _=>zi 1 2 (fun c5=>?_) fun c5=>?_))
 ·try simp only[BS]at c5
  refine wT 1 [] 2 2 [11] [(2,(sL none 0 0))] rfl fun _=>aj ⟨.inr rfl,_,rfl,none,0,([]:List Int),_,fR,(HS.forget a4),rfl,(SR.nil:SR F (sL none 0 0) ([]:List Int)),(reads_no (by assumption))⟩
 try simp only[BS]at c5
 have e1:alV z.i.op=true:=by assumption
 refine aa (wUo 3 0 [(2,.o (iI z.i.op))] 12 14 [] [(14,(iI z.i.op))] (ql 3 0 (HS.hc a4 (i:=0) rfl) rfl rfl) rfl fun _=>zc (m3.rinfo_c ex z.i.op (HS.call a4) (by omega) hT) ?_);rintro _ H8 ⟨x8,F8,c4,dd,rfl,f5,f6,rfl⟩;replace dd:HS _ _ _ [_] _:=HS.back a4 rfl dd;replace hT:=hT.mono c4;replace A:=A.mono c4;refine az (bg dd rfl) rfl rfl ?_;rintro _ hg _ ⟨b9,rfl,(e6:HS _ _ _ [_,(fP b9 [(.string ⟨⟨[]⟩⟩),(iI 0),(.bool false),(.bool false),(.bool false),(.bool false),(iI 0)])] _),_⟩;refine aN (aE (q:=1) e6 rfl rfl rfl rfl rfl rfl rfl rfl rfl) rfl ?_;rintro _ hj _ ⟨(aw:HS _ _ _ [_,(fP b9 [(.string ⟨⟨(aK z.i.op).name.b⟩⟩),(iI (aK z.i.op).form),(.bool (aK z.i.op).ra),(.bool (aK z.i.op).wa),(.bool (aK z.i.op).rb),(.bool (aK z.i.op).mt),(iI (aK z.i.op).words)])] _),_⟩;let b2:Fp:=(fP b1 [(iI z.i.op),(iI z.i.a),(iI z.i.b),(iI z.i.c),(iI z.i.n),(sL ag z.args.length al)])
 let b3:Fp:=(fP b9 [(.string ⟨⟨(aK z.i.op).name.b⟩⟩),(iI (aK z.i.op).form),(.bool (aK z.i.op).ra),(.bool (aK z.i.op).wa),(.bool (aK z.i.op).rb),(.bool (aK z.i.op).mt),(iI (aK z.i.op).words)])
 refine ze 3 (wU 1 [(1,.o (.bool (aK z.i.op).ra))] 16 17 [] [(17,(.bool (aK z.i.op).ra))] (ql 4 2 (HS.hc aw (i:=1) rfl) rfl rfl) rfl fun _=>bN (fun f H'=> ∃(l1:List Int) (U:Option Addr) (Z:Nat) (F':Fz),Fz.le F8 F'/\HS (Base.of H []) F' H' [b2,b3] R/\SR F' (sL U l1.length Z) l1/\am f [(1,(pT b1 0)),(3,(sL U l1.length Z)),(4,(pT b9 0))]/\(l1=cH [] (if(aM z.i.op).ra=true then [z.i.a] else []))) (fun dl=>?_) ?_)
 ·refine zi 0 0 (fun ci=>?_) fun ci=>?_
  ·try simp only[BS]at ci
   refine aa (wUo 4 0 [(3,.o (iI z.i.a))] 18 21 [] [(18,(sL none 0 0)),(21,(iI z.i.a))] (ql 3 1 (HS.hc aw (i:=0) rfl) rfl rfl) rfl fun _=>zc (m6.dg ex ([]:List Int) z.i.a (HS.call aw) (SR.nil:SR F8 (sL none 0 0) ([]:List Int)) (by omega) hT (by(simp<;>omega))) ?_);rintro _ hl ⟨b5,dt,hB,g9,e2,be,rfl,em,rfl⟩;replace be:HS _ _ _ [_,_] _:=HS.back aw rfl be;refine za (sL b5 (di ([]:List Int) z.i.a).length dt) (ze 0 ?_);exact dl _ _ ⟨di ([]:List Int) z.i.a,b5,dt,_,(e2),be,em,⟨rfl,rfl,rfl,trivial⟩,(rrT (by rw[←vra];assumption))⟩
  try simp only[BS]at ci
  exact dl _ _ ⟨([]:List Int),none,0,_,fR,aw,(SR.nil:SR F8 (sL none 0 0) ([]:List Int)),⟨rfl,rfl,rfl,trivial⟩,(rrF (by rw[←vra];simp_all))⟩
 skip;rintro hu hk ⟨l1,U,Z,f2,a8,ax,a5,c6,q1⟩;refine ak _ c6 (fun _=>?_);clear c6;replace hT:=hT.mono a8;replace A:=A.mono a8;have n1:=rr_len1 q1;refine zf 3 (wU 1 [(1,.o (.bool (aK z.i.op).rb))] 23 24 [] [(24,(.bool (aK z.i.op).rb))] (ql 4 4 (HS.hc ax (i:=1) rfl) rfl rfl) rfl fun _=>bN (fun f H'=> ∃(l2:List Int) (V:Option Addr) (ad:Nat) (F':Fz),Fz.le f2 F'/\HS (Base.of H []) F' H' [b2,b3] R/\SR F' (sL V l2.length ad) l2/\am f [(1,(pT b1 0)),(3,(sL V l2.length ad)),(4,(pT b9 0))]/\(l2=cH l1 (if(aM z.i.op).rb=true then [z.i.b] else []))) (fun dn=>?_) ?_)
 ·refine zi 0 0 (fun co=>?_) fun co=>?_
  ·try simp only[BS]at co
   refine aa (wUo 4 0 [(3,.o (iI z.i.b))] 25 28 [] [(25,(sL U l1.length Z)),(28,(iI z.i.b))] (ql 3 2 (HS.hc ax (i:=0) rfl) rfl rfl) rfl fun _=>zc (m6.dg ex l1 z.i.b (HS.call ax) a5 (by omega) hT (by omega)) ?_);rintro _ hn ⟨b6,dv,hC,ha,e3,bk,rfl,et,rfl⟩;replace bk:HS _ _ _ [_,_] _:=HS.back ax rfl bk;refine za (sL b6 (di l1 z.i.b).length dv) (ze 0 ?_);exact dn _ _ ⟨di l1 z.i.b,b6,dv,_,(e3),bk,et,⟨rfl,rfl,rfl,trivial⟩,(rrT (by rw[←vrb];assumption))⟩
  try simp only[BS]at co
  exact dn _ _ ⟨l1,U,Z,_,fR,ax,a5,⟨rfl,rfl,rfl,trivial⟩,(rrF (by rw[←vrb];simp_all))⟩
 skip;rintro hv hm ⟨l2,V,ad,f3,a9,ay,a6,c7,q2⟩;refine ak _ c7 (fun _=>?_);clear c7;replace hT:=hT.mono a9;replace A:=A.mono a9;have n2:=rr_len2 n1 q2;refine zf 3 (wU 1 [(1,.o (iI (aK z.i.op).form))] 30 32 [] [(32,(.bool ((aK z.i.op).form==4)))] (ql 3 1 (HS.hc ay (i:=1) rfl) rfl rfl) rfl fun _=>bN (fun f H'=> ∃(l3:List Int) (an:Option Addr) (av:Nat) (F':Fz),Fz.le f3 F'/\HS (Base.of H []) F' H' [b2,b3] R/\SR F' (sL an l3.length av) l3/\am f [(1,(pT b1 0)),(3,(sL an l3.length av))]/\(l3=cH l2 (if z.i.op=11\/z.i.op=12 then [z.i.c] else []))) (fun ds=>?_) ?_)
 ·refine zi 0 0 (fun c0=>?_) fun c0=>?_
  ·try simp only[BS]at c0
   refine aa (wUo 4 0 [(3,.o (iI z.i.c))] 33 36 [] [(33,(sL V l2.length ad)),(36,(iI z.i.c))] (ql 3 3 (HS.hc ay (i:=0) rfl) rfl rfl) rfl fun _=>zc (m6.dg ex l2 z.i.c (HS.call ay) a6 (by omega) hT (by omega)) ?_);rintro _ hq ⟨b7,d1,hD,hb,e4,bl,rfl,ey,rfl⟩;replace bl:HS _ _ _ [_,_] _:=HS.back ay rfl bl;refine za (sL b7 (di l2 z.i.c).length d1) (ze 0 ?_);exact ds _ _ ⟨di l2 z.i.c,b7,d1,_,(e4),bl,ey,⟨rfl,rfl,trivial⟩,(rrT ((vf4 e1).1 (by assumption)))⟩
  try simp only[BS]at c0
  exact ds _ _ ⟨l2,V,ad,_,fR,ay,a6,⟨rfl,rfl,trivial⟩,(rrF (fun hh=>absurd ((vf4 e1).2 hh) (by omega)))⟩
 skip;rintro hw hp ⟨l3,an,av,f4,bb,e9,ea,c8,q3⟩;refine ak _ c8 (fun _=>?_);clear c8;refine zf 3 (wT 2 [] 1 0 [5] [(5,(iI 0))] rfl fun _=>ah (fun(mm:Nat) f H'=> ∃(l4:List Int) (k:Nat) (E:Option Addr) (N:Nat) (F':Fz),Fz.le f4 F'/\HS (Base.of H []) F' H' [b2,b3] R/\SR F' (sL E l4.length N) l4/\am f [(1,(pT b1 0)),(3,(sL E l4.length N)),(5,(iI (k:Int)))]/\mm=z.args.length-k/\(l4=cH l3 (z.args.take k))/\(k<=z.args.length)/\(k=0\/z.i.op=6)) _ ⟨l3,0,an,av,_,fR,e9,ea,⟨rfl,rfl,rfl,trivial⟩,rfl,(by rfl),(by omega),(by omega)⟩ ?_);rintro g6 hz hr ⟨l4,k,E,N,he,a3,T,a7,c9,rfl,q4,q5,q6⟩ fd;refine ak _ c9 (fun _=>?_);clear c9;replace hT:=(hT.mono bb).mono a3;replace A:=(A.mono bb).mono a3;have n4:=rr_len q1 q2 q3 q4;refine aC 2 rfl (wR 1 [(2,.o (sL ag z.args.length al)),(8,.o (iI z.i.op))] 38 48 [] [(48,(.bool ((decide ((k:Int)<(z.args.length:Int)))&&(z.i.op==6))))] (vA (ql 25 5 (HS.hc T (i:=0) rfl) rfl rfl) (vA (fun(g1:(decide ((k:Int)<(z.args.length:Int)))=true)=>(ql 3 0 (HS.hc T (i:=0) rfl) rfl rfl)) trivial)) rfl fun _=>zi 3 5 (fun c3=>?_) fun c3=>?_)
 ·try simp only[BS]at c3
  refine aa ?_;obtain⟨g5,dk⟩:=Sv.view (SR.sv A T);have hA:=fI (dk k);refine wRo 6 0 [(2,.o (sL ag z.args.length al)),(5,.o (iI (z.args.getD k 0)))] 51 56 [] [(51,(sL E l4.length N)),(56,(iI (z.args.getD k 0)))] (vA (ql 25 5 (HS.hc T (i:=0) rfl) rfl rfl) (vA (Sv.ix (j:=(k:Int)) (SR.sv A T)) (vA (ql 3 0 (vI (dk k)) rfl rfl) trivial))) rfl fun _=>zc (m6.dg ex l4 (z.args.getD k 0) (HS.call T) a7 (by omega) hT (by omega)) ?_
  rintro _ ht ⟨cc,d2,hE,hf,e5,bz,rfl,ez,rfl⟩;replace bz:HS _ _ _ [_,_] _:=HS.back T rfl bz;refine za (sL cc (di l4 (z.args.getD k 0)).length d2) (aD 2 rfl (wU 1 [] 49 50 [5] [(5,(iI ((k:Int)+1)))] (vi (n:=(k:Int)+1)) rfl fun _=>fd _ _ _ ?_ ⟨di l4 (z.args.getD k 0),k+1,cc,d2,_,(fT (a3) e5),bz,ez,⟨rfl,rfl,rfl,trivial⟩,rfl,(i6 (by omega) q4),(by omega),(by omega)⟩));omega
 try simp only[BS]at c3
 refine wT 1 [] 2 2 [58] [(2,(sL E l4.length N))] rfl fun _=>aj ⟨.inr rfl,_,rfl,E,N,l4,_,(fT (fT (fT (fT (c4) a8) a9) bb) a3),(HS.forget T),rfl,a7,(rr_end (by assumption) q1 q2 q3 q4 q6 (by omega))⟩
theorem js{E:Option Addr}{N:Nat}(z:VInT)(hs:HS (.of H []) F H [] R)(a2:in64 z.i.op)(a3:in64 z.i.a)(a4:in64 z.i.b)(a5:in64 z.i.c)(a6:in64 z.i.n)(a7:SR F (sL E z.args.length N) z.args)(hT:TB 37 tabC F):kKt ex 52 [(aG [(iI z.i.op),(iI z.i.a),(iI z.i.b),(iI z.i.c),(iI z.i.n),(sL E z.args.length N)])] H fun v H'=> ∃(ar:Option Addr) (kr:Nat) (r:List Int) (p:Fp) (F':Fz),Fz.le F F'/\HS (.of H []) F' H' [p] R/\v=sL ar r.length kr/\OS F' (sL ar r.length kr) r p/\r=ab z:=by
 refine au Tryd.func52 rfl rfl (zf 1 (aa (az (aU hs rfl rfl) rfl rfl ?_)));rintro _ H2 _ ⟨b1,rfl,(T:HS _ _ _ [(fP b1 [(iI z.i.op),(iI z.i.a),(iI z.i.b),(iI z.i.c),(iI z.i.n),(sL E z.args.length N)])] _),_⟩;refine za (sL none 0 0) (aD 3 rfl (wR 1 [(2,.o (iI z.i.op)),(3,.o (.bool (alV z.i.op)))] 5 9 [] [(9,(.bool (!(alV z.i.op))))] (vA (ql 3 0 (HS.hc T (i:=0) rfl) rfl rfl) (vA (m1.ld ex z.i.op H2) trivial)) rfl fun _=>zi 1 2 (fun c4=>?_) fun c4=>?_))
 ·try simp only[BS]at c4
  refine wT 1 [] 2 2 [] [(2,(sL none 0 0))] rfl fun _=>aj ⟨.inr rfl,_,rfl,none,0,([]:List Int),[],_,fR,(HS.cons (HS.forget T)),rfl,(OS.nil:OS _ _ _ []),(writes_no (by assumption))⟩
 try simp only[BS]at c4
 refine aa (wUo 3 0 [(2,.o (iI z.i.op))] 11 13 [] [(13,(iI z.i.op))] (ql 3 0 (HS.hc T (i:=0) rfl) rfl rfl) rfl fun _=>zc (m1.mInfo_c ex z.i.op (HS.call T) (by omega) hT) ?_);rintro _ H7 ⟨x7,o7,F7,ad,V,rfl,a0,a1,rfl,rfl⟩;replace V:HS _ _ _ [_] _:=HS.back T rfl V;refine wTo 3 4 [] 15 16 [10] [(15,(aG [(.string ⟨⟨(aM z.i.op).name.b⟩⟩),(iI (aM z.i.op).form),(.bool (aM z.i.op).ra),(.bool (aM z.i.op).wa),(.bool (aM z.i.op).rb),(.bool (aM z.i.op).mt),(iI (aM z.i.op).words)])),(16,(.bool (infO z.i.op)))] rfl fun _=>az (bg V rfl) rfl rfl ?_
 rintro _ be _ ⟨b9,rfl,(aw:HS _ _ _ [_,(fP b9 [(.string ⟨⟨[]⟩⟩),(iI 0),(.bool false),(.bool false),(.bool false),(.bool false),(iI 0)])] _),_⟩;refine aN (aE (q:=1) aw rfl rfl rfl rfl rfl rfl rfl rfl rfl) rfl ?_;rintro _ bk _ ⟨(A:HS _ _ _ [_,(fP b9 [(.string ⟨⟨(aM z.i.op).name.b⟩⟩),(iI (aM z.i.op).form),(.bool (aM z.i.op).ra),(.bool (aM z.i.op).wa),(.bool (aM z.i.op).rb),(.bool (aM z.i.op).mt),(iI (aM z.i.op).words)])] _),_⟩;refine za (.bool (infO z.i.op)) (aD 3 rfl (wR 1 [(1,.o (.bool (aM z.i.op).wa)),(5,.o (iI z.i.op)),(11,.o (iI z.i.op))] 17 30 [] [(30,(.bool (((aM z.i.op).wa||(z.i.op==6))||(z.i.op==38))))] (vA (ql 4 3 (HS.hc A (i:=1) rfl) rfl rfl) (vA (fun(g1:(aM z.i.op).wa=false)=>(ql 3 0 (HS.hc A (i:=0) rfl) rfl rfl)) (vA (fun(g1:((aM z.i.op).wa||(z.i.op==6))=false)=>(ql 3 0 (HS.hc A (i:=0) rfl) rfl rfl)) trivial))) rfl fun _=>zi 1 2 (fun U=>?_) fun U=>?_))
 ·try simp only[BS]at U
  refine aa (wUo 3 0 [(2,.o (iI z.i.a))] 31 33 [] [(33,(iI z.i.a))] (ql 3 1 (HS.hc A (i:=0) rfl) rfl rfl) rfl fun _=>az (bj (α:=Int) (ps:=[(0,(iI z.i.a))]) (cells:=[(iI z.i.a)]) ([z.i.a]:List Int) A rfl rfl rfl (by kernel_rfl) ⟨[(iI z.i.a)],[],rfl,⟨rfl,by omega⟩,rfl⟩ rfl) rfl rfl ?_);rintro _ bl al ⟨Z,ag,rfl,av,(ax:HS _ _ _ [_,_,al] _),_⟩;refine za (sL Z ([z.i.a]:List Int).length ag) (ze 1 (aj ⟨.inr rfl,_,rfl,Z,ag,([z.i.a]:List Int),al,_,(ad),(HS.only ax (i:=2) rfl),rfl,av,(kf (by assumption) (or_assoc.1 (by assumption)))⟩))
 try simp only[BS]at U
 refine wT 1 [] 2 2 [] [(2,(sL none 0 0))] rfl fun _=>aj ⟨.inr rfl,_,rfl,none,0,([]:List Int),[],_,(ad),(HS.cons (HS.forget A)),rfl,(OS.nil:OS _ _ _ []),(writes_not (by simp_all))⟩
theorem jB{N:Option Addr}{T:Nat}(z:VInT)(hs:HS (.of H []) F H [] R)(a5:in64 z.i.op)(a6:in64 z.i.a)(a7:in64 z.i.b)(a8:in64 z.i.c)(a9:in64 z.i.n)(bb:SR F (sL N z.args.length T) z.args)(hT:TB 37 tabC F):kKt ex 54 [(aG [(iI z.i.op),(iI z.i.a),(iI z.i.b),(iI z.i.c),(iI z.i.n),(sL N z.args.length T)])] H fun v H'=> ∃(ar:Option Addr) (kr:Nat) (r:List Int) (p:Fp) (F':Fz),Fz.le F F'/\HS (.of H []) F' H' [p] R/\v=sL ar r.length kr/\OS F' (sL ar r.length kr) r p/\r=ab z:=by
 refine au Tryd.func54 rfl rfl (zf 1 (aa (az (aU hs rfl rfl) rfl rfl ?_)));rintro _ H2 _ ⟨U,rfl,(Z:HS _ _ _ [(fP U [(iI z.i.op),(iI z.i.a),(iI z.i.b),(iI z.i.c),(iI z.i.n),(sL N z.args.length T)])] _),_⟩;refine za (sL none 0 0) (ze 3 (wk_rcut 3 19 [] [(19,(.bool (alV z.i.op&&((aK z.i.op).wa||(z.i.op==6)))))] (fun H'=> ∃F',Fz.le F F'/\HS (Base.of H []) F' H' [(fP U [(iI z.i.op),(iI z.i.a),(iI z.i.b),(iI z.i.c),(iI z.i.n),(sL N z.args.length T)])] R) ?_ ?_))
 ·refine aa (bB (v:=(pT U 0)) (fJ rfl rfl) rfl rfl (bB (v:=(pT U 0)) (fJ rfl rfl) rfl rfl (bB (v:=(iI z.i.op)) (dX (i:=0) rfl rfl (HS.hc Z (i:=0) rfl) rfl rfl) rfl rfl (zc (m1.ralw_c ex z.i.op _) ?_))));rintro _ H2 ⟨r6,rfl,rfl,rfl⟩;refine zm (.bool (alV z.i.op)) (wo_gsT (v:=(alV z.i.op)) rfl rfl (fun A=>?_) (fun A=>?_))
  ·have al:=A;try simp only[BS]at al
   refine bB (v:=(pT U 0)) (fJ rfl rfl) rfl rfl (el rfl A (bB (v:=(pT U 0)) (fJ rfl rfl) rfl rfl (el rfl A (bB (v:=(iI z.i.op)) (dX (i:=0) rfl rfl (HS.hc Z (i:=0) rfl) rfl rfl) rfl rfl (el rfl A (zc (m3.rinfo_c ex z.i.op (HS.call Z) (by omega) hT) ?_))))));rintro _ H8 ⟨x8,F8,ax,ad,rfl,a3,a4,rfl⟩;replace ad:HS _ _ _ [_] _:=HS.back Z rfl ad;refine el rfl A (bB (v:=(.bool (aK z.i.op).wa)) (ap_fv rfl rfl) rfl rfl (el rfl A (zm (.bool (aK z.i.op).wa) (wo_gsF (v:=(aK z.i.op).wa) rfl rfl (fun E=>?_) (fun E=>?_)))))
   ·have an:=E;try simp only[BS]at an
    refine bB (v:=(pT U 0)) (fJ rfl rfl) rfl rfl (el rfl E (bB (v:=(pT U 0)) (fJ rfl rfl) rfl rfl (el rfl E (bB (v:=(iI z.i.op)) (dX (i:=0) rfl rfl (HS.hc ad (i:=0) rfl) rfl rfl) rfl rfl (el rfl E (bB (v:=(.bool (z.i.op==6))) (ap_cmp rfl rfl rfl rfl) rfl rfl (el rfl A (bB (v:=(.bool (z.i.op==6))) (fY rfl E rfl) rfl rfl (bB (v:=(.bool (z.i.op==6))) (d6 rfl A rfl) rfl rfl (gF ?_))))))))));exact bc ⟨rfl,⟨_,(fT fR ax),HS.sub ad (List.Sublist.refl _)⟩,(Lu rfl (Lu rfl (Lu rfl (Lu rfl (Lu rfl (Lu rfl (Lu rfl (Lu rfl (Lu rfl (Lu rfl (Lu rfl (Lu rfl (Lu rfl (Lu rfl (Lu rfl (Lu rfl (Lu rfl Lr))))))))))))))))),(agC (congrArg Value.bool (show(z.i.op==6)=(alV z.i.op&&((aK z.i.op).wa||(z.i.op==6))) by simp only[↓A,↓E,BT])) agN)⟩
   have an:=E;try simp only[BS]at an
   refine wo_gf0 rfl E rfl (wo_gf0 rfl E rfl (wo_gf0 rfl E rfl (el rfl A (bB (v:=(.bool true)) (d6 rfl E rfl) rfl rfl (bB (v:=(.bool true)) (d6 rfl A rfl) rfl rfl (gF ?_))))));exact bc ⟨rfl,⟨_,(fT fR ax),HS.sub ad (List.Sublist.refl _)⟩,(Lu rfl (Lu rfl (Lu rfl (Lu rfl (Lu rfl (Lu rfl (Lu rfl (Lu rfl (Lu rfl (Lu rfl (Lu rfl (Lu rfl (Lu rfl (Lu rfl (Lu rfl (Lu rfl (Lu rfl Lr))))))))))))))))),(agC (congrArg Value.bool (show true=(alV z.i.op&&((aK z.i.op).wa||(z.i.op==6))) by simp only[↓A,↓E,BT])) agN)⟩
  have al:=A;try simp only[BS]at al
  refine jo rfl A rfl (jo rfl A rfl (jo rfl A rfl (jo rfl A rfl (jo rfl A rfl (wo_gn rfl rfl (wo_gn rfl rfl (wo_gn rfl rfl (wo_gn rfl rfl (jo rfl A rfl (bB (v:=(.bool false)) (fY rfl A rfl) rfl rfl (gF ?_)))))))))));exact bc ⟨rfl,⟨_,fR,HS.sub Z (List.Sublist.refl _)⟩,(Lu rfl (Lu rfl (Lu rfl (Lu rfl (Lu rfl (Lu rfl (Lu rfl (Lu rfl (Lu rfl (Lu rfl (Lu rfl (Lu rfl (Lu rfl (Lu rfl (Lu rfl (Lu rfl (Lu rfl Lr))))))))))))))))),(agC (congrArg Value.bool (show false=(alV z.i.op&&((aK z.i.op).wa||(z.i.op==6))) by simp only[↓A,BT])) agN)⟩
 skip;rintro g5 H5 ⟨F5,aw,ag⟩;refine aC 1 rfl (zi 1 2 (fun V=>?_) fun V=>?_)
 ·try simp only[BS]at V
  have hq:=V;refine aa (wUo 3 0 [(2,.o (iI z.i.a))] 20 22 [] [(22,(iI z.i.a))] (ql 3 1 (HS.hc ag (i:=0) rfl) rfl rfl) rfl fun _=>az (bj (α:=Int) (ps:=[(0,(iI z.i.a))]) (cells:=[(iI z.i.a)]) ([z.i.a]:List Int) ag rfl rfl rfl (by kernel_rfl) ⟨[(iI z.i.a)],[],rfl,⟨rfl,by omega⟩,rfl⟩ rfl) rfl rfl ?_);rintro _ bk a0 ⟨av,ay,rfl,a1,(a2:HS _ _ _ [_,a0] _),_⟩;refine za (sL av ([z.i.a]:List Int).length ay) (ze 1 (aj ⟨.inr rfl,_,rfl,av,ay,([z.i.a]:List Int),a0,_,(aw),(HS.only a2 (i:=1) rfl),rfl,a1,(rwr_yes hq)⟩))
 try simp only[BS]at V
 have hq:=V;refine wT 1 [] 2 2 [] [(2,(sL none 0 0))] rfl fun _=>aj ⟨.inr rfl,_,rfl,none,0,([]:List Int),[],_,(aw),(HS.cons (HS.forget ag)),rfl,(OS.nil:OS _ _ _ []),(rwr_no hq)⟩
theorem vsucc_c{N:Option Addr}{U:Nat}(b:BlkT)(hs:HS (.of H []) F H [] R)(a9:SR F (sL N b.ins.length U) b.ins)(bb:in64 b.fin)(be:in64 b.reg)(bk:in64 b.tgt)(bl:in64 b.els)(hT:TB 37 tabC F):kKt ex 133 [(aG [(sL N b.ins.length U),(iI b.fin),(iI b.reg),(iI b.tgt),(iI b.els)])] H fun v H'=> ∃(ar:Option Addr) (kr:Nat) (r:List Int) (p:Fp) (F':Fz),Fz.le F F'/\HS (.of H []) F' H' [p] R/\v=sL ar r.length kr/\OS F' (sL ar r.length kr) r p/\r=bh b:=by
 refine au Tryd.func133 rfl rfl (zf 1 (aa (az (aU hs rfl rfl) rfl rfl ?_)));rintro _ H2 _ ⟨b1,rfl,(A:HS _ _ _ [(fP b1 [(sL N b.ins.length U),(iI b.fin),(iI b.reg),(iI b.tgt),(iI b.els)])] _),_⟩;refine za (sL none 0 0) (aD 3 rfl (wU 3 [(1,.o (iI b.fin))] 3 4 [] [(4,(iI b.fin))] (ql 3 1 (HS.hc A (i:=0) rfl) rfl rfl) rfl fun _=>wT 1 [] 5 6 [] [(5,(.bool (b.fin==1)))] rfl fun _=>zi 1 1 (fun z=>?_) fun z=>?_))
 ·try simp only[BS]at z
  refine aa (wUo 2 0 [(1,.o (iI b.tgt))] 7 8 [] [(8,(iI b.tgt))] (ql 3 3 (HS.hc A (i:=0) rfl) rfl rfl) rfl fun _=>az (bj (α:=Int) (ps:=[(0,(iI b.tgt))]) (cells:=[(iI b.tgt)]) ([b.tgt]:List Int) A rfl rfl rfl (by kernel_rfl) ⟨[(iI b.tgt)],[],rfl,⟨rfl,by omega⟩,rfl⟩ rfl) rfl rfl ?_);rintro _ H8 p7 ⟨a7,k7,rfl,a2,(a3:HS _ _ _ [_,p7] _),_⟩;refine za (sL a7 ([b.tgt]:List Int).length k7) (ze 1 (aj ⟨.inr rfl,_,rfl,a7,k7,([b.tgt]:List Int),p7,_,fR,(HS.only a3 (i:=1) rfl),rfl,a2,(succ1 (by assumption))⟩))
 try simp only[BS]at z
 refine wT 1 [] 10 11 [] [(10,(.bool (b.fin==2)))] rfl fun _=>zi 1 3 (fun Z=>?_) fun Z=>?_
 ·try simp only[BS]at Z
  refine aa (wRo 4 0 [(1,.o (iI b.tgt)),(3,.o (iI b.els))] 12 15 [] [(13,(iI b.tgt)),(15,(iI b.els))] (vA (ql 3 3 (HS.hc A (i:=0) rfl) rfl rfl) (vA (ql 3 4 (HS.hc A (i:=0) rfl) rfl rfl) trivial)) rfl fun _=>az (bj (α:=Int) (ps:=[(0,(iI b.tgt)),(1,(iI b.els))]) (cells:=[(iI b.tgt),(iI b.els)]) ([b.tgt,b.els]:List Int) A rfl rfl rfl (by kernel_rfl) ⟨[(iI b.tgt)],[(iI b.els)],rfl,⟨rfl,by omega⟩,⟨[(iI b.els)],[],rfl,⟨rfl,by omega⟩,rfl⟩⟩ rfl) rfl rfl ?_);rintro _ b3 a5 ⟨b5,b6,rfl,ax,(a0:HS _ _ _ [_,a5] _),_⟩;obtain⟨b0,ad,E,ay,bz⟩:=OS.frz ax a0 (i:=1) rfl;have E:HS _ _ _ [_,[]] _:=E;replace hT:=hT.mono ad;refine zc (unique_c ex ([b.tgt,b.els]:List Int) (HS.call E) ay hT (by simp)) ?_;rintro _ b4 ⟨V,ag,b7,an,b2,aw,T,rfl,al,rfl⟩;replace T:HS _ _ _ [_,_,an] _:=HS.back E rfl T;refine za (sL V (cH [] ([b.tgt,b.els]:List Int)).length ag) (ze 1 (aj ⟨.inr rfl,_,rfl,V,ag,cH [] ([b.tgt,b.els]:List Int),an,_,(fT (ad) aw),(HS.only T (i:=2) rfl),rfl,al,(succ2 (by assumption)).symm⟩))
 try simp only[BS]at Z
 refine wT 1 [] 2 2 [] [(2,(sL none 0 0))] rfl fun _=>aj ⟨.inr rfl,_,rfl,none,0,([]:List Int),[],_,fR,(HS.cons (HS.forget A)),rfl,(OS.nil:OS _ _ _ []),(succ0 (by omega))⟩
theorem rsucc_c{N:Option Addr}{U:Nat}(b:BlkT)(hs:HS (.of H []) F H [] R)(bb:SR F (sL N b.ins.length U) b.ins)(be:in64 b.fin)(bk:in64 b.reg)(bl:in64 b.tgt)(bz:in64 b.els)(hT:TB 37 tabC F):kKt ex 66 [(aG [(sL N b.ins.length U),(iI b.fin),(iI b.reg),(iI b.tgt),(iI b.els)])] H fun v H'=> ∃(ar:Option Addr) (kr:Nat) (r:List Int) (F':Fz),Fz.le F F'/\HS (.of H []) F' H' [] R/\v=sL ar r.length kr/\SR F' (sL ar r.length kr) r/\r=bh b:=by
 refine au Tryd.func66 rfl rfl (zf 1 (aa (az (aU hs rfl rfl) rfl rfl ?_)));rintro _ H2 _ ⟨b1,rfl,(A:HS _ _ _ [(fP b1 [(sL N b.ins.length U),(iI b.fin),(iI b.reg),(iI b.tgt),(iI b.els)])] _),_⟩;refine za (sL none 0 0) (aD 3 rfl (wU 3 [(1,.o (iI b.fin))] 3 4 [] [(4,(iI b.fin))] (ql 3 1 (HS.hc A (i:=0) rfl) rfl rfl) rfl fun _=>wT 1 [] 5 6 [] [(5,(.bool (b.fin==1)))] rfl fun _=>zi 1 1 (fun c5=>?_) fun c5=>?_))
 ·try simp only[BS]at c5
  refine aa (wUo 2 0 [(1,.o (iI b.tgt))] 7 8 [] [(8,(iI b.tgt))] (ql 3 3 (HS.hc A (i:=0) rfl) rfl rfl) rfl fun _=>az (bj (α:=Int) (ps:=[(0,(iI b.tgt))]) (cells:=[(iI b.tgt)]) ([b.tgt]:List Int) A rfl rfl rfl (by kernel_rfl) ⟨[(iI b.tgt)],[],rfl,⟨rfl,by omega⟩,rfl⟩ rfl) rfl rfl ?_);rintro _ H8 p7 ⟨a7,k7,rfl,a3,(a5:HS _ _ _ [_,p7] _),_⟩;refine za (sL a7 ([b.tgt]:List Int).length k7) (ze 1 ?_);obtain⟨F9,a2,z,a4,b9⟩:=OS.frz a3 a5 (i:=1) rfl;have z:HS _ _ _ [_,[]] _:=z;refine aj ⟨.inr rfl,_,rfl,a7,k7,([b.tgt]:List Int),_,(a2),(HS.forget z),rfl,a4,(succ1 (by assumption))⟩
 try simp only[BS]at c5
 refine wT 1 [] 10 11 [] [(10,(.bool (b.fin==2)))] rfl fun _=>zi 1 3 (fun Z=>?_) fun Z=>?_
 ·try simp only[BS]at Z
  refine aa (wUo 2 0 [(1,.o (iI b.tgt))] 12 13 [] [(13,(iI b.tgt))] (ql 3 3 (HS.hc A (i:=0) rfl) rfl rfl) rfl fun _=>az (bj (α:=Int) (ps:=[(0,(iI b.tgt))]) (cells:=[(iI b.tgt)]) ([b.tgt]:List Int) A rfl rfl rfl (by kernel_rfl) ⟨[(iI b.tgt)],[],rfl,⟨rfl,by omega⟩,rfl⟩ rfl) rfl rfl ?_);rintro _ b5 a8 ⟨b7,cc,rfl,ay,(ag:HS _ _ _ [_,a8] _),_⟩;refine wUo 2 3 [(4,.o (iI b.els))] 15 16 [] [(16,(iI b.els))] (ql 3 4 (HS.hc ag (i:=0) rfl) rfl rfl) rfl fun _=>?_
  obtain⟨b3,ad,E,a0,b0⟩:=OS.frz ay ag (i:=1) rfl;have E:HS _ _ _ [_,[]] _:=E;replace hT:=hT.mono ad;refine zc (m6.dg ex ([b.tgt]:List Int) b.els (HS.call E) a0 (by omega) hT (by simp)) ?_;rintro _ b6 ⟨V,an,ch,b4,ax,T,rfl,av,rfl⟩;replace T:HS _ _ _ [_,_] _:=HS.back E rfl T;refine za (sL V (di ([b.tgt]:List Int) b.els).length an) (ze 1 (aj ⟨.inr rfl,_,rfl,V,an,di ([b.tgt]:List Int) b.els,_,(fT (ad) ax),(HS.forget T),rfl,av,(succ2 (by assumption)).symm⟩))
 try simp only[BS]at Z
 refine wT 1 [] 2 2 [] [(2,(sL none 0 0))] rfl fun _=>aj ⟨.inr rfl,_,rfl,none,0,([]:List Int),_,fR,(HS.forget A),rfl,(SR.nil:SR F (sL none 0 0) ([]:List Int)),(succ0 (by omega))⟩
theorem rend_c{E:Option Addr}{N:Nat}(b:BlkT)(hs:HS (.of H []) F H [] R)(an:SR F (sL E b.ins.length N) b.ins)(av:in64 b.fin)(aw:in64 b.reg)(ax:in64 b.tgt)(ay:in64 b.els)(hT:TB 37 tabC F):kKt ex 59 [(aG [(sL E b.ins.length N),(iI b.fin),(iI b.reg),(iI b.tgt),(iI b.els)])] H fun v H'=> ∃(z:Option Addr) (kr:Nat) (r:List Int) (p:Fp) (F':Fz),Fz.le F F'/\HS (.of H []) F' H' [p] R/\v=sL z r.length kr/\OS F' (sL z r.length kr) r p/\r=dE b:=by
 refine au Tryd.func59 rfl rfl (zf 1 (aa (az (aU hs rfl rfl) rfl rfl ?_)));rintro _ H2 _ ⟨b1,rfl,(A:HS _ _ _ [(fP b1 [(sL E b.ins.length N),(iI b.fin),(iI b.reg),(iI b.tgt),(iI b.els)])] _),_⟩;refine za (sL none 0 0) (aD 3 rfl (wR 1 [(1,.o (iI b.fin)),(5,.o (iI b.fin))] 3 10 [] [(10,(.bool ((b.fin==2)||(b.fin==3))))] (vA (ql 3 1 (HS.hc A (i:=0) rfl) rfl rfl) (vA (fun(g1:(b.fin==2)=false)=>(ql 3 1 (HS.hc A (i:=0) rfl) rfl rfl)) trivial)) rfl fun _=>zi 1 2 (fun T=>?_) fun T=>?_))
 ·try simp only[BS]at T
  refine aa (wUo 2 0 [(1,.o (iI b.reg))] 11 12 [] [(12,(iI b.reg))] (ql 3 2 (HS.hc A (i:=0) rfl) rfl rfl) rfl fun _=>az (bj (α:=Int) (ps:=[(0,(iI b.reg))]) (cells:=[(iI b.reg)]) ([b.reg]:List Int) A rfl rfl rfl (by kernel_rfl) ⟨[(iI b.reg)],[],rfl,⟨rfl,by omega⟩,rfl⟩ rfl) rfl rfl ?_);rintro _ H7 p6 ⟨U,k6,rfl,V,(Z:HS _ _ _ [_,p6] _),_⟩;refine za (sL U ([b.reg]:List Int).length k6) (ze 1 (aj ⟨.inr rfl,_,rfl,U,k6,([b.reg]:List Int),p6,_,fR,(HS.only Z (i:=1) rfl),rfl,V,(if_pos (by omega)).symm⟩))
 try simp only[BS]at T
 refine wT 1 [] 2 2 [] [(2,(sL none 0 0))] rfl fun _=>aj ⟨.inr rfl,_,rfl,none,0,([]:List Int),[],_,fR,(HS.cons (HS.forget A)),rfl,(OS.nil:OS _ _ _ []),(if_neg (by omega)).symm⟩
theorem eS{z:Option Addr}{ao:Nat}(a:List Int){ai:Option Addr}{a0:Nat}(b:List Int)(hs:HS (.of H []) F H [] R)(ha:SR F (sL z a.length ao) a)(hb:SR F (sL ai b.length a0) b)(hT:TB 37 tabC F)(ch:a.length+b.length<=1073741824):kKt ex 69 [(sL z a.length ao),(sL ai b.length a0)] H fun v H'=> ∃(ar:Option Addr) (kr:Nat) (r:List Int) (F':Fz),Fz.le F F'/\HS (.of H []) F' H' [] R/\v=sL ar r.length kr/\SR F' (sL ar r.length kr) r/\r=cH a b:=by
 refine au Tryd.func69 rfl rfl (aC 1 rfl (wT 2 [] 4 4 [] [(4,(sL none 0 0))] rfl fun _=>aa (zm (sL z a.length ao) ?_)));have V:=HS.snoc hs;have V:HS _ _ _ [[]] _:=V;refine az (br (α:=Int) (q:=0) (OS.nil:OS F (sL none 0 0) ([]:List Int) []) V rfl rfl rfl (SR.sv ha V) rfl rfl rfl rfl rfl rfl rfl (by(simp only[a04,a08,a0f];omega))) rfl rfl ?_;rintro _ H4 p3 ⟨a3,k3,rfl,al,(a6:HS _ _ _ [p3] _),_⟩;have al:OS F (sL a3 a.length k3) a p3:=al;refine za (sL a3 a.length k3) (ze 3 ?_);obtain⟨F5,ag,an,a5,b0⟩:=OS.frz al a6 (i:=0) rfl;have an:HS _ _ _ [[]] _:=an;refine wT 2 [] 1 0 [6] [(6,(iI 0))] rfl fun _=>ah (fun(mm:Nat) f H'=> ∃(o:List Int) (i:Nat) (A:Option Addr) (E:Nat) (F':Fz),Fz.le F5 F'/\HS (Base.of H []) F' H' [[]] R/\SR F' (sL A o.length E) o/\am f [(1,(sL ai b.length a0)),(5,(sL A o.length E)),(6,(iI (i:Int)))]/\mm=b.length-i/\(i<=b.length)/\(o=cH a (b.take i))) _ ⟨a,0,a3,k3,_,fR,an,a5,⟨rfl,rfl,rfl,trivial⟩,rfl,(by omega),(by rfl)⟩ ?_
 rintro b1 f7 H7 ⟨o,i,A,E,F7,U,N,Z,ay,rfl,h1,h2⟩ a7;refine ak _ ay (fun _=>?_);clear ay;replace hT:=(hT.mono ag).mono U;replace hb:=(hb.mono ag).mono U;have n4:o.length<=a.length+b.length:=by rw[h2];exact a0c ev (by simp;omega)
 refine aC 2 rfl (wT 1 [] 9 12 [] [(12,(.bool (decide ((i:Int)<(b.length:Int)))))] rfl fun _=>zd 3 5 (fun c9=>?_) fun c9=>?_)
 ·refine aa ?_;obtain⟨be,av⟩:=Sv.view (SR.sv hb N);have bz:=fI (av i);refine wRo 5 0 [(4,.o (iI (b.getD i 0)))] 15 19 [] [(15,(sL A o.length E)),(19,(iI (b.getD i 0)))] (vA (Sv.ix (j:=(i:Int)) (SR.sv hb N)) (vA (ql 3 0 (vI (av i)) rfl rfl) trivial)) rfl fun _=>zc (m6.dg ex o (b.getD i 0) (HS.call N) Z (by omega) hT (by omega)) ?_
  rintro _ bl ⟨ad,aw,b2,bk,a2,T,rfl,ax,rfl⟩;replace T:HS _ _ _ [_] _:=HS.back N rfl T;refine za (sL ad (di o (b.getD i 0)).length aw) (aD 2 rfl (wU 1 [] 13 14 [6] [(6,(iI ((i:Int)+1)))] (vi (n:=(i:Int)+1)) rfl fun _=>a7 _ _ _ ?_ ⟨di o (b.getD i 0),i+1,ad,aw,_,(fT (U) a2),T,ax,⟨rfl,rfl,rfl,trivial⟩,rfl,(by omega),(i6 (by omega) h2)⟩));omega
 refine wT 1 [] 4 4 [21] [(4,(sL A o.length E))] rfl fun _=>aj ⟨.inr rfl,_,rfl,A,E,o,_,(fT (ag) U),(HS.forget N),rfl,Z,(uni_all (by omega) h2)⟩
theorem minus_c{ai:Option Addr}{ao:Nat}(a:List Int){an:Option Addr}{a6:Nat}(b:List Int)(hs:HS (.of H []) F H [] R)(z:SR F (sL ai a.length ao) a)(hb:SR F (sL an b.length a6) b)(hT:TB 37 tabC F)(b9:a.length<=1073741824/\b.length<=1073741824):kKt ex 106 [(sL ai a.length ao),(sL an b.length a6)] H fun v H'=> ∃(ar:Option Addr) (kr:Nat) (r:List Int) (p:Fp) (F':Fz),Fz.le F F'/\HS (.of H []) F' H' [p] R/\v=sL ar r.length kr/\OS F' (sL ar r.length kr) r p/\r=dR a b:=by
 refine au Tryd.func106 rfl rfl (zf 1 (wT 2 [] 4 4 [] [(4,(sL none 0 0))] rfl fun _=>wT 3 [] 1 0 [5] [(5,(sL none 0 0))] rfl fun _=>wT 2 [] 1 0 [6] [(6,(iI 0))] rfl fun _=>?_));have ag:=HS.snoc hs;have ag:HS _ _ _ [[]] _:=ag;refine ah (fun(mm:Nat) f H'=> ∃(o:List Int) (i:Nat) (A:Option Addr) (E:Nat) (N:Fp) (F':Fz),Fz.le F F'/\HS (Base.of H []) F' H' [N] R/\OS F' (sL A o.length E) o N/\am f [(0,(sL ai a.length ao)),(1,(sL an b.length a6)),(5,(sL A o.length E)),(6,(iI (i:Int)))]/\mm=a.length-i/\(i<=a.length)/\(o=dR (a.take i) b)) _ ⟨([]:List Int),0,none,0,[],_,fR,ag,(OS.nil:OS _ (sL none 0 0) ([]:List Int) []),⟨rfl,rfl,rfl,rfl,trivial⟩,rfl,(by omega),(by rfl)⟩ ?_;rintro bz f4 H4 ⟨o,i,A,E,N,F4,U,T,V,aw,rfl,h1,h2⟩ ay;refine ak _ aw (fun _=>?_);clear aw;replace hT:=hT.mono U;replace z:=z.mono U;replace hb:=hb.mono U;have n4:o.length<=a.length:=by rw[h2];exact a0c min_len (by simp;omega)
 refine aC 2 rfl (wT 1 [] 7 10 [] [(10,(.bool (decide ((i:Int)<(a.length:Int)))))] rfl fun _=>zd 4 5 (fun c7=>?_) fun c7=>?_)
 ·obtain⟨be,ax⟩:=Sv.view (SR.sv z T);have g9:=fI (ax i);refine wR 1 [(4,.o (iI (a.getD i 0))),(5,.o (.bool (cG b (a.getD i 0))))] 13 19 [] [(19,(.bool (!(cG b (a.getD i 0)))))] (vA (Sv.ix (j:=(i:Int)) (SR.sv z T)) (vA (ql 3 0 (vI (ax i)) rfl rfl) (vA (m6.eo ex b (a.getD i 0) (HS.call T) hb (by omega) hT (by omega)) trivial))) rfl fun _=>zi 0 2 (fun Z=>?_) fun Z=>?_
  ·try simp only[BS]at Z
   refine aa ?_;obtain⟨a7,al⟩:=Sv.view (SR.sv z T);have bk:=fI (al i);refine wRo 5 0 [(4,.o (iI (a.getD i 0)))] 20 24 [] [(20,(sL A o.length E)),(24,(iI (a.getD i 0)))] (vA (Sv.ix (j:=(i:Int)) (SR.sv z T)) (vA (ql 3 0 (vI (al i)) rfl rfl) trivial)) rfl fun _=>az (bj (α:=Int) (ps:=[(0,(iI (a.getD i 0)))]) (cells:=[(iI (a.getD i 0))]) ([(a.getD i 0)]:List Int) T rfl rfl rfl (by kernel_rfl) ⟨[(iI (a.getD i 0))],[],rfl,⟨rfl,by omega⟩,rfl⟩ rfl) rfl rfl ?_
   rintro _ a8 a5 ⟨bb,bl,rfl,a2,(ad:HS _ _ _ [N,a5] _),_⟩;refine az (br (α:=Int) (q:=0) V ad rfl rfl rfl (OS.sv a2 ad (i:=1) rfl) rfl rfl rfl rfl rfl rfl rfl (by(simp only[a04,a08,a0f];omega))) rfl rfl ?_;rintro _ a9 a1 ⟨av,a0,rfl,a3,(a4:HS _ _ _ [a1,_] _),_⟩;refine za (sL av (o++([(a.getD i 0)]:List Int)).length a0) (aD 2 rfl (wU 1 [] 11 12 [6] [(6,(iI ((i:Int)+1)))] (vi (n:=(i:Int)+1)) rfl fun _=>ay _ _ _ ?_ ⟨o++([(a.getD i 0)]:List Int),i+1,av,a0,a1,_,(U),(HS.sub a4 (a02 _ _)),a3,⟨rfl,rfl,rfl,rfl,trivial⟩,rfl,(by omega),((jf (by omega) h2).1 (by assumption))⟩));omega
  try simp only[BS]at Z
  refine wU 1 [] 11 12 [6] [(6,(iI ((i:Int)+1)))] (vi (n:=(i:Int)+1)) rfl fun _=>ay _ _ _ ?_ ⟨o,i+1,A,E,N,_,(U),T,V,⟨rfl,rfl,rfl,rfl,trivial⟩,rfl,(by omega),((jf (by omega) h2).2 (by assumption))⟩
  omega
 refine wT 1 [] 4 4 [27] [(4,(sL A o.length E))] rfl fun _=>aj ⟨.inr rfl,_,rfl,A,E,o,N,_,(U),(HS.only T (i:=0) rfl),rfl,V,(by rw[h2,a0i (by omega)])⟩
end Go.Proofs.YtknafdcgpaejlaaDoor.ma
