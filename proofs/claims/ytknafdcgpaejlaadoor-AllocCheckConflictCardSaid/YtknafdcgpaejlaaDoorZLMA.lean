/-
 What instructions read and write, what follows a block, unions and differences of sets: the program and the reference, by symbolic runs. No condition but bounds on lengths.
-/
import Derived.Test.YtknafdcgpaejlaaDoorZLM6
noncomputable section
namespace Go.Proofs.YtknafdcgpaejlaaDoor.ma
open Go.R
set_option maxRecDepth 10000
set_option linter.unusedVariables false
set_option linter.unusedSimpArgs false
variable (ex:FuncId) {F:Fz} {H:Heap} {R:List Fp}
open m1 m2 m3 m4 m5 m6
abbrev Asc(l:List Int):Prop:=l.Pairwise (· < ·)
def cF(a l:List Int):List Int:=l.foldl de a
def eX(a b:List Int):List Int:=a.filter fun x=> !gi b x
theorem asc_at{l:List Int}(h:Asc l){i j:Nat}(hij:i<j)(hj:j<l.length):l.getD i 0<l.getD j 0:=by have:=(a1D.1 h) i j (by omega) hj hij;rw[a02,a02,a04 hj,a04 (show i<l.length by omega)];exact this
theorem pre_lt{l:List Int}{n:Int}: ∀x∈l.take (ie l n),x<n:=by
 intro x hx;have e:l.take (ie l n)=l.takeWhile (fun x=>decide (x<n)):=by unfold ie;exact(List.prefix_iff_eq_take.1 (List.takeWhile_prefix _)).symm
 rw[e]at hx;have:=a0t.1 (List.all_takeWhile (p:=fun x=>decide (x<n)) (l:=l)) x hx;simpa using this
theorem pre_at{l:List Int}{n:Int}(h:ie l n<l.length): ¬l.getD (ie l n) 0<n:=by
 induction l with
 |nil=>simp at h
 |cons x l ih=>
  unfold ie at h⊢
  by_cases hx:x<n
  ·rw[List.takeWhile_cons_of_pos (by simpa using hx)]at h⊢;simp only[a0a,a27]at h⊢;exact ih (by unfold ie;omega)
  rw[List.takeWhile_cons_of_neg (by simpa using hx)]
  simpa using hx
theorem pre_ge{l:List Int}{n:Int}(ha:Asc l): ∀x∈l.drop (ie l n),n<=x:=by
 intro x hx;obtain⟨i,hi,rfl⟩:=a0x.1 hx;rw[List.getElem_drop];rw[a0A]at hi;have A:=pre_at (l:=l) (n:=n) (by omega);rw[a02,a04 (show ie l n<l.length by omega)]at A;rcases a1x i with rfl|hp
 ·simp only[a28];simpa using A
 have:=(a1D.1 ha) (ie l n) (ie l n+i) (by omega) (by omega) (by omega)
 simp only[a0I]at A;omega
theorem ins_asc{l:List Int}{n:Int}(h:Asc l):Asc (de l n):=by
 unfold de;split
 ·exact h
 rename_i hc;have hge:=pre_ge (n:=n) h;have hlt:=pre_lt (l:=l) (n:=n);refine a20.2 ⟨a20.2 ⟨h.sublist (List.take_sublist _ _),List.pairwise_singleton _ _,fun a ha b hb=>?_⟩,h.sublist (List.drop_sublist _ _),fun a ha b hb=>?_⟩
 ·rw[a0f]at hb;subst hb;exact hlt a ha
 have hn:n<b:=by
  have J:=hge b hb;rcases Int.lt_or_eq_of_le J with A|A
  ·exact A
  exfalso;obtain⟨i,hi,rfl⟩:=a0x.1 hb;rw[a0A]at hi;rw[List.getElem_drop]at A;apply hc;refine⟨by omega,?_⟩;have E:=pre_at (l:=l) (n:=n) (by omega);rw[a02,a04 (show ie l n<l.length by omega)]at E⊢;simp only[a0I]at E⊢;rcases a1x i with rfl|hp
  ·simpa using A.symm
  have:=(a1D.1 h) (ie l n) (ie l n+i) (by omega) (by omega) (by omega)
  omega
 rcases a08.1 ha with ha|ha
 ·have:=hlt a ha;omega
 rw[a0f]at ha;subst ha;exact hn
theorem jr{l:List Int}{n x:Int}:x∈de l n↔x=n\/x∈l:=by
 unfold de;split
 ·rename_i h;constructor
  ·exact .inr
  rintro(rfl|A)
  ·rw[←h.2,a02,a04 h.1];exact a1n h.1
  exact A
 rw[a08,a08,a0f];constructor
 ·rintro((h|h)|h)
  ·exact .inr (a1h h)
  ·exact .inl h
  exact .inr (a21 h)
 rintro(h|h)
 ·exact .inl (.inr h)
 rw[←a1U (ie l n) l]at h;rcases a08.1 h with h|h
 ·exact .inl (.inl h)
 exact .inr h
theorem uni_asc{l:List Int}: ∀{a:List Int},Asc a->Asc (cF a l):=by
 induction l with
 |nil=>exact fun h=>h
 |cons x l ih=>exact fun h=>ih (ins_asc h)
theorem uni_mem{l:List Int}{x:Int}: ∀{a:List Int},x∈cF a l↔x∈a\/x∈l:=by
 induction l with
 |nil=>intro a;simp[cF]
 |cons y l ih=>
  intro a
  have:cF a (y::l)=cF (de a y) l:=rfl
  rw[this,ih,jr,a0v]
  constructor
  ·rintro((h|h)|h)
   ·exact .inr (.inl h)
   ·exact .inl h
   exact .inr (.inr h)
  rintro(h|h|h)
  ·exact .inl (.inr h)
  ·exact .inl (.inl h)
  exact .inr h
theorem el{l:List Int}: ∀{a:List Int},(cF a l).length<=a.length+l.length:=by
 induction l with
 |nil=>intro a;exact a09 _
 |cons y l ih=>
  intro a
  have A:=ih (a:=de a y)
  have E:=ins_len (l:=a) (n:=y)
  have:cF a (y::l)=cF (de a y) l:=rfl
  rw[this,a0a];omega
theorem uni_snoc{a l:List Int}{x:Int}:cF a (l++[x])=de (cF a l) x:=by unfold cF;rw[List.foldl_append];rfl
theorem uni_app{a l m:List Int}:cF a (l++m)=cF (cF a l) m:=by unfold cF;rw[List.foldl_append]
theorem bw{α:Type}{d:α}{l:List α}{i:Nat}(h:i<l.length):l.take (i+1)=l.take i++[l.getD i d]:=by rw[List.take_add_one,a04 h,a02,a04 h];rfl
theorem iG{a l o:List Int}{i:Nat}(h:i<l.length)(ho:o=cF a (l.take i)):de o (l.getD i 0)=cF a (l.take (i+1)):=by rw[bw h (d:=0),uni_snoc,ho]
theorem uni_all{a l o:List Int}{i:Nat}(h:l.length<=i)(ho:o=cF a (l.take i)):o=cF a l:=by rw[ho,a0h h]
theorem pre_eqR{l:List Int}{n:Int}{k:Nat}(ha:Asc l)(hk:k<=l.length)(E: ∀j,k<=j->j<l.length->n<=l.getD j 0)(J:0<k->l.getD (k-1) 0<n):k=ie l n:=by
 refine pre_eq hk (fun j hj=>?_) (fun hk'=>by have:=E k (a09 _) hk';omega);have N:=J (by omega);rcases a0i j (k-1) with A|A
 ·have:=asc_at ha A (by omega);omega
 have:j=k-1:=by omega
 subst this;exact N
theorem ge_step{l:List Int}{n:Int}{k:Nat}(h: ∀j,k<=j->j<l.length->n<=l.getD j 0)(E:n<=l.getD (k-1) 0): ∀j,k-1<=j->j<l.length->n<=l.getD j 0:=fun j T J=>by
 rcases a0i j k with A|A
 ·have N:j=k-1:=by omega
  subst N;exact E
 exact h j A J
theorem cp_ins{l:List Int}{n:Int}{k:Nat}(hk:k=ie l n)(hle:k<=l.length)(h: ¬(k<l.length/\l.getD k 0=n)):(cpL (l++[0]) (k+1) ((l++[0]).drop k)).set k n=de l n:=by
 have e:cpL (l++[0]) (k+1) ((l++[0]).drop k)=(l++[0]).take (k+1)++l.drop k:=by
  unfold cpL;have E:((l++[0]).drop k).length=l.length+1-k:=by simp
  have A:(l++[(0:Int)]).length=l.length+1:=by simp
  rw[E,A,show min (l.length+1-k) (l.length+1-(k+1))=l.length-k by omega,show k+1+(l.length-k)=l.length+1 by omega];rw[show List.drop (l.length+1) (l++[(0:Int)])=[] from List.drop_of_length_le (by rw[A];exact a09 _),a0C];congr 1;rw[List.drop_append,a1W,a0A,show l.length+1-(k+1)=l.length-k by omega,a1F,List.take_zero,a0C,a0h (by rw[a0A];omega)]
 rw[e,←ins_new hk h,a0k,List.take_add_one];rw[List.set_append];have J:(List.take k (l++[0]))=l.take k:=by rw[a1W,Nat.sub_eq_zero_of_le hle,List.take_zero,a0C]
 have N:(l++[(0:Int)])[k]?.toList=[(l++[(0:Int)]).getD k 0]:=by rw[a02,a04 (show k<(l++[(0:Int)]).length by simp;omega)];rfl
 rw[J,N];have T:(List.take k l++[(l++[(0:Int)]).getD k 0]).length=k+1:=by simp;omega
 rw[if_pos (by rw[T];omega),List.set_append,if_neg (by rw[a0o];omega),a0o,show k-min k l.length=0 by omega];simp
def ia(v:VInT):List Int:=(if(aM v.i.op).ra then [v.i.a] else [])++((if(aM v.i.op).rb then [v.i.b] else [])++((if v.i.op=11\/v.i.op=12 then [v.i.c] else [])++(if v.i.op=6 then v.args else [])))
def aF(v:VInT):List Int:=if alV v.i.op then cF [] (ia v) else []
def ab(v:VInT):List Int:=if alV v.i.op=true/\((aM v.i.op).wa=true\/v.i.op=6\/v.i.op=38) then [v.i.a] else []
def aZ(b:BlkT):List Int:=if b.fin=1 then [b.tgt] else if b.fin=2 then de [b.tgt] b.els else []
def dp(b:BlkT):List Int:=if b.fin=2\/b.fin=3 then [b.reg] else []
theorem reads_no{v:VInT}(h:alV v.i.op=false):[]=aF v:=by unfold aF;rw[h];rfl
theorem reads_yes{v:VInT}{l:List Int}(h:alV v.i.op=true)(hl:l=ia v):cF [] l=aF v:=by unfold aF;rw[h,hl];rfl
theorem rrT{l:List Int}{a:Int}{p:Prop} [Decidable p](h:p):de l a=cF l (if p then [a] else []):=by rw[if_pos h];rfl
theorem rrF{l:List Int}{a:Int}{p:Prop} [Decidable p](h: ¬p):l=cF l (if p then [a] else []):=by rw[if_neg h];rfl
theorem vra{op:Int}:(aJ op).ra=(aM op).ra:=by unfold aJ;split<;>first|rfl|(rename_i h;subst h;rfl)
theorem vrb{op:Int}:(aJ op).rb=(aM op).rb:=by unfold aJ;split<;>first|rfl|(rename_i h;subst h;rfl)
theorem vf4{op:Int}(h:alV op=true):(aJ op).form=4↔op=11\/op=12:=by
 unfold alV at h;have h:=of_decide_eq_true h;by_cases A:op=38
 ·subst A;decide
 have e:aJ op=aM op:=by unfold aJ;rw[if_neg A]
 rw[e];obtain⟨k,hk⟩:=ex37 (op:=op) ⟨by omega,by omega⟩;rw[hk];clear hk;revert k;decide+kernel
theorem rr_end{v:VInT}{E J N T:List Int}{k:Nat}(hal:alV v.i.op=true)(U:E=cF [] (if(aM v.i.op).ra=true then [v.i.a] else []))(V:J=cF E (if(aM v.i.op).rb=true then [v.i.b] else []))(Z:N=cF J (if v.i.op=11\/v.i.op=12 then [v.i.c] else []))
  (q4:T=cF N (v.args.take k)) (q6:k=0\/v.i.op=6) (h:v.i.op=6->v.args.length<=k):T=aF v:=by
 have e:v.args.take k=if v.i.op=6 then v.args else []:=by
  by_cases A:v.i.op=6
  ·rw[if_pos A,a0h (h A)]
  rw[if_neg A];have:k=0:=by omega
  subst this;rfl
 unfold aF ia
 rw[if_pos hal,uni_app,uni_app,uni_app,←U,←V,←Z,←e,←q4]
theorem d6{a:Int}{p:Prop} [Decidable p]:(if p then [a] else []).length<=1:=by split<;>simp
theorem rr_len{v:VInT}{A E J N:List Int}{k:Nat}(Z:A=cF [] (if(aM v.i.op).ra=true then [v.i.a] else []))(q2:E=cF A (if(aM v.i.op).rb=true then [v.i.b] else []))(q3:J=cF E (if v.i.op=11\/v.i.op=12 then [v.i.c] else []))
  (q4:N=cF J (v.args.take k)):N.length<=3+v.args.length:=by
 have T:A.length<=1:=by rw[Z];exact a0e el (by simpa using d6)
 have U:E.length<=2:=by rw[q2];exact a0e el (a1E T d6)
 have V:J.length<=3:=by rw[q3];exact a0e el (a1E U d6)
 rw[q4];exact a0e el (a1E V (by rw[a0o];omega))
theorem rr_len1{v:VInT}{A:List Int}(E:A=cF [] (if(aM v.i.op).ra=true then [v.i.a] else [])):A.length<=1:=by rw[E];exact a0e el (by simpa using d6)
theorem rr_len2{v:VInT}{A E:List Int}(J:A.length<=1)(N:E=cF A (if(aM v.i.op).rb=true then [v.i.b] else [])):E.length<=2:=by rw[N];exact a0e el (a1E J d6)
theorem writes_no{v:VInT}(h:alV v.i.op=false):[]=ab v:=by unfold ab;rw[if_neg (by simp[h])]
theorem jN{v:VInT}(h:alV v.i.op=true)(A:(aM v.i.op).wa=true\/v.i.op=6\/v.i.op=38):[v.i.a]=ab v:=by unfold ab;rw[if_pos ⟨h,A⟩]
theorem writes_not{v:VInT}(h: ¬((aM v.i.op).wa=true\/v.i.op=6\/v.i.op=38)):[]=ab v:=by unfold ab;rw[if_neg fun hh=>h hh.2]
theorem vwa{op:Int}:((aJ op).wa=true)↔((aM op).wa=true\/op=38):=by
 unfold aJ;split
 ·rename_i h;subst h;simp
 rename_i h;constructor
 ·exact .inl
 rintro(A|A)
 ·exact A
 exact absurd A h
theorem rwr_yes{v:VInT}(h:alV v.i.op=true/\((aJ v.i.op).wa=true\/v.i.op=6)):[v.i.a]=ab v:=jN h.1 (by have:=vwa (op:=v.i.op);rcases h.2 with A|A;(rcases this.1 A with E|E);exact .inl E;exact .inr (.inr E);exact .inr (.inl A))
theorem rwr_no{v:VInT}(h:alV v.i.op=true->(aJ v.i.op).wa=false/\v.i.op≠6):[]=ab v:=by
 unfold ab;rw[if_neg];rintro⟨J,A⟩;obtain⟨E,N⟩:=h J;have:=vwa (op:=v.i.op);rcases A with A|A|A
 ·rw[this.2 (.inl A)]at E;cases E
 ·exact N A
 rw[this.2 (.inr A)]at E;cases E
theorem succ1{b:BlkT}(h:b.fin=1):[b.tgt]=aZ b:=by unfold aZ;rw[if_pos h]
theorem succ2{b:BlkT}(h:b.fin=2):aZ b=de [b.tgt] b.els:=by unfold aZ;rw[if_neg (by omega),if_pos h]
theorem succ0{b:BlkT}(h:b.fin≠1/\b.fin≠2):[]=aZ b:=by unfold aZ;rw[if_neg h.1,if_neg h.2]
theorem iM{a b o:List Int}{i:Nat}(h:i<a.length)(ho:o=eX (a.take i) b):(gi b (a.getD i 0)=false->o++[a.getD i 0]=eX (a.take (i+1)) b)/\(gi b (a.getD i 0)=true->o=eX (a.take (i+1)) b):=by
 unfold eX at ho⊢;rw[bw h (d:=0),List.filter_append,←ho];constructor
 ·intro hc;rw[a1p,hc];rfl
 intro hc;rw[a1p,hc];simp
theorem min_len{a b:List Int}:(eX a b).length<=a.length:=a14 _ _
set_option maxHeartbeats 1000000 in
theorem unique_c{a_l:Option Addr}{k_l:Nat}(l:List Int)(hs:HS (.of H []) F H [] R)(hl:SR F (.slice a_l l.length k_l) l)(hT:TB 37 tabC F)(hlen:l.length<=1048600):kKt ex 101 [(.slice a_l l.length k_l)] H fun v H'=> ∃(ar:Option Addr) (kr:Nat) (r:List Int) (p:Fp) (F':Fz),Fz.le F F'/\HS (.of H []) F' H' [p] R/\v= .slice ar r.length kr/\OS F' (.slice ar r.length kr) r p/\r=cF [] l:=by
 refine aH Tryd.func101 rfl rfl (aj 1 rfl (wT 2 [] 2 2 [] [(2,(.slice none 0 0))] rfl fun _=>wT 3 [] 1 0 [3] [(3,(.slice none 0 0))] rfl fun _=>wT 2 [] 7 9 [] [(7,(.slice a_l l.length k_l)),(8,(iI (l.length:Int))),(9,(iI 0))] rfl fun _=>?_));have bb:=HS.snoc hs;have bb:HS _ _ _ [[]] _:=bb;refine ak (fun(mm:Nat) f H'=> ∃(ow:List Int) (i:Nat) (A:Option Addr) (E:Nat) (N:Fp) (F':Fz),Fz.le F F'/\HS (Base.of H []) F' H' [N] R/\OS F' (.slice A ow.length E) ow N/\aD f [(3,(.slice A ow.length E)),(7,(.slice a_l l.length k_l)),(8,(iI (l.length:Int))),(9,(iI (i:Int)))]/\mm=l.length-i/\(i<=l.length)/\(ow=cF [] (l.take i))) _ ⟨([]:List Int),0,none,0,[],_,fR,bb,(OS.nil:OS _ (.slice none 0 0) ([]:List Int) []),⟨rfl,rfl,rfl,rfl,trivial⟩,rfl,(by omega),(by rfl)⟩ ?_;rintro f2 f4 H4 ⟨ow,i,A,E,N,F4,a3,U,J,b3,rfl,h1,h2⟩ b5;refine au _ b3 (fun _=>?_);clear b3;replace hl:=hl.mono a3;have hasc:Asc ow:=h2▸uni_asc List.Pairwise.nil;have hle:ow.length<=i:=by rw[h2];exact a0e el (by simp;omega)
 refine aj 1 rfl (wT 2 [] 10 10 [] [(10,(.bool (decide ((i:Int)<(l.length:Int)))))] rfl fun _=>az 4 5 (v:=(decide ((i:Int)<(l.length:Int)))) rfl rfl rfl rfl (fun a6=>?_) (fun a6=>?_))
 ·have c7:=a6;try simp only[BS]at c7
  obtain⟨e4,b4⟩:=Sv.view (SR.sv hl U);have g9:=fI (b4 i);refine wR 2 [(1,.o (iI (l.getD i 0)))] 11 12 [5] [(5,(iI (l.getD i 0)))] (vA (Sv.ix (j:=(i:Int)) (SR.sv hl U) (by omega) (by omega)) (vA (ql 3 0 (vI (b4 i) (by omega)) rfl rfl) trivial)) rfl fun _=>wT 3 [] 13 14 [6] [(6,(iI (ow.length:Int)))] rfl fun _=>ak (fun(mm:Nat) f H'=> ∃(k:Nat),H'=H4/\aD f [(3,(.slice A ow.length E)),(5,(iI (l.getD i 0))),(6,(iI (k:Int))),(7,(.slice a_l l.length k_l)),(8,(iI (l.length:Int))),(9,(iI (i:Int)))]/\mm=k+1/\(k<=ow.length)/\(∀j,k<=j->j<ow.length->l.getD i 0<=ow.getD j 0)) _ ⟨ow.length,rfl,⟨rfl,rfl,rfl,rfl,rfl,rfl,trivial⟩,rfl,(by omega),(by intro j h5 h6;omega)⟩ ?_
  rintro et e5 H4 ⟨k,rfl,a8,rfl,h3,h4⟩ c3;refine au _ a8 (fun _=>?_);clear a8;refine aj 2 rfl ?_;obtain⟨d2,bk⟩:=Sv.view (OS.sv J U (i:=0) rfl);have e6:=fI (bk (k-1));refine wR 1 [(5,.e ((k-1:Nat):Int)),(7,.o (iI (ow.getD (k-1) 0)))] 15 25 [] [(25,(.bool ((decide ((0:Int)<(k:Int)))&&(decide ((l.getD i 0)<=(ow.getD (k-1) 0))))))] (vA (fun(g1:(decide ((0:Int)<(k:Int)))=true)=>(ve (n:=(k:Int)-1) (m:=((k-1:Nat):Int)) (by(try simp only[BS]at g1);omega) (by(try simp only[BS]at g1);omega))) (vA (fun(g1:(decide ((0:Int)<(k:Int)))=true)=>(Sv.ix (j:=((k-1:Nat):Int)) (OS.sv J U (i:=0) rfl) (by(try simp only[BS]at g1);omega) (by(try simp only[BS]at g1);omega))) (vA (fun(g1:(decide ((0:Int)<(k:Int)))=true)=>(ql 3 0 (vI (bk (k-1)) (by(try simp only[BS]at g1);omega)) rfl rfl)) trivial))) rfl fun _=>az 2 6 (v:=((decide ((0:Int)<(k:Int)))&&(decide ((l.getD i 0)<=(ow.getD (k-1) 0))))) rfl rfl rfl rfl (fun aw=>?_) (fun aw=>?_)
  ·have a4:=aw;try simp only[BS]at a4
   refine wU 2 [(1,.e ((k-1:Nat):Int))] 26 27 [6] [(6,(iI ((k-1:Nat):Int)))] (ve (n:=(k:Int)-1) (m:=((k-1:Nat):Int)) (by omega) (by omega)) rfl fun _=>c3 _ _ _ ?_ ⟨k-1,rfl,⟨rfl,rfl,rfl,rfl,rfl,rfl,trivial⟩,rfl,(by omega),(ge_step h4 (by omega))⟩
   omega
  have a4:=aw;try simp only[BS]at a4
  have hk:=pre_eqR hasc h3 h4 (by omega);obtain⟨ea,bl⟩:=Sv.view (OS.sv J U (i:=0) rfl);have fd:=fI (bl k);refine wR 1 [(8,.o (iI (ow.getD k 0)))] 28 39 [] [(39,(.bool ((decide ((k:Int)<(ow.length:Int)))&&((ow.getD k 0)==(l.getD i 0)))))] (vA (fun(g1:(decide ((k:Int)<(ow.length:Int)))=true)=>(Sv.ix (j:=(k:Int)) (OS.sv J U (i:=0) rfl) (by(try simp only[BS]at g1);omega) (by(try simp only[BS]at g1);omega))) (vA (fun(g1:(decide ((k:Int)<(ow.length:Int)))=true)=>(ql 3 0 (vI (bl k) (by(try simp only[BS]at g1);omega)) rfl rfl)) trivial)) rfl fun _=>az 3 2 (v:=((decide ((k:Int)<(ow.length:Int)))&&((ow.getD k 0)==(l.getD i 0)))) rfl rfl rfl rfl (fun ax=>?_) (fun ax=>?_)
  ·have a5:=ax;try simp only[BS]at a5
   refine wU 1 [] 9 9 [55] [(9,(iI ((i:Int)+1)))] (vi (n:=(i:Int)+1) (by omega)) rfl fun _=>b5 _ _ _ ?_ ⟨ow,i+1,A,E,N,_,(a3),U,J,⟨rfl,rfl,rfl,rfl,trivial⟩,rfl,(by omega),(by(rw[←iG (by omega) h2];exact kN hk (by omega) (by omega)))⟩
   omega
  have a5:=ax;try simp only[BS]at a5
  refine aa (wm (.slice A ow.length E) rfl rfl rfl (aI (bm (α:=Int) (ps:=[(0,(iI 0))]) (cells:=[(iI 0)]) ([0]:List Int) U rfl rfl rfl (by kernel_rfl) ⟨[(iI 0)],[],rfl,⟨rfl,by omega⟩,rfl⟩ rfl) rfl rfl ?_));rintro _ ez dn ⟨e1,fi,rfl,ci,(a9:HS _ _ _ [N,dn] _),_⟩;refine aI (bC (α:=Int) (q:=0) J a9 rfl rfl rfl (OS.sv ci a9 (i:=1) rfl) rfl rfl rfl rfl rfl rfl rfl (by(simp only[a05,a0a,a0g];omega))) rfl rfl ?_;rintro _ c8 b6 ⟨V,Z,rfl,ay,(a1:HS _ _ _ [b6,_] _),_⟩;refine wa (.slice V (ow++([0]:List Int)).length Z) rfl rfl rfl (ae 2 rfl ?_);have la:(ow++([0]:List Int)).length=ow.length+1:=by simp
  refine aP rfl (fm (.slice V (ow++([0]:List Int)).length Z) rfl rfl rfl (fm (iI (k:Int)) rfl rfl rfl (wfv (v:=(iI ((k:Int)+1))) (ap_add rfl rfl (w_i64 (n:=(k:Int)+1) (by omega))) (bT (id:= .r) (rs_cutX (α:=Int) (i:=k+1) ay a1.log0 (q:=0) rfl rfl rfl rfl (optN (by omega)) (by omega)) rfl rfl (by rintro _ _ _ ⟨_,_,_,hH,_⟩;simp only at hH;subst hH;exact did_r fun b hb=>absurd hb a0b) (kb rfl) ?_))));rintro _ _ _ ⟨e2,f0,rfl,ag,es,bz⟩ c4 b0;simp only at ag;replace ag:=ag.symm;subst ag;have av:=HS.lg a1.log0 a1 b0;generalize ({{c8 with log:=[]} with log:=c4}:Heap)=cc at av⊢;refine fm (.slice V (ow++([0]:List Int)).length Z) rfl rfl rfl (fm (iI (k:Int)) rfl rfl rfl (bT (id:= .r) (rs_cutX (α:=Int) (i:=k) ay av.log0 (q:=0) rfl rfl rfl rfl (optN (by omega)) (by omega)) rfl rfl (by rintro _ _ _ ⟨_,_,_,hH,_⟩;simp only at hH;subst hH;exact did_r fun b hb=>absurd hb a0b) (kb rfl) ?_));rintro _ _ _ ⟨e3,f1,rfl,al,co,ds⟩ c5 b1;simp only at al;replace al:=al.symm;subst al;have a2:=HS.lg av.log0 av b1;generalize ({{cc with log:=[]} with log:=c5}:Heap)=dv at a2⊢;refine bT (id:= .x (b6.map Prod.fst)) (rs_cp (α:=Int) (i:=k+1) ay a2.log0 (q:=0) rfl rfl bz (by omega) co rfl rfl rfl) rfl rfl (by rintro _ _ b7 ⟨rfl,an,_,hwr⟩;exact bR rfl rfl (Wr.did hwr)) (kb rfl) ?_;rintro _ c9 b7 ⟨rfl,an,T,_⟩ c6 b2;replace T:=HS.lg T a2 b2;generalize ({c9 with log:=c6}:Heap)=d1 at T⊢;have T:HS _ _ _ [b7,_] _:=T;have em:=OS.len' an;refine bJ (aj 1 rfl (aa (wUo 4 0 [] 51 54 [] [(53,(iI (l.getD i 0))),(54,(.pointer (some ⟨sB (.slice V (ow++([0]:List Int)).length Z),sO (.slice V (ow++([0]:List Int)).length Z)+k*Rp.sz Int,none⟩)))] (Sv.ix (j:=(k:Int)) (OS.sv an T (i:=0) rfl) (by omega) (by omega)) rfl fun _=>aT (cV (α:=Int) (j:=k) (off:=0) (q:=0) (l.getD i 0) an T rfl rfl rfl rfl rfl rfl rfl rfl (aL (x:=(0:Int)) (by omega)) rfl (by rintro cs ⟨rfl,_⟩;exact⟨a06 rfl,rfl,by omega⟩)) rfl ?_)));rintro _ e0 b9 ⟨a0,(c0:HS _ _ _ [b9,_] _),_⟩;have dt:=OS.len' a0;refine ae 2 rfl (wU 1 [] 9 9 [55] [(9,(iI ((i:Int)+1)))] (vi (n:=(i:Int)+1) (by omega)) rfl fun _=>b5 _ _ _ ?_ ⟨(cpL (ow++([0]:List Int)) (k+1) ((ow++([0]:List Int)).drop k)).set k (l.getD i 0),i+1,V,Z,b9,_,(a3),(HS.sub c0 (a03 _ _)),(OS.norm a0),(agC (show Value.slice V (ow++([0]:List Int)).length Z=Value.slice V ((cpL (ow++([0]:List Int)) (k+1) ((ow++([0]:List Int)).drop k)).set k (l.getD i 0)).length Z by rw[OS.len' a0]) ⟨rfl,rfl,rfl,trivial⟩),rfl,(by omega),(by(rw[cp_ins hk h3 (by omega)];exact iG (by omega) h2))⟩);omega
 have c7:=a6;try simp only[BS]at c7
 refine wT 1 [] 2 2 [56] [(2,(.slice A ow.length E))] rfl fun _=>aq ⟨.inr rfl,_,rfl,A,E,ow,N,_,(a3),(HS.only U (i:=0) rfl),rfl,J,(uni_all (by omega) h2)⟩
set_option maxHeartbeats 1000000 in
theorem vreads_c{ag:Option Addr}{al:Nat}(iv:VInT)(hs:HS (.of H []) F H [] R)(hA:in64 iv.i.op)(hB:in64 iv.i.a)(hC:in64 iv.i.b)(hD:in64 iv.i.c)(hE:in64 iv.i.n)(A:SR F (.slice ag iv.args.length al) iv.args)(hT:TB 37 tabC F)(hlen:iv.args.length<=1048576):kKt ex 57 [(.agg ⟨[(iI iv.i.op),(iI iv.i.a),(iI iv.i.b),(iI iv.i.c),(iI iv.i.n),(.slice ag iv.args.length al)]⟩)] H fun v H'=> ∃(ar:Option Addr) (kr:Nat) (r:List Int) (p:Fp) (F':Fz),Fz.le F F'/\HS (.of H []) F' H' [p] R/\v= .slice ar r.length kr/\OS F' (.slice ar r.length kr) r p/\r=aF iv:=by
 refine aH Tryd.func57 rfl rfl (aj 1 rfl (aa (aI (bg hs rfl rfl) rfl rfl ?_)));rintro _ H2 _ ⟨b1,rfl,(a8:HS _ _ _ [[(b1,.cells [(iI iv.i.op),(iI iv.i.a),(iI iv.i.b),(iI iv.i.c),(iI iv.i.n),(.slice ag iv.args.length al)] none false)]] _),_⟩;refine wa (.slice none 0 0) rfl rfl rfl (ae 3 rfl (wR 1 [(2,.o (iI iv.i.op)),(3,.o (.bool (alV iv.i.op)))] 6 10 [] [(10,(.bool (!(alV iv.i.op))))] (vA (ql 3 0 (HS.hc a8 (i:=0) rfl) rfl rfl) (vA (m1.kB ex iv.i.op H2) trivial)) rfl fun _=>az 1 2 (v:=(!(alV iv.i.op))) rfl rfl rfl rfl (fun c8=>?_) (fun c8=>?_)))
 ·have c4:=c8;try simp only[BS]at c4
  refine wT 1 [] 2 2 [] [(2,(.slice none 0 0))] rfl fun _=>aq ⟨.inr rfl,_,rfl,none,0,([]:List Int),[],_,fR,(HS.cons (HS.forget a8)),rfl,(OS.nil:OS _ _ _ []),(reads_no (by assumption))⟩
 have c4:=c8;try simp only[BS]at c4
 refine aa (wUo 3 0 [(2,.o (iI iv.i.op))] 12 14 [] [(14,(iI iv.i.op))] (ql 3 0 (HS.hc a8 (i:=0) rfl) rfl rfl) rfl fun _=>aA (am rfl rfl rfl) rfl rfl (m1.mInfo_c ex iv.i.op (HS.call a8) (by omega) hT) ?_);rintro _ H7 ⟨x7,o7,F7,dk,em,rfl,hm,hn,rfl,rfl⟩;replace em:HS _ _ _ [_] _:=HS.back a8 rfl em;replace hT:=hT.mono dk;replace A:=A.mono dk;refine wTo 3 4 [] 16 17 [11] [(16,(.agg ⟨[(.string ⟨⟨(aM iv.i.op).name.b⟩⟩),(iI (aM iv.i.op).form),(.bool (aM iv.i.op).ra),(.bool (aM iv.i.op).wa),(.bool (aM iv.i.op).rb),(.bool (aM iv.i.op).mt),(iI (aM iv.i.op).words)]⟩)),(17,(.bool (infO iv.i.op)))] rfl fun _=>aI (bD em rfl) rfl rfl ?_
 rintro _ hR _ ⟨b9,rfl,(g8:HS _ _ _ [_,[(b9,.cells [(.string ⟨⟨[]⟩⟩),(iI 0),(.bool false),(.bool false),(.bool false),(.bool false),(iI 0)] none false)]] _),_⟩;refine aT (aK (q:=1) g8 rfl rfl rfl rfl rfl rfl rfl rfl rfl) rfl ?_;rintro _ hS _ ⟨(dv:HS _ _ _ [_,[(b9,.cells [(.string ⟨⟨(aM iv.i.op).name.b⟩⟩),(iI (aM iv.i.op).form),(.bool (aM iv.i.op).ra),(.bool (aM iv.i.op).wa),(.bool (aM iv.i.op).rb),(.bool (aM iv.i.op).mt),(iI (aM iv.i.op).words)] none false)]] _),_⟩;refine wa (.bool (infO iv.i.op)) rfl rfl rfl (ae 2 rfl (wT 3 [] 1 0 [5] [(5,(.slice none 0 0))] rfl fun _=>wU 1 [(1,.o (.bool (aM iv.i.op).ra))] 18 19 [] [(19,(.bool (aM iv.i.op).ra))] (ql 4 2 (HS.hc dv (i:=1) rfl) rfl rfl) rfl fun _=>?_));have ax:=HS.snoc dv;have ax:HS _ _ _ [_,_,[]] _:=ax;let cc:Fp:=[(b1,.cells [(iI iv.i.op),(iI iv.i.a),(iI iv.i.b),(iI iv.i.c),(iI iv.i.n),(.slice ag iv.args.length al)] none false)]
 let ch:Fp:=[(b9,.cells [(.string ⟨⟨(aM iv.i.op).name.b⟩⟩),(iI (aM iv.i.op).form),(.bool (aM iv.i.op).ra),(.bool (aM iv.i.op).wa),(.bool (aM iv.i.op).rb),(.bool (aM iv.i.op).mt),(iI (aM iv.i.op).words)] none false)]
 refine bW (fun f H'=> ∃(l1:List Int) (E:Option Addr) (T:Nat) (Z:Fp) (F':Fz),Fz.le F7 F'/\HS (Base.of H []) F' H' [cc,ch,Z] R/\OS F' (.slice E l1.length T) l1 Z/\aD f [(1,(.pointer (some ⟨b1,0,none⟩))),(3,(.pointer (some ⟨b9,0,none⟩))),(5,(.slice E l1.length T))]/\(l1=if(aM iv.i.op).ra=true then [iv.i.a] else [])) (fun es=>?_) ?_
 ·refine az 0 0 (v:=(aM iv.i.op).ra) rfl rfl rfl rfl (fun bl=>?_) (fun bl=>?_)
  ·have c3:=bl;try simp only[BS]at c3
   refine aa (wUo 4 0 [(3,.o (iI iv.i.a))] 20 23 [] [(20,(.slice none 0 0)),(23,(iI iv.i.a))] (ql 3 1 (HS.hc ax (i:=0) rfl) rfl rfl) rfl fun _=>aI (bm (α:=Int) (ps:=[(0,(iI iv.i.a))]) (cells:=[(iI iv.i.a)]) ([iv.i.a]:List Int) ax rfl rfl rfl (by kernel_rfl) ⟨[(iI iv.i.a)],[],rfl,⟨rfl,by omega⟩,rfl⟩ rfl) rfl rfl ?_);rintro _ hW hp ⟨h8,iz,rfl,go,(d1:HS _ _ _ [_,_,_,hp] _),_⟩;refine aI (bC (α:=Int) (q:=2) (OS.nil:OS _ (.slice none 0 0) ([]:List Int) []) d1 rfl rfl rfl (OS.sv go d1 (i:=3) rfl) rfl rfl rfl rfl rfl rfl rfl (by(simp only[a05,a0a,a0g];omega))) rfl rfl ?_;rintro _ hX e4 ⟨ci,e1,rfl,b6,(g9:HS _ _ _ [_,_,e4,_] _),_⟩;have b6:OS F7 (.slice ci ([iv.i.a]:List Int).length e1) ([iv.i.a]:List Int) e4:=b6;refine wa (.slice ci ([iv.i.a]:List Int).length e1) rfl rfl rfl (ae 0 rfl ?_);exact es _ _ ⟨([iv.i.a]:List Int),ci,e1,e4,_,fR,(HS.sub g9 (a03 _ _)),b6,⟨rfl,rfl,rfl,trivial⟩,(by(rw[if_pos (by first|assumption|omega)];done))⟩
  have c3:=bl;try simp only[BS]at c3
  exact es _ _ ⟨([]:List Int),none,0,[],_,fR,ax,(OS.nil:OS _ (.slice none 0 0) ([]:List Int) []),⟨rfl,rfl,rfl,trivial⟩,(by(rw[if_neg (by first|omega|(intro hh;simp_all;done))];done))⟩
 skip;rintro ih hV ⟨l1,E,T,Z,hg,b3,a6,a9,dl,q1⟩;refine au _ dl (fun _=>?_);clear dl;replace hT:=hT.mono b3;replace A:=A.mono b3;have n1:l1.length<=1:=by rw[q1];exact d6
 refine aj 3 rfl (wU 1 [(1,.o (.bool (aM iv.i.op).rb))] 26 27 [] [(27,(.bool (aM iv.i.op).rb))] (ql 4 4 (HS.hc a6 (i:=1) rfl) rfl rfl) rfl fun _=>bW (fun f H'=> ∃(l2:List Int) (J:Option Addr) (U:Nat) (ad:Fp) (F':Fz),Fz.le hg F'/\HS (Base.of H []) F' H' [cc,ch,ad] R/\OS F' (.slice J l2.length U) l2 ad/\aD f [(1,(.pointer (some ⟨b1,0,none⟩))),(5,(.slice J l2.length U))]/\(l2=l1++if(aM iv.i.op).rb=true then [iv.i.b] else [])) (fun et=>?_) ?_)
 ·refine az 0 0 (v:=(aM iv.i.op).rb) rfl rfl rfl rfl (fun bz=>?_) (fun bz=>?_)
  ·have c5:=bz;try simp only[BS]at c5
   refine aa (wUo 4 0 [(3,.o (iI iv.i.b))] 28 31 [] [(28,(.slice E l1.length T)),(31,(iI iv.i.b))] (ql 3 2 (HS.hc a6 (i:=0) rfl) rfl rfl) rfl fun _=>aI (bm (α:=Int) (ps:=[(0,(iI iv.i.b))]) (cells:=[(iI iv.i.b)]) ([iv.i.b]:List Int) a6 rfl rfl rfl (by kernel_rfl) ⟨[(iI iv.i.b)],[],rfl,⟨rfl,by omega⟩,rfl⟩ rfl) rfl rfl ?_);rintro _ h0 hr ⟨h9,i1,rfl,g2,(d2:HS _ _ _ [_,_,Z,hr] _),_⟩;refine aI (bC (α:=Int) (q:=2) a9 d2 rfl rfl rfl (OS.sv g2 d2 (i:=3) rfl) rfl rfl rfl rfl rfl rfl rfl (by(simp only[a05,a0a,a0g];omega))) rfl rfl ?_;rintro _ h1 f4 ⟨fd,f1,rfl,g3,(ha:HS _ _ _ [_,_,f4,_] _),_⟩;refine wa (.slice fd (l1++([iv.i.b]:List Int)).length f1) rfl rfl rfl (ae 0 rfl ?_);exact et _ _ ⟨l1++([iv.i.b]:List Int),fd,f1,f4,_,fR,(HS.sub ha (a03 _ _)),g3,⟨rfl,rfl,trivial⟩,(by(rw[if_pos (by first|assumption|omega)];done))⟩
  have c5:=bz;try simp only[BS]at c5
  exact et _ _ ⟨l1,E,T,Z,_,fR,a6,a9,⟨rfl,rfl,trivial⟩,(by(rw[if_neg (by first|omega|(intro hh;simp_all;done)),a0C]))⟩
 skip;rintro ik hY ⟨l2,J,U,ad,hj,b4,ay,bb,dn,q2⟩;refine au _ dn (fun _=>?_);clear dn;replace hT:=hT.mono b4;replace A:=A.mono b4;have n2:l2.length<=2:=by rw[q2,a05];exact a1E n1 d6
 refine aj 3 rfl (wR 1 [(2,.o (iI iv.i.op)),(7,.o (iI iv.i.op))] 34 43 [] [(43,(.bool ((iv.i.op==11)||(iv.i.op==12))))] (vA (ql 3 0 (HS.hc ay (i:=0) rfl) rfl rfl) (vA (fun(g1:(iv.i.op==11)=false)=>(ql 3 0 (HS.hc ay (i:=0) rfl) rfl rfl)) trivial)) rfl fun _=>bW (fun f H'=> ∃(l3:List Int) (N:Option Addr) (V:Nat) (aw:Fp) (F':Fz),Fz.le hj F'/\HS (Base.of H []) F' H' [cc,ch,aw] R/\OS F' (.slice N l3.length V) l3 aw/\aD f [(1,(.pointer (some ⟨b1,0,none⟩))),(5,(.slice N l3.length V))]/\(l3=l2++if iv.i.op=11\/iv.i.op=12 then [iv.i.c] else [])) (fun ez=>?_) ?_)
 ·refine az 0 0 (v:=((iv.i.op==11)||(iv.i.op==12))) rfl rfl rfl rfl (fun b0=>?_) (fun b0=>?_)
  ·have c6:=b0;try simp only[BS]at c6
   refine aa (wUo 4 0 [(3,.o (iI iv.i.c))] 44 47 [] [(44,(.slice J l2.length U)),(47,(iI iv.i.c))] (ql 3 3 (HS.hc ay (i:=0) rfl) rfl rfl) rfl fun _=>aI (bm (α:=Int) (ps:=[(0,(iI iv.i.c))]) (cells:=[(iI iv.i.c)]) ([iv.i.c]:List Int) ay rfl rfl rfl (by kernel_rfl) ⟨[(iI iv.i.c)],[],rfl,⟨rfl,by omega⟩,rfl⟩ rfl) rfl rfl ?_);rintro _ h3 ht ⟨ib,i2,rfl,g4,(ea:HS _ _ _ [_,_,ad,ht] _),_⟩;refine aI (bC (α:=Int) (q:=2) bb ea rfl rfl rfl (OS.sv g4 ea (i:=3) rfl) rfl rfl rfl rfl rfl rfl rfl (by(simp only[a05,a0a,a0g];omega))) rfl rfl ?_;rintro _ h4 f5 ⟨fi,f2,rfl,g5,(hb:HS _ _ _ [_,_,f5,_] _),_⟩;refine wa (.slice fi (l2++([iv.i.c]:List Int)).length f2) rfl rfl rfl (ae 0 rfl ?_);exact ez _ _ ⟨l2++([iv.i.c]:List Int),fi,f2,f5,_,fR,(HS.sub hb (a03 _ _)),g5,⟨rfl,rfl,trivial⟩,(by(rw[if_pos (by first|assumption|omega)];done))⟩
  have c6:=b0;try simp only[BS]at c6
  exact ez _ _ ⟨l2,J,U,ad,_,fR,ay,bb,⟨rfl,rfl,trivial⟩,(by(rw[if_neg (by first|omega|(intro hh;simp_all;done)),a0C]))⟩
 skip;rintro il h2 ⟨l3,N,V,aw,hk,b5,a0,bk,ds,q3⟩;refine au _ ds (fun _=>?_);clear ds;replace hT:=hT.mono b5;replace A:=A.mono b5;have n3:l3.length<=3:=by rw[q3,a05];exact a1E n2 d6
 refine aj 3 rfl (wU 1 [(2,.o (iI iv.i.op))] 50 53 [] [(53,(.bool (iv.i.op==6)))] (ql 3 0 (HS.hc a0 (i:=0) rfl) rfl rfl) rfl fun _=>bW (fun f H'=> ∃(l4:List Int) (an:Option Addr) (av:Nat) (a4:Fp) (F':Fz),Fz.le hk F'/\HS (Base.of H []) F' H' [cc,ch,a4] R/\OS F' (.slice an l4.length av) l4 a4/\aD f [(5,(.slice an l4.length av))]/\(l4=l3++if iv.i.op=6 then iv.args else [])) (fun e0=>?_) ?_)
 ·refine az 0 0 (v:=(iv.i.op==6)) rfl rfl rfl rfl (fun b2=>?_) (fun b2=>?_)
  ·have c7:=b2;try simp only[BS]at c7
   refine aa (wUo 3 0 [(2,.o (.slice ag iv.args.length al))] 54 56 [] [(54,(.slice N l3.length V)),(56,(.slice ag iv.args.length al))] (ql 25 5 (HS.hc a0 (i:=0) rfl) rfl rfl) rfl fun _=>aI (bC (α:=Int) (q:=2) bk a0 rfl rfl rfl (SR.sv A a0) rfl rfl rfl rfl rfl rfl rfl (by omega)) rfl rfl ?_);rintro _ h6 f6 ⟨f0,f3,rfl,g6,(hf:HS _ _ _ [_,_,f6] _),_⟩;refine wa (.slice f0 (l3++iv.args).length f3) rfl rfl rfl (ae 0 rfl ?_);exact e0 _ _ ⟨l3++iv.args,f0,f3,f6,_,fR,hf,g6,⟨rfl,trivial⟩,(by(rw[if_pos (by first|assumption|omega)];done))⟩
  have c7:=b2;try simp only[BS]at c7
  exact e0 _ _ ⟨l3,N,V,aw,_,fR,a0,bk,⟨rfl,trivial⟩,(by(rw[if_neg (by first|omega|(intro hh;simp_all;done)),a0C]))⟩
 skip;rintro it h5 ⟨l4,an,av,a4,hK,c9,he,e3,dt,q4⟩;refine au _ dt (fun _=>?_);clear dt;have n4:l4.length<=1048579:=by rw[q4,a05];(have hq:(if iv.i.op=6 then iv.args else []).length<=iv.args.length:=by split<;>first|exact a09 _|exact a0M _);omega
 refine aj 2 rfl (aa (wm (.slice an l4.length av) rfl rfl rfl ?_));obtain⟨hM,dd,a7,g7,hG⟩:=OS.frz e3 he (i:=2) rfl;have a7:HS _ _ _ [_,_,_] _:=a7;replace hT:=(hT.mono c9).mono dd;refine aA (am rfl rfl rfl) rfl rfl (unique_c ex l4 (HS.call a7) g7 hT (by omega)) ?_;rintro _ h7 ⟨co,e2,i3,f7,hQ,f9,b7,rfl,e6,rfl⟩;replace b7:HS _ _ _ [_,_,_,f7] _:=HS.back a7 rfl b7;refine wa (.slice co (cF [] l4).length e2) rfl rfl rfl (ae 1 rfl (aq ⟨.inr rfl,_,rfl,co,e2,cF [] l4,f7,_,(fT (fT (fT (fT (fT (fT (dk) b3) b4) b5) c9) dd) f9),(HS.only b7 (i:=3) rfl),rfl,e6,(reads_yes (by assumption) (by simp only[q4,q3,q2,q1,ia,a0k]))⟩))
set_option maxHeartbeats 1000000 in
theorem kI{ad:Option Addr}{ag:Nat}(iv:VInT)(hs:HS (.of H []) F H [] R)(g5:in64 iv.i.op)(g6:in64 iv.i.a)(g7:in64 iv.i.b)(g8:in64 iv.i.c)(g9:in64 iv.i.n)(A:SR F (.slice ad iv.args.length ag) iv.args)(hT:TB 37 tabC F)(hlen:iv.args.length<=1048576):kKt ex 58 [(.agg ⟨[(iI iv.i.op),(iI iv.i.a),(iI iv.i.b),(iI iv.i.c),(iI iv.i.n),(.slice ad iv.args.length ag)]⟩)] H fun v H'=> ∃(ar:Option Addr) (kr:Nat) (r:List Int) (F':Fz),Fz.le F F'/\HS (.of H []) F' H' [] R/\v= .slice ar r.length kr/\SR F' (.slice ar r.length kr) r/\r=aF iv:=by
 refine aH Tryd.func58 rfl rfl (aj 1 rfl (aa (aI (bg hs rfl rfl) rfl rfl ?_)));rintro _ H2 _ ⟨b1,rfl,(a3:HS _ _ _ [[(b1,.cells [(iI iv.i.op),(iI iv.i.a),(iI iv.i.b),(iI iv.i.c),(iI iv.i.n),(.slice ad iv.args.length ag)] none false)]] _),_⟩;refine wa (.slice none 0 0) rfl rfl rfl (ae 2 rfl (wT 3 [] 1 0 [3] [(3,(.slice none 0 0))] rfl fun _=>wR 1 [(2,.o (iI iv.i.op)),(3,.o (.bool (alV iv.i.op)))] 6 10 [] [(10,(.bool (!(alV iv.i.op))))] (vA (ql 3 0 (HS.hc a3 (i:=0) rfl) rfl rfl) (vA (m1.ralw_c_q ex iv.i.op H2) trivial)) rfl fun _=>az 1 2 (v:=(!(alV iv.i.op))) rfl rfl rfl rfl (fun c9=>?_) (fun c9=>?_)))
 ·have c5:=c9;try simp only[BS]at c5
  refine wT 1 [] 2 2 [11] [(2,(.slice none 0 0))] rfl fun _=>aq ⟨.inr rfl,_,rfl,none,0,([]:List Int),_,fR,(HS.forget a3),rfl,(SR.nil:SR F (.slice none 0 0) ([]:List Int)),(reads_no (by assumption))⟩
 have c5:=c9;try simp only[BS]at c5
 have hal:alV iv.i.op=true:=by assumption
 refine aa (wUo 3 0 [(2,.o (iI iv.i.op))] 12 14 [] [(14,(iI iv.i.op))] (ql 3 0 (HS.hc a3 (i:=0) rfl) rfl rfl) rfl fun _=>aA (am rfl rfl rfl) rfl rfl (m3.rinfo_c ex iv.i.op (HS.call a3) (by omega) hT) ?_);rintro _ H8 ⟨x8,F8,dd,dt,rfl,g2,g3,rfl⟩;replace dt:HS _ _ _ [_] _:=HS.back a3 rfl dt;replace hT:=hT.mono dd;replace A:=A.mono dd;refine aI (bD dt rfl) rfl rfl ?_;rintro _ hp _ ⟨b9,rfl,(f2:HS _ _ _ [_,[(b9,.cells [(.string ⟨⟨[]⟩⟩),(iI 0),(.bool false),(.bool false),(.bool false),(.bool false),(iI 0)] none false)]] _),_⟩;refine aT (aK (q:=1) f2 rfl rfl rfl rfl rfl rfl rfl rfl rfl) rfl ?_;rintro _ hq _ ⟨(av:HS _ _ _ [_,[(b9,.cells [(.string ⟨⟨(aJ iv.i.op).name.b⟩⟩),(iI (aJ iv.i.op).form),(.bool (aJ iv.i.op).ra),(.bool (aJ iv.i.op).wa),(.bool (aJ iv.i.op).rb),(.bool (aJ iv.i.op).mt),(iI (aJ iv.i.op).words)] none false)]] _),_⟩;let b6:Fp:=[(b1,.cells [(iI iv.i.op),(iI iv.i.a),(iI iv.i.b),(iI iv.i.c),(iI iv.i.n),(.slice ad iv.args.length ag)] none false)]
 let b7:Fp:=[(b9,.cells [(.string ⟨⟨(aJ iv.i.op).name.b⟩⟩),(iI (aJ iv.i.op).form),(.bool (aJ iv.i.op).ra),(.bool (aJ iv.i.op).wa),(.bool (aJ iv.i.op).rb),(.bool (aJ iv.i.op).mt),(iI (aJ iv.i.op).words)] none false)]
 refine ae 3 rfl (wU 1 [(1,.o (.bool (aJ iv.i.op).ra))] 16 17 [] [(17,(.bool (aJ iv.i.op).ra))] (ql 4 2 (HS.hc av (i:=1) rfl) rfl rfl) rfl fun _=>bW (fun f H'=> ∃(l1:List Int) (T:Option Addr) (V:Nat) (F':Fz),Fz.le F8 F'/\HS (Base.of H []) F' H' [b6,b7] R/\SR F' (.slice T l1.length V) l1/\aD f [(1,(.pointer (some ⟨b1,0,none⟩))),(3,(.slice T l1.length V)),(4,(.pointer (some ⟨b9,0,none⟩)))]/\(l1=cF [] (if(aM iv.i.op).ra=true then [iv.i.a] else []))) (fun d1=>?_) ?_)
 ·refine az 0 0 (v:=(aJ iv.i.op).ra) rfl rfl rfl rfl (fun a7=>?_) (fun a7=>?_)
  ·have c4:=a7;try simp only[BS]at c4
   refine aa (wUo 4 0 [(3,.o (iI iv.i.a))] 18 21 [] [(18,(.slice none 0 0)),(21,(iI iv.i.a))] (ql 3 1 (HS.hc av (i:=0) rfl) rfl rfl) rfl fun _=>aA (am rfl rfl rfl) rfl rfl (m6.cZ ex ([]:List Int) iv.i.a (HS.call av) (SR.nil:SR F8 (.slice none 0 0) ([]:List Int)) (by omega) hT (by(simp<;>omega))) ?_);rintro _ ht ⟨ch,em,hH,hj,fd,b0,rfl,e1,rfl⟩;replace b0:HS _ _ _ [_,_] _:=HS.back av rfl b0;refine wa (.slice ch (de ([]:List Int) iv.i.a).length em) rfl rfl rfl (ae 0 rfl ?_);exact d1 _ _ ⟨de ([]:List Int) iv.i.a,ch,em,_,(fd),b0,e1,⟨rfl,rfl,rfl,trivial⟩,(rrT (by rw[←vra];assumption))⟩
  have c4:=a7;try simp only[BS]at c4
  exact d1 _ _ ⟨([]:List Int),none,0,_,fR,av,(SR.nil:SR F8 (.slice none 0 0) ([]:List Int)),⟨rfl,rfl,rfl,trivial⟩,(rrF (by rw[←vra];simp_all))⟩
 skip;rintro hC hr ⟨l1,T,V,f8,bk,aw,a4,dk,q1⟩;refine au _ dk (fun _=>?_);clear dk;replace hT:=hT.mono bk;replace A:=A.mono bk;have n1:=rr_len1 q1;refine aj 3 rfl (wU 1 [(1,.o (.bool (aJ iv.i.op).rb))] 23 24 [] [(24,(.bool (aJ iv.i.op).rb))] (ql 4 4 (HS.hc aw (i:=1) rfl) rfl rfl) rfl fun _=>bW (fun f H'=> ∃(l2:List Int) (U:Option Addr) (Z:Nat) (F':Fz),Fz.le f8 F'/\HS (Base.of H []) F' H' [b6,b7] R/\SR F' (.slice U l2.length Z) l2/\aD f [(1,(.pointer (some ⟨b1,0,none⟩))),(3,(.slice U l2.length Z)),(4,(.pointer (some ⟨b9,0,none⟩)))]/\(l2=cF l1 (if(aM iv.i.op).rb=true then [iv.i.b] else []))) (fun d2=>?_) ?_)
 ·refine az 0 0 (v:=(aJ iv.i.op).rb) rfl rfl rfl rfl (fun a8=>?_) (fun a8=>?_)
  ·have c6:=a8;try simp only[BS]at c6
   refine aa (wUo 4 0 [(3,.o (iI iv.i.b))] 25 28 [] [(25,(.slice T l1.length V)),(28,(iI iv.i.b))] (ql 3 2 (HS.hc aw (i:=0) rfl) rfl rfl) rfl fun _=>aA (am rfl rfl rfl) rfl rfl (m6.cZ ex l1 iv.i.b (HS.call aw) a4 (by omega) hT (by omega)) ?_);rintro _ hv ⟨ci,es,hI,hk,fi,b2,rfl,e2,rfl⟩;replace b2:HS _ _ _ [_,_] _:=HS.back aw rfl b2;refine wa (.slice ci (de l1 iv.i.b).length es) rfl rfl rfl (ae 0 rfl ?_);exact d2 _ _ ⟨de l1 iv.i.b,ci,es,_,(fi),b2,e2,⟨rfl,rfl,rfl,trivial⟩,(rrT (by rw[←vrb];assumption))⟩
  have c6:=a8;try simp only[BS]at c6
  exact d2 _ _ ⟨l1,T,V,_,fR,aw,a4,⟨rfl,rfl,rfl,trivial⟩,(rrF (by rw[←vrb];simp_all))⟩
 skip;rintro hD hu ⟨l2,U,Z,f9,bl,ax,a5,dl,q2⟩;refine au _ dl (fun _=>?_);clear dl;replace hT:=hT.mono bl;replace A:=A.mono bl;have n2:=rr_len2 n1 q2;refine aj 3 rfl (wU 1 [(1,.o (iI (aJ iv.i.op).form))] 30 32 [] [(32,(.bool ((aJ iv.i.op).form==4)))] (ql 3 1 (HS.hc ax (i:=1) rfl) rfl rfl) rfl fun _=>bW (fun f H'=> ∃(l3:List Int) (al:Option Addr) (an:Nat) (F':Fz),Fz.le f9 F'/\HS (Base.of H []) F' H' [b6,b7] R/\SR F' (.slice al l3.length an) l3/\aD f [(1,(.pointer (some ⟨b1,0,none⟩))),(3,(.slice al l3.length an))]/\(l3=cF l2 (if iv.i.op=11\/iv.i.op=12 then [iv.i.c] else []))) (fun ea=>?_) ?_)
 ·refine az 0 0 (v:=((aJ iv.i.op).form==4)) rfl rfl rfl rfl (fun a9=>?_) (fun a9=>?_)
  ·have c7:=a9;try simp only[BS]at c7
   refine aa (wUo 4 0 [(3,.o (iI iv.i.c))] 33 36 [] [(33,(.slice U l2.length Z)),(36,(iI iv.i.c))] (ql 3 3 (HS.hc ax (i:=0) rfl) rfl rfl) rfl fun _=>aA (am rfl rfl rfl) rfl rfl (m6.cZ ex l2 iv.i.c (HS.call ax) a5 (by omega) hT (by omega)) ?_);rintro _ hz ⟨co,et,hK,hl,f0,b3,rfl,e3,rfl⟩;replace b3:HS _ _ _ [_,_] _:=HS.back ax rfl b3;refine wa (.slice co (de l2 iv.i.c).length et) rfl rfl rfl (ae 0 rfl ?_);exact ea _ _ ⟨de l2 iv.i.c,co,et,_,(f0),b3,e3,⟨rfl,rfl,trivial⟩,(rrT ((vf4 hal).1 (by assumption)))⟩
  have c7:=a9;try simp only[BS]at c7
  exact ea _ _ ⟨l2,U,Z,_,fR,ax,a5,⟨rfl,rfl,trivial⟩,(rrF (fun hh=>absurd ((vf4 hal).2 hh) (by omega)))⟩
 skip;rintro hE hw ⟨l3,al,an,go,bz,f3,e0,dn,q3⟩;refine au _ dn (fun _=>?_);clear dn;refine aj 3 rfl (wT 2 [] 1 0 [5] [(5,(iI 0))] rfl fun _=>ak (fun(mm:Nat) f H'=> ∃(l4:List Int) (k:Nat) (E:Option Addr) (J:Nat) (F':Fz),Fz.le go F'/\HS (Base.of H []) F' H' [b6,b7] R/\SR F' (.slice E l4.length J) l4/\aD f [(1,(.pointer (some ⟨b1,0,none⟩))),(3,(.slice E l4.length J)),(5,(iI (k:Int)))]/\mm=iv.args.length-k/\(l4=cF l3 (iv.args.take k))/\(k<=iv.args.length)/\(k=0\/iv.i.op=6)) _ ⟨l3,0,al,an,_,fR,f3,e0,⟨rfl,rfl,rfl,trivial⟩,rfl,(by rfl),(by omega),(by omega)⟩ ?_);rintro he hF hA ⟨l4,k,E,J,hm,a2,N,a6,ds,rfl,q4,q5,q6⟩ f4;refine au _ ds (fun _=>?_);clear ds;replace hT:=(hT.mono bz).mono a2;replace A:=(A.mono bz).mono a2;have n4:=rr_len q1 q2 q3 q4;refine aj 2 rfl (wR 1 [(2,.o (.slice ad iv.args.length ag)),(8,.o (iI iv.i.op))] 38 48 [] [(48,(.bool ((decide ((k:Int)<(iv.args.length:Int)))&&(iv.i.op==6))))] (vA (ql 25 5 (HS.hc N (i:=0) rfl) rfl rfl) (vA (fun(g1:(decide ((k:Int)<(iv.args.length:Int)))=true)=>(ql 3 0 (HS.hc N (i:=0) rfl) rfl rfl)) trivial)) rfl fun _=>az 3 5 (v:=((decide ((k:Int)<(iv.args.length:Int)))&&(iv.i.op==6))) rfl rfl rfl rfl (fun bb=>?_) (fun bb=>?_))
 ·have c8:=bb;try simp only[BS]at c8
  refine aa ?_;obtain⟨hb,dv⟩:=Sv.view (SR.sv A N);have hG:=fI (dv k);refine wRo 6 0 [(2,.o (.slice ad iv.args.length ag)),(5,.o (iI (iv.args.getD k 0)))] 51 56 [] [(51,(.slice E l4.length J)),(56,(iI (iv.args.getD k 0)))] (vA (ql 25 5 (HS.hc N (i:=0) rfl) rfl rfl) (vA (Sv.ix (j:=(k:Int)) (SR.sv A N) (by omega) (by omega)) (vA (ql 3 0 (vI (dv k) (by omega)) rfl rfl) trivial))) rfl fun _=>aA (am rfl rfl rfl) rfl rfl (m6.cZ ex l4 (iv.args.getD k 0) (HS.call N) a6 (by omega) hT (by omega)) ?_
  rintro _ hB ⟨c0,ez,hM,hn,f1,b4,rfl,e4,rfl⟩;replace b4:HS _ _ _ [_,_] _:=HS.back N rfl b4;refine wa (.slice c0 (de l4 (iv.args.getD k 0)).length ez) rfl rfl rfl (ae 2 rfl (wU 1 [] 49 50 [5] [(5,(iI ((k:Int)+1)))] (vi (n:=(k:Int)+1) (by omega)) rfl fun _=>f4 _ _ _ ?_ ⟨de l4 (iv.args.getD k 0),k+1,c0,ez,_,(fT (a2) f1),b4,e4,⟨rfl,rfl,rfl,trivial⟩,rfl,(iG (by omega) q4),(by omega),(by omega)⟩));omega
 have c8:=bb;try simp only[BS]at c8
 refine wT 1 [] 2 2 [58] [(2,(.slice E l4.length J))] rfl fun _=>aq ⟨.inr rfl,_,rfl,E,J,l4,_,(fT (fT (fT (fT (dd) bk) bl) bz) a2),(HS.forget N),rfl,a6,(rr_end (by assumption) q1 q2 q3 q4 q6 (by omega))⟩
set_option maxHeartbeats 1000000 in
theorem iY{E:Option Addr}{J:Nat}(iv:VInT)(hs:HS (.of H []) F H [] R)(a3:in64 iv.i.op)(a4:in64 iv.i.a)(a5:in64 iv.i.b)(a6:in64 iv.i.c)(a7:in64 iv.i.n)(a8:SR F (.slice E iv.args.length J) iv.args)(hT:TB 37 tabC F):kKt ex 52 [(.agg ⟨[(iI iv.i.op),(iI iv.i.a),(iI iv.i.b),(iI iv.i.c),(iI iv.i.n),(.slice E iv.args.length J)]⟩)] H fun v H'=> ∃(ar:Option Addr) (kr:Nat) (r:List Int) (p:Fp) (F':Fz),Fz.le F F'/\HS (.of H []) F' H' [p] R/\v= .slice ar r.length kr/\OS F' (.slice ar r.length kr) r p/\r=ab iv:=by
 refine aH Tryd.func52 rfl rfl (aj 1 rfl (aa (aI (bg hs rfl rfl) rfl rfl ?_)));rintro _ H2 _ ⟨b1,rfl,(N:HS _ _ _ [[(b1,.cells [(iI iv.i.op),(iI iv.i.a),(iI iv.i.b),(iI iv.i.c),(iI iv.i.n),(.slice E iv.args.length J)] none false)]] _),_⟩;refine wa (.slice none 0 0) rfl rfl rfl (ae 3 rfl (wR 1 [(2,.o (iI iv.i.op)),(3,.o (.bool (alV iv.i.op)))] 5 9 [] [(9,(.bool (!(alV iv.i.op))))] (vA (ql 3 0 (HS.hc N (i:=0) rfl) rfl rfl) (vA (m1.kB ex iv.i.op H2) trivial)) rfl fun _=>az 1 2 (v:=(!(alV iv.i.op))) rfl rfl rfl rfl (fun V=>?_) (fun V=>?_)))
 ·have c4:=V;try simp only[BS]at c4
  refine wT 1 [] 2 2 [] [(2,(.slice none 0 0))] rfl fun _=>aq ⟨.inr rfl,_,rfl,none,0,([]:List Int),[],_,fR,(HS.cons (HS.forget N)),rfl,(OS.nil:OS _ _ _ []),(writes_no (by assumption))⟩
 have c4:=V;try simp only[BS]at c4
 refine aa (wUo 3 0 [(2,.o (iI iv.i.op))] 11 13 [] [(13,(iI iv.i.op))] (ql 3 0 (HS.hc N (i:=0) rfl) rfl rfl) rfl fun _=>aA (am rfl rfl rfl) rfl rfl (m1.mInfo_c ex iv.i.op (HS.call N) (by omega) hT) ?_);rintro _ H7 ⟨x7,o7,F7,ag,Z,rfl,a1,a2,rfl,rfl⟩;replace Z:HS _ _ _ [_] _:=HS.back N rfl Z;refine wTo 3 4 [] 15 16 [10] [(15,(.agg ⟨[(.string ⟨⟨(aM iv.i.op).name.b⟩⟩),(iI (aM iv.i.op).form),(.bool (aM iv.i.op).ra),(.bool (aM iv.i.op).wa),(.bool (aM iv.i.op).rb),(.bool (aM iv.i.op).mt),(iI (aM iv.i.op).words)]⟩)),(16,(.bool (infO iv.i.op)))] rfl fun _=>aI (bD Z rfl) rfl rfl ?_
 rintro _ bl _ ⟨b9,rfl,(ax:HS _ _ _ [_,[(b9,.cells [(.string ⟨⟨[]⟩⟩),(iI 0),(.bool false),(.bool false),(.bool false),(.bool false),(iI 0)] none false)]] _),_⟩;refine aT (aK (q:=1) ax rfl rfl rfl rfl rfl rfl rfl rfl rfl) rfl ?_;rintro _ bz _ ⟨(A:HS _ _ _ [_,[(b9,.cells [(.string ⟨⟨(aM iv.i.op).name.b⟩⟩),(iI (aM iv.i.op).form),(.bool (aM iv.i.op).ra),(.bool (aM iv.i.op).wa),(.bool (aM iv.i.op).rb),(.bool (aM iv.i.op).mt),(iI (aM iv.i.op).words)] none false)]] _),_⟩;refine wa (.bool (infO iv.i.op)) rfl rfl rfl (ae 3 rfl (wR 1 [(1,.o (.bool (aM iv.i.op).wa)),(5,.o (iI iv.i.op)),(11,.o (iI iv.i.op))] 17 30 [] [(30,(.bool (((aM iv.i.op).wa||(iv.i.op==6))||(iv.i.op==38))))] (vA (ql 4 3 (HS.hc A (i:=1) rfl) rfl rfl) (vA (fun(g1:(aM iv.i.op).wa=false)=>(ql 3 0 (HS.hc A (i:=0) rfl) rfl rfl)) (vA (fun(g1:((aM iv.i.op).wa||(iv.i.op==6))=false)=>(ql 3 0 (HS.hc A (i:=0) rfl) rfl rfl)) trivial))) rfl fun _=>az 1 2 (v:=(((aM iv.i.op).wa||(iv.i.op==6))||(iv.i.op==38))) rfl rfl rfl rfl (fun T=>?_) (fun T=>?_)))
 ·have U:=T;try simp only[BS]at U
  refine aa (wUo 3 0 [(2,.o (iI iv.i.a))] 31 33 [] [(33,(iI iv.i.a))] (ql 3 1 (HS.hc A (i:=0) rfl) rfl rfl) rfl fun _=>aI (bm (α:=Int) (ps:=[(0,(iI iv.i.a))]) (cells:=[(iI iv.i.a)]) ([iv.i.a]:List Int) A rfl rfl rfl (by kernel_rfl) ⟨[(iI iv.i.a)],[],rfl,⟨rfl,by omega⟩,rfl⟩ rfl) rfl rfl ?_);rintro _ b0 an ⟨ad,al,rfl,aw,(ay:HS _ _ _ [_,_,an] _),_⟩;refine wa (.slice ad ([iv.i.a]:List Int).length al) rfl rfl rfl (ae 1 rfl (aq ⟨.inr rfl,_,rfl,ad,al,([iv.i.a]:List Int),an,_,(ag),(HS.only ay (i:=2) rfl),rfl,aw,(jN (by assumption) (or_assoc.1 (by assumption)))⟩))
 have U:=T;try simp only[BS]at U
 refine wT 1 [] 2 2 [] [(2,(.slice none 0 0))] rfl fun _=>aq ⟨.inr rfl,_,rfl,none,0,([]:List Int),[],_,(ag),(HS.cons (HS.forget A)),rfl,(OS.nil:OS _ _ _ []),(writes_not (by simp_all))⟩
set_option maxHeartbeats 1000000 in
theorem i9{J:Option Addr}{N:Nat}(iv:VInT)(hs:HS (.of H []) F H [] R)(a5:in64 iv.i.op)(a6:in64 iv.i.a)(a7:in64 iv.i.b)(a8:in64 iv.i.c)(a9:in64 iv.i.n)(bb:SR F (.slice J iv.args.length N) iv.args)(hT:TB 37 tabC F):kKt ex 54 [(.agg ⟨[(iI iv.i.op),(iI iv.i.a),(iI iv.i.b),(iI iv.i.c),(iI iv.i.n),(.slice J iv.args.length N)]⟩)] H fun v H'=> ∃(ar:Option Addr) (kr:Nat) (r:List Int) (p:Fp) (F':Fz),Fz.le F F'/\HS (.of H []) F' H' [p] R/\v= .slice ar r.length kr/\OS F' (.slice ar r.length kr) r p/\r=ab iv:=by
 refine aH Tryd.func54 rfl rfl (aj 1 rfl (aa (aI (bg hs rfl rfl) rfl rfl ?_)));rintro _ H2 _ ⟨T,rfl,(V:HS _ _ _ [[(T,.cells [(iI iv.i.op),(iI iv.i.a),(iI iv.i.b),(iI iv.i.c),(iI iv.i.n),(.slice J iv.args.length N)] none false)]] _),_⟩;refine wa (.slice none 0 0) rfl rfl rfl (ae 3 rfl (wk_rcut 3 19 [] [(19,(.bool (alV iv.i.op&&((aJ iv.i.op).wa||(iv.i.op==6)))))] (fun H'=> ∃F',Fz.le F F'/\HS (Base.of H []) F' H' [[(T,.cells [(iI iv.i.op),(iI iv.i.a),(iI iv.i.b),(iI iv.i.c),(iI iv.i.n),(.slice J iv.args.length N)] none false)]] R) ?_ ?_))
 ·refine aa (bt (v:=(.pointer (some ⟨T,0,none⟩))) (bH rfl rfl) rfl rfl (bt (v:=(.pointer (some ⟨T,0,none⟩))) (bH rfl rfl) rfl rfl (bt (v:=(iI iv.i.op)) (aR (i:=0) rfl rfl (HS.hc V (i:=0) rfl) rfl rfl) rfl rfl (aA (am rfl rfl rfl) rfl rfl (m1.ralw_c ex iv.i.op _) ?_))));rintro _ H2 ⟨r6,rfl,rfl,rfl⟩;refine wm (.bool (alV iv.i.op)) rfl rfl rfl (wo_gsT (v:=(alV iv.i.op)) rfl rfl (fun A=>?_) (fun A=>?_))
  ·have al:=A;try simp only[BS]at al
   refine bt (v:=(.pointer (some ⟨T,0,none⟩))) (bH rfl rfl) rfl rfl (eD rfl A (bt (v:=(.pointer (some ⟨T,0,none⟩))) (bH rfl rfl) rfl rfl (eD rfl A (bt (v:=(iI iv.i.op)) (aR (i:=0) rfl rfl (HS.hc V (i:=0) rfl) rfl rfl) rfl rfl (eD rfl A (aA (am rfl rfl rfl) rfl rfl (m3.rinfo_c ex iv.i.op (HS.call V) (by omega) hT) ?_))))));rintro _ H8 ⟨x8,F8,ax,Z,rfl,a3,a4,rfl⟩;replace Z:HS _ _ _ [_] _:=HS.back V rfl Z;refine eD rfl A (bt (v:=(.bool (aJ iv.i.op).wa)) (ap_fv rfl rfl) rfl rfl (eD rfl A (wm (.bool (aJ iv.i.op).wa) rfl rfl rfl (wo_gsF (v:=(aJ iv.i.op).wa) rfl rfl (fun E=>?_) (fun E=>?_)))))
   ·have an:=E;try simp only[BS]at an
    refine bt (v:=(.pointer (some ⟨T,0,none⟩))) (bH rfl rfl) rfl rfl (eD rfl E (bt (v:=(.pointer (some ⟨T,0,none⟩))) (bH rfl rfl) rfl rfl (eD rfl E (bt (v:=(iI iv.i.op)) (aR (i:=0) rfl rfl (HS.hc Z (i:=0) rfl) rfl rfl) rfl rfl (eD rfl E (bt (v:=(.bool (iv.i.op==6))) (ap_cmp rfl rfl rfl rfl) rfl rfl (eD rfl A (bt (v:=(.bool (iv.i.op==6))) (iU rfl E rfl) rfl rfl (bt (v:=(.bool (iv.i.op==6))) (fy rfl A rfl) rfl rfl (fC ?_))))))))));exact bc ⟨rfl,⟨_,(fT fR ax),HS.sub Z (List.Sublist.refl _)⟩,(Lu rfl (Lu rfl (Lu rfl (Lu rfl (Lu rfl (Lu rfl (Lu rfl (Lu rfl (Lu rfl (Lu rfl (Lu rfl (Lu rfl (Lu rfl (Lu rfl (Lu rfl (Lu rfl (Lu rfl Lr))))))))))))))))),(agC (congrArg Value.bool (show(iv.i.op==6)=(alV iv.i.op&&((aJ iv.i.op).wa||(iv.i.op==6))) by simp only[↓A,↓E,BT])) agN)⟩
   have an:=E;try simp only[BS]at an
   refine wo_gf0 rfl E rfl (wo_gf0 rfl E rfl (wo_gf0 rfl E rfl (eD rfl A (bt (v:=(.bool true)) (fy rfl E rfl) rfl rfl (bt (v:=(.bool true)) (fy rfl A rfl) rfl rfl (fC ?_))))));exact bc ⟨rfl,⟨_,(fT fR ax),HS.sub Z (List.Sublist.refl _)⟩,(Lu rfl (Lu rfl (Lu rfl (Lu rfl (Lu rfl (Lu rfl (Lu rfl (Lu rfl (Lu rfl (Lu rfl (Lu rfl (Lu rfl (Lu rfl (Lu rfl (Lu rfl (Lu rfl (Lu rfl Lr))))))))))))))))),(agC (congrArg Value.bool (show true=(alV iv.i.op&&((aJ iv.i.op).wa||(iv.i.op==6))) by simp only[↓A,↓E,BT])) agN)⟩
  have al:=A;try simp only[BS]at al
  refine fD rfl A rfl (fD rfl A rfl (fD rfl A rfl (fD rfl A rfl (fD rfl A rfl (wo_gn rfl rfl (wo_gn rfl rfl (wo_gn rfl rfl (wo_gn rfl rfl (fD rfl A rfl (bt (v:=(.bool false)) (iU rfl A rfl) rfl rfl (fC ?_)))))))))));exact bc ⟨rfl,⟨_,fR,HS.sub V (List.Sublist.refl _)⟩,(Lu rfl (Lu rfl (Lu rfl (Lu rfl (Lu rfl (Lu rfl (Lu rfl (Lu rfl (Lu rfl (Lu rfl (Lu rfl (Lu rfl (Lu rfl (Lu rfl (Lu rfl (Lu rfl (Lu rfl Lr))))))))))))))))),(agC (congrArg Value.bool (show false=(alV iv.i.op&&((aJ iv.i.op).wa||(iv.i.op==6))) by simp only[↓A,BT])) agN)⟩
 skip;rintro g5 H5 ⟨F5,aw,ag⟩;refine aj 1 rfl (az 1 2 (v:=(alV iv.i.op&&((aJ iv.i.op).wa||(iv.i.op==6)))) rfl rfl rfl rfl (fun ad=>?_) (fun ad=>?_))
 ·have U:=ad;try simp only[BS]at U
  have hq:=U;refine aa (wUo 3 0 [(2,.o (iI iv.i.a))] 20 22 [] [(22,(iI iv.i.a))] (ql 3 1 (HS.hc ag (i:=0) rfl) rfl rfl) rfl fun _=>aI (bm (α:=Int) (ps:=[(0,(iI iv.i.a))]) (cells:=[(iI iv.i.a)]) ([iv.i.a]:List Int) ag rfl rfl rfl (by kernel_rfl) ⟨[(iI iv.i.a)],[],rfl,⟨rfl,by omega⟩,rfl⟩ rfl) rfl rfl ?_);rintro _ bl a0 ⟨av,ay,rfl,a1,(a2:HS _ _ _ [_,a0] _),_⟩;refine wa (.slice av ([iv.i.a]:List Int).length ay) rfl rfl rfl (ae 1 rfl (aq ⟨.inr rfl,_,rfl,av,ay,([iv.i.a]:List Int),a0,_,(aw),(HS.only a2 (i:=1) rfl),rfl,a1,(rwr_yes hq)⟩))
 have U:=ad;try simp only[BS]at U
 have hq:=U;refine wT 1 [] 2 2 [] [(2,(.slice none 0 0))] rfl fun _=>aq ⟨.inr rfl,_,rfl,none,0,([]:List Int),[],_,(aw),(HS.cons (HS.forget ag)),rfl,(OS.nil:OS _ _ _ []),(rwr_no hq)⟩
theorem vsucc_c{J:Option Addr}{U:Nat}(b:BlkT)(hs:HS (.of H []) F H [] R)(bb:SR F (.slice J b.ins.length U) b.ins)(bk:in64 b.fin)(bl:in64 b.reg)(bz:in64 b.tgt)(b0:in64 b.els)(hT:TB 37 tabC F):kKt ex 133 [(.agg ⟨[(.slice J b.ins.length U),(iI b.fin),(iI b.reg),(iI b.tgt),(iI b.els)]⟩)] H fun v H'=> ∃(ar:Option Addr) (kr:Nat) (r:List Int) (p:Fp) (F':Fz),Fz.le F F'/\HS (.of H []) F' H' [p] R/\v= .slice ar r.length kr/\OS F' (.slice ar r.length kr) r p/\r=aZ b:=by
 refine aH Tryd.func133 rfl rfl (aj 1 rfl (aa (aI (bg hs rfl rfl) rfl rfl ?_)));rintro _ H2 _ ⟨b1,rfl,(A:HS _ _ _ [[(b1,.cells [(.slice J b.ins.length U),(iI b.fin),(iI b.reg),(iI b.tgt),(iI b.els)] none false)]] _),_⟩;refine wa (.slice none 0 0) rfl rfl rfl (ae 3 rfl (wU 3 [(1,.o (iI b.fin))] 3 4 [] [(4,(iI b.fin))] (ql 3 1 (HS.hc A (i:=0) rfl) rfl rfl) rfl fun _=>wT 1 [] 5 6 [] [(5,(.bool (b.fin==1)))] rfl fun _=>az 1 1 (v:=(b.fin==1)) rfl rfl rfl rfl (fun ad=>?_) (fun ad=>?_)))
 ·have c5:=ad;try simp only[BS]at c5
  refine aa (wUo 2 0 [(1,.o (iI b.tgt))] 7 8 [] [(8,(iI b.tgt))] (ql 3 3 (HS.hc A (i:=0) rfl) rfl rfl) rfl fun _=>aI (bm (α:=Int) (ps:=[(0,(iI b.tgt))]) (cells:=[(iI b.tgt)]) ([b.tgt]:List Int) A rfl rfl rfl (by kernel_rfl) ⟨[(iI b.tgt)],[],rfl,⟨rfl,by omega⟩,rfl⟩ rfl) rfl rfl ?_);rintro _ H8 p7 ⟨a7,k7,rfl,a3,(a4:HS _ _ _ [_,p7] _),_⟩;refine wa (.slice a7 ([b.tgt]:List Int).length k7) rfl rfl rfl (ae 1 rfl (aq ⟨.inr rfl,_,rfl,a7,k7,([b.tgt]:List Int),p7,_,fR,(HS.only a4 (i:=1) rfl),rfl,a3,(succ1 (by assumption))⟩))
 have c5:=ad;try simp only[BS]at c5
 refine wT 1 [] 10 11 [] [(10,(.bool (b.fin==2)))] rfl fun _=>az 1 3 (v:=(b.fin==2)) rfl rfl rfl rfl (fun N=>?_) (fun N=>?_)
 ·have Z:=N;try simp only[BS]at Z
  refine aa (wRo 4 0 [(1,.o (iI b.tgt)),(3,.o (iI b.els))] 12 15 [] [(13,(iI b.tgt)),(15,(iI b.els))] (vA (ql 3 3 (HS.hc A (i:=0) rfl) rfl rfl) (vA (ql 3 4 (HS.hc A (i:=0) rfl) rfl rfl) trivial)) rfl fun _=>aI (bm (α:=Int) (ps:=[(0,(iI b.tgt)),(1,(iI b.els))]) (cells:=[(iI b.tgt),(iI b.els)]) ([b.tgt,b.els]:List Int) A rfl rfl rfl (by kernel_rfl) ⟨[(iI b.tgt)],[(iI b.els)],rfl,⟨rfl,by omega⟩,⟨[(iI b.els)],[],rfl,⟨rfl,by omega⟩,rfl⟩⟩ rfl) rfl rfl ?_);rintro _ b5 a6 ⟨b7,b9,rfl,ay,(a1:HS _ _ _ [_,a6] _),_⟩;obtain⟨b3,ag,E,a0,b2⟩:=OS.frz ay a1 (i:=1) rfl;have E:HS _ _ _ [_,[]] _:=E;replace hT:=hT.mono ag;refine aA (am rfl rfl rfl) rfl rfl (unique_c ex ([b.tgt,b.els]:List Int) (HS.call E) a0 hT (by simp)) ?_;rintro _ b6 ⟨V,al,cc,av,b4,ax,T,rfl,an,rfl⟩;replace T:HS _ _ _ [_,_,av] _:=HS.back E rfl T;refine wa (.slice V (cF [] ([b.tgt,b.els]:List Int)).length al) rfl rfl rfl (ae 1 rfl (aq ⟨.inr rfl,_,rfl,V,al,cF [] ([b.tgt,b.els]:List Int),av,_,(fT (ag) ax),(HS.only T (i:=2) rfl),rfl,an,(succ2 (by assumption)).symm⟩))
 have Z:=N;try simp only[BS]at Z
 refine wT 1 [] 2 2 [] [(2,(.slice none 0 0))] rfl fun _=>aq ⟨.inr rfl,_,rfl,none,0,([]:List Int),[],_,fR,(HS.cons (HS.forget A)),rfl,(OS.nil:OS _ _ _ []),(succ0 (by omega))⟩
theorem rsucc_c{J:Option Addr}{U:Nat}(b:BlkT)(hs:HS (.of H []) F H [] R)(bk:SR F (.slice J b.ins.length U) b.ins)(bl:in64 b.fin)(bz:in64 b.reg)(b0:in64 b.tgt)(b2:in64 b.els)(hT:TB 37 tabC F):kKt ex 66 [(.agg ⟨[(.slice J b.ins.length U),(iI b.fin),(iI b.reg),(iI b.tgt),(iI b.els)]⟩)] H fun v H'=> ∃(ar:Option Addr) (kr:Nat) (r:List Int) (F':Fz),Fz.le F F'/\HS (.of H []) F' H' [] R/\v= .slice ar r.length kr/\SR F' (.slice ar r.length kr) r/\r=aZ b:=by
 refine aH Tryd.func66 rfl rfl (aj 1 rfl (aa (aI (bg hs rfl rfl) rfl rfl ?_)));rintro _ H2 _ ⟨b1,rfl,(A:HS _ _ _ [[(b1,.cells [(.slice J b.ins.length U),(iI b.fin),(iI b.reg),(iI b.tgt),(iI b.els)] none false)]] _),_⟩;refine wa (.slice none 0 0) rfl rfl rfl (ae 3 rfl (wU 3 [(1,.o (iI b.fin))] 3 4 [] [(4,(iI b.fin))] (ql 3 1 (HS.hc A (i:=0) rfl) rfl rfl) rfl fun _=>wT 1 [] 5 6 [] [(5,(.bool (b.fin==1)))] rfl fun _=>az 1 1 (v:=(b.fin==1)) rfl rfl rfl rfl (fun ad=>?_) (fun ad=>?_)))
 ·have c5:=ad;try simp only[BS]at c5
  refine aa (wUo 2 0 [(1,.o (iI b.tgt))] 7 8 [] [(8,(iI b.tgt))] (ql 3 3 (HS.hc A (i:=0) rfl) rfl rfl) rfl fun _=>aI (bm (α:=Int) (ps:=[(0,(iI b.tgt))]) (cells:=[(iI b.tgt)]) ([b.tgt]:List Int) A rfl rfl rfl (by kernel_rfl) ⟨[(iI b.tgt)],[],rfl,⟨rfl,by omega⟩,rfl⟩ rfl) rfl rfl ?_);rintro _ H8 p7 ⟨a7,k7,rfl,a4,(a6:HS _ _ _ [_,p7] _),_⟩;refine wa (.slice a7 ([b.tgt]:List Int).length k7) rfl rfl rfl (ae 1 rfl ?_);obtain⟨F9,a3,an,a5,ch⟩:=OS.frz a4 a6 (i:=1) rfl;have an:HS _ _ _ [_,[]] _:=an;refine aq ⟨.inr rfl,_,rfl,a7,k7,([b.tgt]:List Int),_,(a3),(HS.forget an),rfl,a5,(succ1 (by assumption))⟩
 have c5:=ad;try simp only[BS]at c5
 refine wT 1 [] 10 11 [] [(10,(.bool (b.fin==2)))] rfl fun _=>az 1 3 (v:=(b.fin==2)) rfl rfl rfl rfl (fun N=>?_) (fun N=>?_)
 ·have Z:=N;try simp only[BS]at Z
  refine aa (wUo 2 0 [(1,.o (iI b.tgt))] 12 13 [] [(13,(iI b.tgt))] (ql 3 3 (HS.hc A (i:=0) rfl) rfl rfl) rfl fun _=>aI (bm (α:=Int) (ps:=[(0,(iI b.tgt))]) (cells:=[(iI b.tgt)]) ([b.tgt]:List Int) A rfl rfl rfl (by kernel_rfl) ⟨[(iI b.tgt)],[],rfl,⟨rfl,by omega⟩,rfl⟩ rfl) rfl rfl ?_);rintro _ b7 a9 ⟨cc,ci,rfl,a0,(al:HS _ _ _ [_,a9] _),_⟩;refine wUo 2 3 [(4,.o (iI b.els))] 15 16 [] [(16,(iI b.els))] (ql 3 4 (HS.hc al (i:=0) rfl) rfl rfl) rfl fun _=>?_
  obtain⟨b5,ag,E,a1,b3⟩:=OS.frz a0 al (i:=1) rfl;have E:HS _ _ _ [_,[]] _:=E;replace hT:=hT.mono ag;refine aA (am rfl rfl rfl) rfl rfl (m6.cZ ex ([b.tgt]:List Int) b.els (HS.call E) a1 (by omega) hT (by simp)) ?_;rintro _ b9 ⟨V,av,co,b6,ay,T,rfl,aw,rfl⟩;replace T:HS _ _ _ [_,_] _:=HS.back E rfl T;refine wa (.slice V (de ([b.tgt]:List Int) b.els).length av) rfl rfl rfl (ae 1 rfl (aq ⟨.inr rfl,_,rfl,V,av,de ([b.tgt]:List Int) b.els,_,(fT (ag) ay),(HS.forget T),rfl,aw,(succ2 (by assumption)).symm⟩))
 have Z:=N;try simp only[BS]at Z
 refine wT 1 [] 2 2 [] [(2,(.slice none 0 0))] rfl fun _=>aq ⟨.inr rfl,_,rfl,none,0,([]:List Int),_,fR,(HS.forget A),rfl,(SR.nil:SR F (.slice none 0 0) ([]:List Int)),(succ0 (by omega))⟩
theorem rend_c{E:Option Addr}{J:Nat}(b:BlkT)(hs:HS (.of H []) F H [] R)(an:SR F (.slice E b.ins.length J) b.ins)(av:in64 b.fin)(aw:in64 b.reg)(ax:in64 b.tgt)(ay:in64 b.els)(hT:TB 37 tabC F):kKt ex 59 [(.agg ⟨[(.slice E b.ins.length J),(iI b.fin),(iI b.reg),(iI b.tgt),(iI b.els)]⟩)] H fun v H'=> ∃(ar:Option Addr) (kr:Nat) (r:List Int) (p:Fp) (F':Fz),Fz.le F F'/\HS (.of H []) F' H' [p] R/\v= .slice ar r.length kr/\OS F' (.slice ar r.length kr) r p/\r=dp b:=by
 refine aH Tryd.func59 rfl rfl (aj 1 rfl (aa (aI (bg hs rfl rfl) rfl rfl ?_)));rintro _ H2 _ ⟨b1,rfl,(A:HS _ _ _ [[(b1,.cells [(.slice E b.ins.length J),(iI b.fin),(iI b.reg),(iI b.tgt),(iI b.els)] none false)]] _),_⟩;refine wa (.slice none 0 0) rfl rfl rfl (ae 3 rfl (wR 1 [(1,.o (iI b.fin)),(5,.o (iI b.fin))] 3 10 [] [(10,(.bool ((b.fin==2)||(b.fin==3))))] (vA (ql 3 1 (HS.hc A (i:=0) rfl) rfl rfl) (vA (fun(g1:(b.fin==2)=false)=>(ql 3 1 (HS.hc A (i:=0) rfl) rfl rfl)) trivial)) rfl fun _=>az 1 2 (v:=((b.fin==2)||(b.fin==3))) rfl rfl rfl rfl (fun N=>?_) (fun N=>?_)))
 ·have T:=N;try simp only[BS]at T
  refine aa (wUo 2 0 [(1,.o (iI b.reg))] 11 12 [] [(12,(iI b.reg))] (ql 3 2 (HS.hc A (i:=0) rfl) rfl rfl) rfl fun _=>aI (bm (α:=Int) (ps:=[(0,(iI b.reg))]) (cells:=[(iI b.reg)]) ([b.reg]:List Int) A rfl rfl rfl (by kernel_rfl) ⟨[(iI b.reg)],[],rfl,⟨rfl,by omega⟩,rfl⟩ rfl) rfl rfl ?_);rintro _ H7 p6 ⟨U,k6,rfl,V,(Z:HS _ _ _ [_,p6] _),_⟩;refine wa (.slice U ([b.reg]:List Int).length k6) rfl rfl rfl (ae 1 rfl (aq ⟨.inr rfl,_,rfl,U,k6,([b.reg]:List Int),p6,_,fR,(HS.only Z (i:=1) rfl),rfl,V,(if_pos (by omega)).symm⟩))
 have T:=N;try simp only[BS]at T
 refine wT 1 [] 2 2 [] [(2,(.slice none 0 0))] rfl fun _=>aq ⟨.inr rfl,_,rfl,none,0,([]:List Int),[],_,fR,(HS.cons (HS.forget A)),rfl,(OS.nil:OS _ _ _ []),(if_neg (by omega)).symm⟩
theorem eE{a_a:Option Addr}{k_a:Nat}(a:List Int){a_b:Option Addr}{k_b:Nat}(b:List Int)(hs:HS (.of H []) F H [] R)(ha:SR F (.slice a_a a.length k_a) a)(hb:SR F (.slice a_b b.length k_b) b)(hT:TB 37 tabC F)(hlen:a.length+b.length<=1073741824):kKt ex 69 [(.slice a_a a.length k_a),(.slice a_b b.length k_b)] H fun v H'=> ∃(ar:Option Addr) (kr:Nat) (r:List Int) (F':Fz),Fz.le F F'/\HS (.of H []) F' H' [] R/\v= .slice ar r.length kr/\SR F' (.slice ar r.length kr) r/\r=cF a b:=by
 refine aH Tryd.func69 rfl rfl (aj 1 rfl (wT 2 [] 4 4 [] [(4,(.slice none 0 0))] rfl fun _=>aa (wm (.slice a_a a.length k_a) rfl rfl rfl ?_)));have U:=HS.snoc hs;have U:HS _ _ _ [[]] _:=U;refine aI (bC (α:=Int) (q:=0) (OS.nil:OS F (.slice none 0 0) ([]:List Int) []) U rfl rfl rfl (SR.sv ha U) rfl rfl rfl rfl rfl rfl rfl (by(simp only[a05,a0a,a0g];omega))) rfl rfl ?_;rintro _ H4 p3 ⟨a3,k3,rfl,al,(a7:HS _ _ _ [p3] _),_⟩;have al:OS F (.slice a3 a.length k3) a p3:=al;refine wa (.slice a3 a.length k3) rfl rfl rfl (ae 3 rfl ?_);obtain⟨F5,ag,an,a6,b1⟩:=OS.frz al a7 (i:=0) rfl;have an:HS _ _ _ [[]] _:=an;refine wT 2 [] 1 0 [6] [(6,(iI 0))] rfl fun _=>ak (fun(mm:Nat) f H'=> ∃(o:List Int) (i:Nat) (A:Option Addr) (E:Nat) (F':Fz),Fz.le F5 F'/\HS (Base.of H []) F' H' [[]] R/\SR F' (.slice A o.length E) o/\aD f [(1,(.slice a_b b.length k_b)),(5,(.slice A o.length E)),(6,(iI (i:Int)))]/\mm=b.length-i/\(i<=b.length)/\(o=cF a (b.take i))) _ ⟨a,0,a3,k3,_,fR,an,a6,⟨rfl,rfl,rfl,trivial⟩,rfl,(by omega),(by rfl)⟩ ?_
 rintro b2 f7 H7 ⟨o,i,A,E,F7,T,J,V,ay,rfl,h1,h2⟩ a8;refine au _ ay (fun _=>?_);clear ay;replace hT:=(hT.mono ag).mono T;replace hb:=(hb.mono ag).mono T;have n4:o.length<=a.length+b.length:=by rw[h2];exact a0e el (by simp;omega)
 refine aj 2 rfl (wT 1 [] 9 12 [] [(12,(.bool (decide ((i:Int)<(b.length:Int)))))] rfl fun _=>az 3 5 (v:=(decide ((i:Int)<(b.length:Int)))) rfl rfl rfl rfl (fun ad=>?_) (fun ad=>?_))
 ·have c9:=ad;try simp only[BS]at c9
  refine aa ?_;obtain⟨bk,av⟩:=Sv.view (SR.sv hb J);have b0:=fI (av i);refine wRo 5 0 [(4,.o (iI (b.getD i 0)))] 15 19 [] [(15,(.slice A o.length E)),(19,(iI (b.getD i 0)))] (vA (Sv.ix (j:=(i:Int)) (SR.sv hb J) (by omega) (by omega)) (vA (ql 3 0 (vI (av i) (by omega)) rfl rfl) trivial)) rfl fun _=>aA (am rfl rfl rfl) rfl rfl (m6.cZ ex o (b.getD i 0) (HS.call J) V (by omega) hT (by omega)) ?_
  rintro _ bz ⟨Z,aw,b3,bl,a4,N,rfl,ax,rfl⟩;replace N:HS _ _ _ [_] _:=HS.back J rfl N;refine wa (.slice Z (de o (b.getD i 0)).length aw) rfl rfl rfl (ae 2 rfl (wU 1 [] 13 14 [6] [(6,(iI ((i:Int)+1)))] (vi (n:=(i:Int)+1) (by omega)) rfl fun _=>a8 _ _ _ ?_ ⟨de o (b.getD i 0),i+1,Z,aw,_,(fT (T) a4),N,ax,⟨rfl,rfl,rfl,trivial⟩,rfl,(by omega),(iG (by omega) h2)⟩));omega
 have c9:=ad;try simp only[BS]at c9
 refine wT 1 [] 4 4 [21] [(4,(.slice A o.length E))] rfl fun _=>aq ⟨.inr rfl,_,rfl,A,E,o,_,(fT (ag) T),(HS.forget J),rfl,V,(uni_all (by omega) h2)⟩
theorem minus_c{a_a:Option Addr}{k_a:Nat}(a:List Int){a_b:Option Addr}{k_b:Nat}(b:List Int)(hs:HS (.of H []) F H [] R)(ha:SR F (.slice a_a a.length k_a) a)(hb:SR F (.slice a_b b.length k_b) b)(hT:TB 37 tabC F)(hlen:a.length<=1073741824/\b.length<=1073741824):kKt ex 106 [(.slice a_a a.length k_a),(.slice a_b b.length k_b)] H fun v H'=> ∃(ar:Option Addr) (kr:Nat) (r:List Int) (p:Fp) (F':Fz),Fz.le F F'/\HS (.of H []) F' H' [p] R/\v= .slice ar r.length kr/\OS F' (.slice ar r.length kr) r p/\r=eX a b:=by
 refine aH Tryd.func106 rfl rfl (aj 1 rfl (wT 2 [] 4 4 [] [(4,(.slice none 0 0))] rfl fun _=>wT 3 [] 1 0 [5] [(5,(.slice none 0 0))] rfl fun _=>wT 2 [] 1 0 [6] [(6,(iI 0))] rfl fun _=>?_));have al:=HS.snoc hs;have al:HS _ _ _ [[]] _:=al;refine ak (fun(mm:Nat) f H'=> ∃(o:List Int) (i:Nat) (A:Option Addr) (E:Nat) (J:Fp) (F':Fz),Fz.le F F'/\HS (Base.of H []) F' H' [J] R/\OS F' (.slice A o.length E) o J/\aD f [(0,(.slice a_a a.length k_a)),(1,(.slice a_b b.length k_b)),(5,(.slice A o.length E)),(6,(iI (i:Int)))]/\mm=a.length-i/\(i<=a.length)/\(o=eX (a.take i) b)) _ ⟨([]:List Int),0,none,0,[],_,fR,al,(OS.nil:OS _ (.slice none 0 0) ([]:List Int) []),⟨rfl,rfl,rfl,rfl,trivial⟩,rfl,(by omega),(by rfl)⟩ ?_;rintro b1 f4 H4 ⟨o,i,A,E,J,F4,T,N,U,ax,rfl,h1,h2⟩ a0;refine au _ ax (fun _=>?_);clear ax;replace hT:=hT.mono T;replace ha:=ha.mono T;replace hb:=hb.mono T;have n4:o.length<=a.length:=by rw[h2];exact a0e min_len (by simp;omega)
 refine aj 2 rfl (wT 1 [] 7 10 [] [(10,(.bool (decide ((i:Int)<(a.length:Int)))))] rfl fun _=>az 4 5 (v:=(decide ((i:Int)<(a.length:Int)))) rfl rfl rfl rfl (fun ad=>?_) (fun ad=>?_))
 ·have c7:=ad;try simp only[BS]at c7
  obtain⟨bl,ay⟩:=Sv.view (SR.sv ha N);have g9:=fI (ay i);refine wR 1 [(4,.o (iI (a.getD i 0))),(5,.o (.bool (gi b (a.getD i 0))))] 13 19 [] [(19,(.bool (!(gi b (a.getD i 0)))))] (vA (Sv.ix (j:=(i:Int)) (SR.sv ha N) (by omega) (by omega)) (vA (ql 3 0 (vI (ay i) (by omega)) rfl rfl) (vA (m6.eh ex b (a.getD i 0) (HS.call N) hb (by omega) hT (by omega)) trivial))) rfl fun _=>az 0 2 (v:=(!(gi b (a.getD i 0)))) rfl rfl rfl rfl (fun V=>?_) (fun V=>?_)
  ·have Z:=V;try simp only[BS]at Z
   refine aa ?_;obtain⟨a8,an⟩:=Sv.view (SR.sv ha N);have bz:=fI (an i);refine wRo 5 0 [(4,.o (iI (a.getD i 0)))] 20 24 [] [(20,(.slice A o.length E)),(24,(iI (a.getD i 0)))] (vA (Sv.ix (j:=(i:Int)) (SR.sv ha N) (by omega) (by omega)) (vA (ql 3 0 (vI (an i) (by omega)) rfl rfl) trivial)) rfl fun _=>aI (bm (α:=Int) (ps:=[(0,(iI (a.getD i 0)))]) (cells:=[(iI (a.getD i 0))]) ([(a.getD i 0)]:List Int) N rfl rfl rfl (by kernel_rfl) ⟨[(iI (a.getD i 0))],[],rfl,⟨rfl,by omega⟩,rfl⟩ rfl) rfl rfl ?_
   rintro _ a9 a7 ⟨bk,b0,rfl,a4,(ag:HS _ _ _ [J,a7] _),_⟩;refine aI (bC (α:=Int) (q:=0) U ag rfl rfl rfl (OS.sv a4 ag (i:=1) rfl) rfl rfl rfl rfl rfl rfl rfl (by(simp only[a05,a0a,a0g];omega))) rfl rfl ?_;rintro _ bb a2 ⟨aw,a1,rfl,a5,(a6:HS _ _ _ [a2,_] _),_⟩;refine wa (.slice aw (o++([(a.getD i 0)]:List Int)).length a1) rfl rfl rfl (ae 2 rfl (wU 1 [] 11 12 [6] [(6,(iI ((i:Int)+1)))] (vi (n:=(i:Int)+1) (by omega)) rfl fun _=>a0 _ _ _ ?_ ⟨o++([(a.getD i 0)]:List Int),i+1,aw,a1,a2,_,(T),(HS.sub a6 (a03 _ _)),a5,⟨rfl,rfl,rfl,rfl,trivial⟩,rfl,(by omega),((iM (by omega) h2).1 (by assumption))⟩));omega
  have Z:=V;try simp only[BS]at Z
  refine wU 1 [] 11 12 [6] [(6,(iI ((i:Int)+1)))] (vi (n:=(i:Int)+1) (by omega)) rfl fun _=>a0 _ _ _ ?_ ⟨o,i+1,A,E,J,_,(T),N,U,⟨rfl,rfl,rfl,rfl,trivial⟩,rfl,(by omega),((iM (by omega) h2).2 (by assumption))⟩
  omega
 have c7:=ad;try simp only[BS]at c7
 refine wT 1 [] 4 4 [27] [(4,(.slice A o.length E))] rfl fun _=>aq ⟨.inr rfl,_,rfl,A,E,o,J,_,(T),(HS.only N (i:=0) rfl),rfl,U,(by rw[h2,a0h (by omega)])⟩
end Go.Proofs.YtknafdcgpaejlaaDoor.ma
