/-
Ascending lists and live points, the allocator:. No condition but bounds on lengths.
-/
import Derived.Test.YtgdggmlghemecaaDoorZAMJ
noncomputable section
namespace Go.Proofs.YtgdggmlghemecaaDoor.na
open Go.R
set_option maxRecDepth 10000
set_option linter.unusedVariables false
set_option linter.unusedSimpArgs false
variable (ex:FuncId) {F:Fz} {H:Heap} {R:List Fp}
open m1 m2 m3 m4 m5 m6 ma ml mb mc md mf mg mh mi mj
theorem con_at{l:List Int}{n:Int}{k:Nat}(h:k<l.length)(e:l.getD k 0=n):bS l n=true:=aM.2 (e▸i8 h)
theorem con_not{l:List Int}{n:Int}{k:Nat}(ha:Asc l)(N: ∀j,j<k->l.getD j 0<n)(T: ∀j,k<=j->j<l.length->n<=l.getD j 0)(h: ¬(k<l.length/\l.getD k 0=n)):bS l n=false:=by
 rw[a1B];intro hc;obtain⟨j,z,e⟩:=a0K.1 (aM.1 hc);have Z:l.getD j 0=n:=by rw[a03,a05 z];exact e
 rcases a0j j k with A|A
 ·have:=N j A;omega
 have U:=T k (a0b _) M;rcases a20 A with E|E
 ·subst E;exact h ⟨z,Z⟩
 have:=asc_at ha E z;exact h ⟨by omega,by omega⟩
theorem con_fin{l:List Int}{n:Int}{lo hi:Nat}(Z:Asc l)(h: ¬(lo:Int)<(hi:Int))(U:lo<=hi/\hi<=l.length)(E: ∀j,j<lo->l.getD j 0<n)(N: ∀j,hi<=j->j<l.length->n<=l.getD j 0)(b:Bool)(z:b=true↔(lo<l.length/\l.getD lo 0=n)):b=bS l n:=by
 have e:lo=hi:=M
 subst e;cases b with
 |true=>obtain⟨A,T⟩:=z.1 V;exact(con_at A T).symm
 |false=>exact(con_not Z E N fun A=>by have:=z.2 A;cases this).symm
theorem bs_lo{l:List Int}{n:Int}{m:Nat}(z:Asc l)(E:m<l.length)(h:l.getD m 0<n): ∀j,j<m+1->l.getD j 0<n:=fun j A=>by
 rcases a20 (a1H A) with e|e
 ·subst e;exact h
 have:=asc_at z e E;omega
theorem bs_hi{l:List Int}{n:Int}{m:Nat}(z:Asc l)(h: ¬l.getD m 0<n): ∀j,m<=j->j<l.length->n<=l.getD j 0:=fun j A E=>by
 rcases a20 A with e|e
 ·subst e;omega
 have:=asc_at z e E;omega
theorem con1{n x:Int}:bS [n] x=decide (x=n):=by unfold bS;simp only[List.any_cons,List.any_nil,a1y];rw[a0o];simp only[decide_eq_true_eq];exact⟨fun h=>h.symm,fun h=>h.symm⟩
theorem ins_in{l:List Int}{n:Int}(E:Asc l)(h:bS l n=true):dJ l n=l:=by
 obtain⟨j,z,e⟩:=a0K.1 (aM.1 h);have A:l.getD j 0=n:=by rw[a03,a05 z];exact e
 have N:=lj (l:=l) (n:=n) (k:=j) M (fun i hi=>by have:=asc_at E hi z;omega) (fun _=>by omega);exact(ig N z A).symm
theorem Lst.ins{l:List Int}{S:Nat->Prop}{n:Int}(h:Lst l S)(z:0<=n):Lst (dJ l n) (fun r=>S r\/(r:Int)=n):=⟨ins_asc h.asc,fun x=>by
 rw[kj,h.mem];constructor
 ·rintro(rfl|A)
  ·exact⟨z,.inr M⟩
  exact⟨A.1,.inl A.2⟩
 rintro⟨A,E|E⟩
 ·exact .inr ⟨A,E⟩
 exact .inl M⟩
theorem Lst.del{l:List Int}{S:Nat->Prop}{n:Int}(h:Lst l S):Lst (gE l [n]) (fun r=>S r/\(r:Int)≠n):=Lst.ext (Lst.minus h) fun r=>by rw[a0f]
structure PtX(c:VFnT)(b:Nat)(l:List (List Int)):Prop where
 len:l.length=(bh c b).ins.length+2
 pt: ∀i,i<=(bh c b).ins.length->Lst (dw l i) (ptS c b i)
 out:Lst (dw l ((bh c b).ins.length+1)) (lR c b)
structure PsF(c:VFnT)(p:List (List (List Int))):Prop where
 len:p.length=c.blocks.length
 at_: ∀b,b<c.blocks.length->PtX c b (p.getD b default)
theorem ps_snoc{c:VFnT}{z:List (List (List Int))}{k:Nat}{l:List (List Int)}(A:z.length=k)(h: ∀b,b<k->PtX c b (z.getD b default))(E:PtX c k l): ∀b,b<k+1->PtX c b ((z++[l]).getD b default):=fun b N=>by
 rw[kF];split
 ·rename_i e;rw[A]at e;subst e;exact E
 exact h b M
theorem end_yes2{c:VFnT}{b:Nat}{o:List Int}(h:Lst o (lR c b))(z:(bh c b).fin=2\/(bh c b).fin=3)(A:0<=(bh c b).reg):Lst (dJ o (bh c b).reg) (ptS c b (bh c b).ins.length):=Lst.ext (Lst.ins h A) fun r=>by unfold ptS;rw[List.drop_length];show _↔endS _ _ _;unfold endS ei;rw[if_pos z,a0f]
theorem end_no2{c:VFnT}{b:Nat}{o:List Int}(h:Lst o (lR c b))(z: ¬((bh c b).fin=2\/(bh c b).fin=3)):Lst o (ptS c b (bh c b).ins.length):=Lst.ext h fun r=>by unfold ptS;rw[List.drop_length];show _↔endS _ _ _;unfold endS ei;rw[if_neg z];exact⟨.inl,fun h=>h.elim id fun h=>by cases h⟩
def wrS(S:Nat->Prop)(l:List Int)(q r:Nat):Prop:=S r/\(r:Int)∉l.take q
def rdS(S:Nat->Prop)(l:List Int)(q r:Nat):Prop:=S r\/(r:Int)∈l.take q
theorem wr_zero{w:List Int}{S:Nat->Prop}{l:List Int}(h:Lst w S):Lst w (wrS S l 0):=Lst.ext h fun r=>by unfold wrS;simp
theorem wr_yes{w:List Int}{S:Nat->Prop}{l:List Int}{q:Nat}(z:q<l.length)(h:Lst w (wrS S l q)):Lst (gE w [l.getD q 0]) (wrS S l (q+1)):=Lst.ext (Lst.del h) fun r=>by unfold wrS;rw[bK z (d:=0),a08,a0f,and_assoc,not_or]
theorem wr_no{w:List Int}{S:Nat->Prop}{l:List Int}{q:Nat}(z:q<l.length)(hc:bS w (l.getD q 0)=false)(h:Lst w (wrS S l q)):Lst w (wrS S l (q+1)):=Lst.ext h fun r=>by
 unfold wrS;rw[bK z (d:=0),a08,a0f,not_or];constructor
 ·rintro⟨A,E⟩;refine⟨A,E,fun e=>?_⟩;have:(r:Int)∈w:=(h.mem r).2 ⟨by omega,by simpa using⟨A,E⟩⟩;rw[e]at this;rw[aM.2 this]at hc;cases hc
 rintro⟨A,E,_⟩;exact⟨A,E⟩
theorem rd_zero{w:List Int}{S:Nat->Prop}{l:List Int}(h:Lst w S):Lst w (rdS S l 0):=Lst.ext h fun r=>by unfold rdS;simp
theorem rd_yes{w:List Int}{S:Nat->Prop}{l:List Int}{q:Nat}(z:q<l.length)(A:0<=l.getD q 0)(h:Lst w (rdS S l q)):Lst (dJ w (l.getD q 0)) (rdS S l (q+1)):=Lst.ext (Lst.ins h A) fun r=>by unfold rdS;rw[bK z (d:=0),a08,a0f,or_assoc]
theorem wr_lt{S:Nat->Prop}{l:List Int}{m:Int}(hs: ∀r,S r->(r:Int)<m){q r:Nat}(h:wrS S l q r):(r:Int)<m:=hs r h.1
theorem rd_lt{S:Nat->Prop}{l:List Int}{m:Int}(hs: ∀r,S r->(r:Int)<m)(z: ∀x∈l,0<=x/\x<m){q r:Nat}(h:rdS S l q r):(r:Int)<m:=by
 rcases h with h|h
 ·exact hs r h
 exact(z _ (a1v h)).2
theorem pt_done{c:VFnT}{b i q p:Nat}{w:List Int}(hi:i<(bh c b).ins.length)(A:(ab ((bh c b).ins.getD i default)).length<=q)(z:(aI ((bh c b).ins.getD i default)).length<=p)(h:Lst w (rdS (wrS (ptS c b (i+1)) (ab ((bh c b).ins.getD i default)) q) (aI ((bh c b).ins.getD i default)) p)):Lst w (ptS c b i):=Lst.ext h fun r=>by unfold rdS wrS ptS;rw[a0h A,a0h z,tr_drop hi];exact or_comm
theorem pset{c:VFnT}{b i:Nat}{l:List (List Int)}{x:List Int}(N:l.length=(bh c b).ins.length+2)(h: ∀j,i<j->j<=(bh c b).ins.length->Lst (dw l j) (ptS c b j))(hi:i<=(bh c b).ins.length)(z:Lst x (ptS c b i)): ∀j,i<=j->j<=(bh c b).ins.length->Lst (dw (l.set i x) j) (ptS c b j):=fun j E A=>by
 rw[cZ M];split
 ·rename_i e;subst e;exact z
 rename_i e;exact h j M A
theorem fl{z:Option Addr}{ag:Nat}(l:List Int)(n:Int)(hs:HS (.of H []) F H [] R)(hl:SR F (sL z l.length ag) l)(hn:in64 n)(hT:TB 37 tabC F)(ha:Asc l)(ax:l.length<=1073741824):kKt ex 80 [(sL z l.length ag),(iI n)] H fun v H'=> ∃(r:Bool),H'=H/\v= .bool r/\r=bS l n:=by
 refine aC Tryd.func80 V V ?_;refine aj 1 V ?_;refine wT 2 [] 4 4 [] [(4,(.bool false))] V fun _=>?_
 refine wT 3 [] 8 9 [5,6] [(5,(iI 0)),(6,(iI (l.length:Int)))] V fun _=>?_
 refine ah (fun(mm:Nat) f H'=> ∃(lo:Nat) (hi:Nat),H'=H/\aA f [(0,(sL z l.length ag)),(1,(iI n)),(5,(iI (lo:Int))),(6,(iI (hi:Int)))]/\mm=hi-lo/\(lo<=hi/\hi<=l.length)/\(∀j,j<lo->l.getD j 0<n)/\(∀j,hi<=j->j<l.length->n<=l.getD j 0)) _ ⟨0,l.length,V,(agC V (agC V (agC V (agC V agN)))),V,(by first|assumption|omega|(simp at *;omega)),(by intro j hj;omega),(by intro j h1 h2;omega)⟩ ?_;rintro aw f3 H ⟨lo,hi,rfl,T,rfl,h1,h2,h3⟩ a_;refine ap _ T (fun _=>?_);clear T;refine aj 2 V ?_;refine wT 1 [] 10 12 [] [(12,(.bool (decide ((lo:Int)<(hi:Int)))))] V fun _=>?_
 refine az 3 5 (v:=(decide ((lo:Int)<(hi:Int)))) V V V V (fun Z=>?_) (fun Z=>?_)
 ·try simp only[BS]at Z
  refine wR 2 [] 13 16 [7] [(7,(iI (((lo+hi)/2:Nat):Int)))] (vA (vi (n:=(lo:Int)+(hi:Int)) M) (vA (vA (show(2:Int)≠0 from by decide) (vi (n:=(((lo+hi)/2:Nat):Int)) M)) trivial)) V fun _=>?_
  obtain⟨ar,U⟩:=Sv.view (SR.sv hl hs);have g8:=fI (U ((lo+hi)/2));refine wrp 1 17 22 [] [(22,(.bool (decide ((l.getD ((lo+hi)/2) 0)<n))))] (Ha_ (Sv.ix (j:=(((lo+hi)/2:Nat):Int)) (SR.sv hl hs) M M) (Hl_ 3 (ql 3 0 (vI (U ((lo+hi)/2)) M) V V) Hn_)) (by kernel_rfl) V fun _=>?_
  refine az 0 0 (v:=(decide ((l.getD ((lo+hi)/2) 0)<n))) V V V V (fun A=>?_) (fun A=>?_)
  ·try simp only[BS]at A
   refine wU 2 [] 23 24 [5] [(5,(iI ((((lo+hi)/2:Nat):Int)+1)))] (vi (n:=(((lo+hi)/2:Nat):Int)+1) M) V fun _=>?_
   refine a_ _ _ _ ?_ ⟨((lo+hi)/2)+1,hi,V,(agC V (agC V (agC V (agC V agN)))),V,(by first|assumption|omega|(simp at *;omega)),(by first|assumption|exact bs_lo ha M X),(by first|assumption|exact bs_hi ha X)⟩;omega
  try simp only[BS]at A
  refine wT 2 [] 25 25 [6] [(6,(iI (((lo+hi)/2:Nat):Int)))] V fun _=>?_
  refine a_ _ _ _ ?_ ⟨lo,(lo+hi)/2,V,(agC V (agC V (agC V (agC V agN)))),V,(by first|assumption|omega|(simp at *;omega)),(by first|assumption|exact bs_lo ha M X),(by first|assumption|exact bs_hi ha X)⟩;omega
 try simp only[BS]at Z
 obtain⟨al,E⟩:=Sv.view (SR.sv hl hs);have av:=fI (E lo);refine wrp 1 26 37 [4] [(4,(.bool ((decide ((lo:Int)<(l.length:Int)))&&((l.getD lo 0)==n))))] (Ha_ (fun(N:(decide ((lo:Int)<(l.length:Int)))=true)=>(Sv.ix (j:=(lo:Int)) (SR.sv hl hs) (by(try simp only[BS]at N);omega) (by(try simp only[BS]at N);omega))) (bt 8 (fun N=>(ql 3 0 (vI (E lo) (by(try simp only[BS]at N);omega)) V V)) Hn_)) V V fun _=>?_
 refine am ⟨.inr V,_,V,((decide ((lo:Int)<(l.length:Int)))&&((l.getD lo 0)==n)),V,V,(by exact con_fin ha X h1 h2 h3 _ (by simp<;>omega))⟩
theorem bQ{z:Option Addr}{A:Nat}(l:List Int)(n:Int)(hs:HS (.of H []) F H [] R)(U:SR F (sL z l.length A) l)(Z:in64 n)(N:TB 37 tabC F)(T:Asc l)(E:l.length<=1073741824):kKt ex 80 [(sL z l.length A),(iI n)] H fun v H'=>v=(.bool (bS l n))/\H'=H:=
 cq (fl ex l n hs U Z N T E) (by rintro _ _ ⟨_,rfl,rfl,rfl⟩;exact⟨V,V⟩)
theorem without_c{z:Option Addr}{ai:Nat}(l:List Int)(n:Int)(hs:HS (.of H []) F H [] R)(hl:SR F (sL z l.length ai) l)(hn:in64 n)(hT:TB 37 tabC F)(cc:l.length<=1073741824):kKt ex 81 [(sL z l.length ai),(iI n)] H fun v H'=> ∃(ar:Option Addr) (kr:Nat) (r:List Int) (p:Fp) (F':Fz),Fz.le F F'/\HS (.of H []) F' H' [p] R/\v=sL ar r.length kr/\OS F' (sL ar r.length kr) r p/\r=gE l [n]:=by
 refine aC Tryd.func81 V V ?_;refine aj 1 V ?_;refine wT 2 [] 4 4 [] [(4,(sL none 0 0))] V fun _=>?_
 refine wT 3 [] 1 0 [5] [(5,(sL none 0 0))] V fun _=>?_
 refine wT 2 [] 8 10 [] [(8,(sL z l.length ai)),(9,(iI (l.length:Int))),(10,(iI 0))] V fun _=>?_
 have a3:=HS.snoc hs;refine ah (fun(mm:Nat) f H'=> ∃(o:List Int) (i:Nat) (A:Option Addr) (E:Nat) (N:Fp) (F':Fz),Fz.le F F'/\HS (Base.of H []) F' H' [N] R/\OS F' (sL A o.length E) o N/\aA f [(1,(iI n)),(5,(sL A o.length E)),(8,(sL z l.length ai)),(9,(iI (l.length:Int))),(10,(iI (i:Int)))]/\mm=l.length-i/\(i<=l.length)/\(o=gE (l.take i) [n])) _ ⟨([]:List Int),0,none,0,[],_,fR,a3,(OS.nil:OS _ (sL none 0 0) ([]:List Int) []),(agC V (agC V (agC V (agC V (agC V agN))))),V,(by first|assumption|omega|(simp at *;omega)),s_⟩ ?_;rintro bb f4 H4 ⟨o,i,A,E,N,F4,Z,a_,T,an,rfl,h1,U⟩ aw;refine ap _ an (fun _=>?_);clear an;replace hl:=hl.mono Z;have n4:o.length<=l.length:=by rw[U];exact a0e min_len m_
 refine aj 1 V ?_;refine wT 2 [] 11 11 [] [(11,(.bool (decide ((i:Int)<(l.length:Int)))))] V fun _=>?_
 refine az 4 5 (v:=(decide ((i:Int)<(l.length:Int)))) V V V V (fun c7=>?_) (fun c7=>?_)
 ·try simp only[BS]at c7
  obtain⟨a8,av⟩:=Sv.view (SR.sv hl a_);have g9:=fI (av i);refine wrp 2 12 13 [7] [(7,(iI (l.getD i 0)))] (Ha_ (Sv.ix (j:=(i:Int)) (SR.sv hl a_) M M) (Hl_ 1 (ql 3 0 (vI (av i) M) V V) Hn_)) (by kernel_rfl) V fun _=>?_
  refine wT 1 [] 14 16 [] [(16,(.bool ((l.getD i 0) !=n)))] V fun _=>?_
  refine az 0 2 (v:=((l.getD i 0) !=n)) V V V V (fun ad=>?_) (fun ad=>?_)
  ·try simp only[BS]at ad
   refine aa ?_;refine wTo 2 0 [] 17 18 [] [(17,(sL A o.length E)),(18,(iI (l.getD i 0)))] V fun _=>?_
   refine zlo ([(l.getD i 0)]:List Int) a_ V (RL.cs ⟨V,by omega⟩ RL.nl) V fun a7 a9 bk a5 a0 ag=>?_
   refine zao 0 T ag (OS.sv a0 ag (i:=1) V) V V V k_ fun al ax a4 a6 a1 a2=>?_
   refine wa (sL al (o++([(l.getD i 0)]:List Int)).length ax) V V V ?_;refine ae 2 V ?_;refine wU 1 [] 10 10 [21] [(10,(iI ((i:Int)+1)))] (vi (n:=(i:Int)+1) M) V fun _=>?_
   refine aw _ _ _ ?_ ⟨o++([(l.getD i 0)]:List Int),i+1,al,ax,a4,_,(Z),(HS.sub a2 (a02 _ _)),a1,(agC V (agC V (agC V (agC V (agC V agN))))),V,(by first|assumption|omega|(simp at *;omega)),(by first|exact(dX M U).1 (by rw[con1];exact decide_eq_false X)|exact(dX M U).2 (by rw[con1];exact decide_eq_true (by simp_all;done))|exact(dX M U).2 (by rw[con1];exact decide_eq_true M))⟩;omega
  try simp only[BS]at ad
  refine wU 1 [] 10 10 [21] [(10,(iI ((i:Int)+1)))] (vi (n:=(i:Int)+1) M) V fun _=>?_
  refine aw _ _ _ ?_ ⟨o,i+1,A,E,N,_,(Z),a_,T,(agC V (agC V (agC V (agC V (agC V agN))))),V,(by first|assumption|omega|(simp at *;omega)),(by first|exact(dX M U).1 (by rw[con1];exact decide_eq_false X)|exact(dX M U).2 (by rw[con1];exact decide_eq_true (by simp_all;done))|exact(dX M U).2 (by rw[con1];exact decide_eq_true M))⟩;omega
 try simp only[BS]at c7
 refine wT 1 [] 4 4 [22] [(4,(sL A o.length E))] V fun _=>?_
 refine am ⟨.inr V,_,V,A,E,o,N,_,(Z),(HS.only a_ (i:=0) V),V,T,(by rw[U,a0h M])⟩
theorem dG{z:Option Addr}{ai:Nat}(l:List Int)(n:Int)(hs:HS (.of H []) F H [] R)(hl:SR F (sL z l.length ai) l)(hn:in64 n)(hT:TB 37 tabC F)(ha:Asc l)(f7:l.length<=1000000):kKt ex 79 [(sL z l.length ai),(iI n)] H fun v H'=> ∃(ar:Option Addr) (kr:Nat) (r:List Int) (F':Fz),Fz.le F F'/\HS (.of H []) F' H' [] R/\v=sL ar r.length kr/\SR F' (sL ar r.length kr) r/\r=dJ l n:=by
 refine aC Tryd.func79 V V ?_;refine aj 1 V ?_;refine wT 3 [] 4 4 [] [(4,(sL none 0 0))] V fun _=>?_
 refine wU 1 [(2,.o (.bool (bS l n)))] 6 8 [] [(8,(.bool (bS l n)))] (bQ ex l n (HS.call hs) hl M hT M M) V fun _=>?_
 refine az 1 2 (v:=(bS l n)) V V V V (fun c3=>?_) (fun c3=>?_)
 ·try simp only[BS]at c3
  have hc:=c3;refine wT 1 [] 4 4 [9] [(4,(sL z l.length ai))] V fun _=>?_
  refine am ⟨.inr V,_,V,z,ai,l,_,fR,(HS.forget hs),V,hl,(by first|exact(ins_in ha (by simpa using hc)).symm|exact kh (lj h1 h2 M) (fun hh=>absurd (con_at hh.1 hh.2) (by simpa using hc)))⟩
 try simp only[BS]at c3
 have hc:=c3;refine wT 3 [] 1 0 [5] [(5,(iI 0))] V fun _=>?_
 refine ah (fun(mm:Nat) f H'=> ∃(k:Nat),H'=H/\aA f [(0,(sL z l.length ai)),(1,(iI n)),(5,(iI (k:Int)))]/\mm=l.length-k/\(k<=l.length)/\(∀j,j<k->l.getD j 0<n)) _ ⟨0,V,(agC V (agC V (agC V agN))),V,(by first|assumption|omega|(simp at *;omega)),(by intro j hj;omega)⟩ ?_;rintro d2 f6 H ⟨k,rfl,ay,rfl,h1,h2⟩ b8;refine ap _ ay (fun _=>?_);clear ay;refine aj 2 V ?_;obtain⟨dl,a0⟩:=Sv.view (SR.sv hl hs);have g8:=fI (a0 k);refine wrp 1 10 21 [] [(21,(.bool ((decide ((k:Int)<(l.length:Int)))&&(decide ((l.getD k 0)<n)))))] (Ha_ (fun(g1:(decide ((k:Int)<(l.length:Int)))=true)=>(Sv.ix (j:=(k:Int)) (SR.sv hl hs) (by(try simp only[BS]at g1);omega) (by(try simp only[BS]at g1);omega))) (bt 8 (fun g1=>(ql 3 0 (vI (a0 k) (by(try simp only[BS]at g1);omega)) V V)) Hn_)) V V fun _=>?_
 refine az 2 5 (v:=((decide ((k:Int)<(l.length:Int)))&&(decide ((l.getD k 0)<n)))) V V V V (fun ag=>?_) (fun ag=>?_)
 ·try simp only[BS]at ag
  refine wU 2 [] 22 23 [5] [(5,(iI ((k:Int)+1)))] (vi (n:=(k:Int)+1) M) V fun _=>?_
  refine b8 _ _ _ ?_ ⟨k+1,V,(agC V (agC V (agC V agN))),V,(by first|assumption|omega|(simp at *;omega)),(by exact j8 h2 M)⟩;omega
 try simp only[BS]at ag
 refine aF V ?_;refine zld ([]:List Int) hs V RL.nl V fun c7 dn d3 a2 a6 U=>?_
 refine fm (sL z l.length ai) V V V ?_;refine fm (iI (k:Int)) V V V ?_;refine e9 (id:= .q fun b=>F b≠none) (rs_cutt (α:=Int) (j:=k) hl U.log0 V V V (optN M) M) V V (by rintro _ _ _ ⟨_,_,_,hH,_⟩;exact did_q V (SR.q hl)) (⟨.inl V,⟨.inl V,⟨.inr trivial,trivial⟩⟩⟩) ?_;rintro _ _ _ ⟨c8,ds,rfl,A,bb⟩ b4 av;simp only at A;replace A:=A.symm;subst A;have N:=HS.lg U.log0 U av;generalize ({{a2 with log:=[]} with log:=b4}:Heap)=ch at N⊢;refine zad 0 a6 N (SR.sv bb N) V V V r_ (⟨.inl V,⟨.inl V,⟨.inl V,⟨.inl V,trivial⟩⟩⟩⟩) fun b6 b9 cc ci T bz=>?_
 have T:OS F (sL b6 (l.take k).length b9) (l.take k) cc:=T;refine fm (iI n) V V V ?_;refine zld ([n]:List Int) bz V (RL.cs ⟨V,by omega⟩ RL.nl) V fun c9 dt d4 co a7 a_=>?_
 refine zad 0 T a_ (OS.sv a7 a_ (i:=1) V) V V V r_ (⟨.inl V,⟨.inl V,⟨.inl V,⟨.inl V,⟨.inl V,⟨.inl V,⟨.inl V,trivial⟩⟩⟩⟩⟩⟩⟩) fun dd dv ea a3 a8 Z=>?_
 refine fm (sL z l.length ai) V V V ?_;refine fm (iI (k:Int)) V V V ?_;refine e9 (id:= .q fun b=>F b≠none) (rs_cutd (α:=Int) (i:=k) hl Z.log0 V V V (optN M) M) V V (by rintro _ _ _ ⟨_,_,_,hH,_⟩;exact did_q V (SR.q hl)) (⟨.inl V,⟨.inl V,⟨.inr (HS.apq a_ (i:=0) V),⟨.inr trivial,⟨.inr trivial,⟨.inr (HS.apq N (i:=0) V),⟨.inr trivial,⟨.inr trivial,⟨.inr trivial,⟨.inr trivial,trivial⟩⟩⟩⟩⟩⟩⟩⟩⟩⟩) ?_;rintro _ _ _ ⟨dk,d1,rfl,E,bk⟩ b5 aw;simp only at E;replace E:=E.symm;subst E;have ad:=HS.lg Z.log0 Z aw;generalize ({{a3 with log:=[]} with log:=b5}:Heap)=c0 at ad⊢;refine zad 0 a8 ad (SR.sv bk ad) V V V r_ (⟨.inl V,⟨.inl V,⟨.inl V,⟨.inl V,⟨.inl V,⟨.inl V,⟨.inl V,⟨.inl V,⟨.inl V,⟨.inl V,⟨.inl V,trivial⟩⟩⟩⟩⟩⟩⟩⟩⟩⟩⟩) fun ax a1 em c4 a9 b2=>?_
 refine fa (sL ax (((l.take k)++([n]:List Int))++(l.drop k)).length a1) V V V ?_;refine ew ?_;refine aj 1 V ?_;obtain⟨c6,a5,b3,bl,c5⟩:=OS.frz a9 b2 (i:=0) V;refine am ⟨.inr V,_,V,ax,a1,((l.take k)++([n]:List Int))++(l.drop k),_,(a5),(HS.forget b3),V,bl,(by first|exact(ins_in ha (by simpa using hc)).symm|exact kh (lj h1 h2 M) (fun hh=>absurd (con_at hh.1 hh.2) (by simpa using hc)))⟩
set_option maxHeartbeats 2000000 in
theorem jC{ar:Option Addr}{aw:Nat}(c:VFnT)(hs:HS (.of H []) F H [] R)(mx:in64 c.params)(mI:in64 c.regs)(ch:SR F (sL ar c.blocks.length aw) c.blocks)(hT:TB 37 tabC F)(ks:bT c=true)(jq: ∀j,(c.blocks.getD j default).ins.length<=1073741822):kKt ex 58 [(aG [(iI c.params),(iI c.regs),(sL ar c.blocks.length aw)])] H fun v H'=> ∃(l0:Option Addr) (l4:Nat) (ps:List (List (List Int))) (p:Fp) (F':Fz),Fz.le F F'/\HS (.of H []) F' H' [p] R/\v=sL l0 ps.length l4/\OS F' (sL l0 ps.length l4) ps p/\(PsF c ps):=by
 have vF:=eU ks;have oR:=vF.nb;have jw:=vF.regs;refine aC Tryd.func58 V V ?_;refine aj 1 V ?_;refine aa ?_;refine aV (aO hs V V) V V ?_;rintro _ H2 _ ⟨b1,rfl,hf,_⟩;refine wa (sL none 0 0) V V V ?_;refine ae 2 V ?_;refine aa ?_;refine bn 1 0 16 16 [] [(16,(aG [(iI c.params),(iI c.regs),(sL ar c.blocks.length aw)]))] (Hr_ 0 0 Hn_) hf V V fun _=>?_
 refine aH (aq V V V) V V (md.blocks_c ex c (HS.call hf) M M ch hT (by exact fun j=>a0e (jq j) M)) ?_;rintro _ H4 ⟨nP,n4,x4,c5,c6,y4,F4,g5,e0,rfl,mZ,dd,n2,n1⟩;replace e0:=HS.back hf V e0;refine cj 5 2 18 19 [3,4,15] [(4,(sL c5 y4.length c6))] Hn_ (by kernel_rfl) V fun _=>?_
 refine ae 2 V ?_;have bk:BkF c _ y4:=(by assumption:bT c=true->_) ks;have oQ:=bk.ly;refine wT 3 [] 1 0 [5] [(5,(sL none 0 0))] V fun _=>?_
 refine bF 2 20 23 [] [(21,(sL ar c.blocks.length aw)),(22,(iI (c.blocks.length:Int))),(23,(iI 0))] (Hr_ 1 0 Hn_) e0 V V fun _=>?_
 have kc:=HS.snoc e0;let dt:Fp:=(fP b1 [(iI c.params),(iI c.regs),(sL ar c.blocks.length aw)])
 refine ah (fun(mm:Nat) f H'=> ∃(al:List (List (List Int))) (k:Nat) (N:Option Addr) (T:Nat) (ag:Fp) (F':Fz),Fz.le F4 F'/\HS (Base.of H []) F' H' [dt,ag] R/\OS F' (sL N al.length T) al ag/\aA f [(4,(sL c5 y4.length c6)),(5,(sL N al.length T)),(21,(sL ar c.blocks.length aw)),(22,(iI (c.blocks.length:Int))),(23,(iI (k:Int)))]/\mm=c.blocks.length-k/\(al.length=k)/\(k<=c.blocks.length)/\(∀b,b<k->PtX c b (al.getD b default))) _ ⟨([]:List (List (List Int))),0,none,0,[],_,fR,kc,(OS.nil:OS _ (sL none 0 0) ([]:List (List (List Int))) []),(agC V (agC V (agC V (agC V (agC V agN))))),V,s_,(by first|assumption|omega|(simp at *;omega)),(by intro b hb;omega)⟩ ?_;rintro n5 f8 H8 ⟨al,k,N,T,ag,F8,dn,e3,a5,hI,rfl,e1,hk,e2⟩ kd;refine ap _ hI (fun _=>?_);clear hI;replace hT:=(hT.mono g5).mono dn;replace ch:=(ch.mono g5).mono dn;replace dd:=dd.mono dn;refine aj 1 V ?_;refine wT 2 [] 24 24 [] [(24,(.bool (decide ((k:Int)<(c.blocks.length:Int)))))] V fun _=>?_
 refine az 4 5 (v:=(decide ((k:Int)<(c.blocks.length:Int)))) V V V V (fun fi=>?_) (fun fi=>?_)
 ·try simp only[BS]at fi
  refine aa ?_;obtain⟨c7,hj⟩:=Sv.view (SR.sv ch e3);obtain⟨kr,kt,kx,ky,an⟩:=BlkT.fx (hj k);refine cj 3 0 25 27 [] [(25,(iI (k:Int))),(27,(aG [(sL (cA (c7 k) 0) (c.blocks.getD k default).ins.length (cK (c7 k) 0)),(iI (c.blocks.getD k default).fin),(iI (c.blocks.getD k default).reg),(iI (c.blocks.getD k default).tgt),(iI (c.blocks.getD k default).els)]))] (Ha_ (Sv.ix (j:=(k:Int)) (SR.sv ch e3) M M) (Hl_ 2 (qn 43 0 5 (BlkT.vw (hj k) M) V V V V) Hn_)) (by kernel_rfl) V fun _=>?_
  refine zn e3 V fun dk nq h5=>?_
  refine sgo 2 4 1 0 [6] [(6,(iI (k:Int)))] (Hr_ 5 2 Hn_) h5 V V fun l9 ny he=>?_
  refine ae 2 V ?_;have z:k<c.blocks.length:=M
  have oO:=jq k;have oT:(List.replicate ((c.blocks.getD k default).ins.length+2) ([]:List Int)).length=(c.blocks.getD k default).ins.length+2:=a0H;have jb:((c.blocks.getD k default).fin=2\/(c.blocks.getD k default).fin=3)->0<=(c.blocks.getD k default).reg/\(c.blocks.getD k default).reg<c.regs:=vF.fin k z;have oW:=Lst.len (bk.hy k z) jw.1 (fun r h=>iO vF h);have oV:=(bk.hy k z).asc;refine aa ?_;refine bn 4 0 28 31 [] [(31,(iI (((c.blocks.getD k default).ins.length:Int)+2)))] (Hr_ 1 2 (Ha_ (vi (n:=((c.blocks.getD k default).ins.length:Int)+2) M) Hn_)) he V V fun _=>?_
  refine aV (cG ([]:(List Int)) he V V V V V V V V V ⟨none,0,V,SR.nil⟩ M M) V V ?_;rintro _ nz kg ⟨a6,a7,rfl,c9,co,_⟩;have c9:OS F8 (sL a6 (List.replicate ((c.blocks.getD k default).ins.length+2) ([]:(List Int))).length a7) (List.replicate ((c.blocks.getD k default).ins.length+2) ([]:(List Int))) kg:=c9;refine wa (sL a6 (List.replicate ((c.blocks.getD k default).ins.length+2) ([]:(List Int))).length a7) V V V ?_;refine ae 2 V ?_;obtain⟨av,hl⟩:=Sv.view (SR.sv dd co);have hz:=fL (hl k);refine wrp 2 33 36 [9] [(9,(sL (cA (av k) 0) (y4.getD k default).length (cK (av k) 0)))] (Ha_ (Sv.ix (j:=(k:Int)) (SR.sv dd co) M M) (Hl_ 3 (ql 22 0 (vL (hl k) M) V V) Hn_)) (by kernel_rfl) V fun _=>?_
  refine aa ?_;refine bn 7 0 37 43 [] [(42,(sL (cA (av k) 0) (y4.getD k default).length (cK (av k) 0))),(43,(.pointer (some ⟨sB (sL a6 (List.replicate ((c.blocks.getD k default).ins.length+2) ([]:(List Int))).length a7),sO (sL a6 (List.replicate ((c.blocks.getD k default).ins.length+2) ([]:(List Int))).length a7)+((c.blocks.getD k default).ins.length+1) *Rp.sz (List Int),none⟩)))] (Hr_ 2 2 (Ha_ (vi (n:=((c.blocks.getD k default).ins.length:Int)+1) M) (Ha_ (Sv.ix (j:=((c.blocks.getD k default).ins.length:Int)+1) (OS.sv c9 co (i:=3) V) M M) Hn_))) co V V fun _=>?_
  refine d5 (cy (α:=(List Int)) (j:=(c.blocks.getD k default).ins.length+1) (off:=0) (q:=3) (y4.getD k default) c9 co V V V V V V V V (aT (x:=default) M) V (by rintro cs ⟨_,_,rfl,_⟩;exact⟨a06 V,⟨(cA (av k) 0),(cK (av k) 0),V,hz⟩⟩)) V ?_;rintro _ nA ki ⟨ci,b2,_⟩;have lf:=OS.len' ci;refine ae 3 V ?_;refine bF 1 44 51 [] [(51,(.bool (((c.blocks.getD k default).fin==2)||((c.blocks.getD k default).fin==3))))] (Hr_ 1 2 (bt 5 (fun _=>(ql 3 1 (i_ b2 V) V V)) Hn_)) b2 V V fun _=>?_
  let e4:Fp:=(fP dk [(sL (cA (c7 k) 0) (c.blocks.getD k default).ins.length (cK (c7 k) 0)),(iI (c.blocks.getD k default).fin),(iI (c.blocks.getD k default).reg),(iI (c.blocks.getD k default).tgt),(iI (c.blocks.getD k default).els)])
  refine bH (fun f H'=> ∃(s1:List Int) (ax:Option Addr) (a1:Nat) (F':Fz),Fz.le F8 F'/\HS (Base.of H []) F' H' [dt,ag,e4,ki] R/\SR F' (sL ax s1.length a1) s1/\aA f [(4,(sL c5 y4.length c6)),(5,(sL N al.length T)),(7,(pT dk 0)),(8,(sL a6 (List.replicate ((c.blocks.getD k default).ins.length+2) ([]:(List Int))).length a7)),(9,(sL ax s1.length a1)),(21,(sL ar c.blocks.length aw)),(22,(iI (c.blocks.length:Int))),(23,(iI (k:Int)))]/\(Lst s1 (ptS c k (c.blocks.getD k default).ins.length))) (fun ht=>?_) ?_
  ·refine az 0 0 (v:=(((c.blocks.getD k default).fin==2)||((c.blocks.getD k default).fin==3))) V V V V (fun dl=>?_) (fun dl=>?_)
   ·try simp only[BS]at dl
    have cv:=dl;have oP:=jb cv;refine aa ?_;refine bn 3 0 52 54 [] [(52,(sL (cA (av k) 0) (y4.getD k default).length (cK (av k) 0))),(54,(iI (c.blocks.getD k default).reg))] (Hr_ 2 2 Hn_) b2 V V fun _=>?_
    refine aH (aq V V V) V V (dG ex (y4.getD k default) (c.blocks.getD k default).reg (HS.call b2) hz M hT o_ o_) ?_;rintro _ nC ⟨e5,hu,n8,ne,hS,d4,rfl,hC,rfl⟩;replace d4:=HS.back b2 V d4;refine wa (sL e5 (dJ (y4.getD k default) (c.blocks.getD k default).reg).length hu) V V V ?_;refine ae 0 V ?_;exact ht _ _ ⟨dJ (y4.getD k default) (c.blocks.getD k default).reg,e5,hu,_,(hS),d4,hC,(agC V (agC V (agC V (agC V (agC V (agC V (agC V (agC V agN)))))))),(by first|exact end_yes2 (bk.hy k z) cv (jb cv).1|exact end_no2 (bk.hy k z) (show ¬((c.blocks.getD k default).fin=2\/(c.blocks.getD k default).fin=3) by omega))⟩
   try simp only[BS]at dl
   have cv:=dl;exact ht _ _ ⟨(y4.getD k default),(cA (av k) 0),(cK (av k) 0),_,fR,b2,hz,(agC V (agC V (agC V (agC V (agC V (agC V (agC V (agC V agN)))))))),(by first|exact end_yes2 (bk.hy k z) cv (jb cv).1|exact end_no2 (bk.hy k z) (show ¬((c.blocks.getD k default).fin=2\/(c.blocks.getD k default).fin=3) by omega))⟩
  skip;rintro nQ nB ⟨s1,ax,a1,it,b7,d3,ds,g7,hJ⟩;refine ap _ g7 (fun _=>?_);clear g7;replace ci:=ci.mono b7;refine aj 2 V ?_;refine aa ?_;refine bn 6 0 56 61 [] [(60,(sL ax s1.length a1)),(61,(.pointer (some ⟨sB (sL a6 (List.replicate ((c.blocks.getD k default).ins.length+2) ([]:(List Int))).length a7),sO (sL a6 (List.replicate ((c.blocks.getD k default).ins.length+2) ([]:(List Int))).length a7)+(c.blocks.getD k default).ins.length *Rp.sz (List Int),none⟩)))] (Hr_ 2 2 (Ha_ (Sv.ix (j:=((c.blocks.getD k default).ins.length:Int)) (OS.sv ci d3 (i:=3) V) M M) Hn_)) d3 V V fun _=>?_
  refine d5 (cy (α:=(List Int)) (j:=(c.blocks.getD k default).ins.length) (off:=0) (q:=3) s1 ci d3 V V V V V V V V (aT (x:=default) M) V (by rintro cs ⟨_,_,rfl,_⟩;exact⟨a06 V,⟨ax,a1,V,ds⟩⟩)) V ?_;rintro _ nD kk ⟨d1,hg,_⟩;have ll:=OS.len' d1;refine ae 3 V ?_;refine bF 2 62 65 [10] [(10,(iI (((c.blocks.getD k default).ins.length:Int)-1)))] (Hr_ 1 2 (Ha_ (vi (n:=((c.blocks.getD k default).ins.length:Int)-1) M) Hn_)) hg V V fun _=>?_
  refine ah (fun(mm:Nat) f H'=> ∃(sw:List Int) (pl:List (List Int)) (iz:Int) (bl:Option Addr) (bz:Nat) (A:Option Addr) (E:Nat) (a3:Fp) (F':Fz),Fz.le it F'/\HS (Base.of H []) F' H' [dt,ag,e4,a3] R/\SR F' (sL bl sw.length bz) sw/\OS F' (sL A pl.length E) pl a3/\aA f [(4,(sL c5 y4.length c6)),(5,(sL N al.length T)),(7,(pT dk 0)),(8,(sL A pl.length E)),(9,(sL bl sw.length bz)),(10,(iI iz)),(21,(sL ar c.blocks.length aw)),(22,(iI (c.blocks.length:Int))),(23,(iI (k:Int)))]/\mm=(iz+1).toNat/\(pl.length=(c.blocks.getD k default).ins.length+2)/\(-1<=iz/\iz<((c.blocks.getD k default).ins.length:Int))/\(∀j,(iz+1).toNat<=j->j<=(c.blocks.getD k default).ins.length->Lst (dw pl j) (ptS c k j))/\(Lst (dw pl ((c.blocks.getD k default).ins.length+1)) (lR c k))/\(Lst sw (ptS c k (iz+1).toNat))) _ ⟨s1,((List.replicate ((c.blocks.getD k default).ins.length+2) ([]:(List Int))).set ((c.blocks.getD k default).ins.length+1) (y4.getD k default)).set (c.blocks.getD k default).ins.length s1,((c.blocks.getD k default).ins.length:Int)-1,ax,a1,a6,a7,kk,_,fR,hg,ds,(OS.norm d1),(agC V (agC V (agC V (agC (show Value.slice a6 (List.replicate ((c.blocks.getD k default).ins.length+2) ([]:(List Int))).length a7=Value.slice a6 (((List.replicate ((c.blocks.getD k default).ins.length+2) ([]:(List Int))).set ((c.blocks.getD k default).ins.length+1) (y4.getD k default)).set (c.blocks.getD k default).ins.length s1).length a7 by rw[OS.len' d1]) (agC V (agC V (agC V (agC V (agC V agN))))))))),V,u_,(by first|assumption|omega|(simp at *;omega)),(by exact fun j h1 h2=>by(rw[show j=(c.blocks.getD k default).ins.length by omega,cZ u_,if_pos rfl];exact hJ)),(by rw[cZ u_,if_neg M,cZ u_,if_pos rfl];exact bk.hy k z),(by rw[show((((c.blocks.getD k default).ins.length:Nat):Int)-1+1).toNat=(c.blocks.getD k default).ins.length by omega];exact hJ)⟩ ?_;rintro m7 nR nE ⟨sw,pl,iz,bl,bz,A,E,a3,ng,b8,b3,c0,Z,g8,rfl,f1,f2,f3,f4,f5⟩ ib;refine ap _ g8 (fun _=>?_);clear g8;replace hT:=(hT.mono b7).mono b8;replace a5:=(a5.mono b7).mono b8;replace an:=(an.mono b7).mono b8;refine aj 2 V ?_;refine wT 1 [] 66 67 [] [(67,(.bool (decide ((0:Int)<=iz))))] V fun _=>?_
  refine az 5 4 (v:=(decide ((0:Int)<=iz))) V V V V (fun f0=>?_) (fun f0=>?_)
  ·try simp only[BS]at f0
   have l3:iz.toNat<(c.blocks.getD k default).ins.length:=M
   have ld:(∀x∈aI ((c.blocks.getD k default).ins.getD iz.toNat default),0<=x/\x<c.regs)/\(∀x∈ab ((c.blocks.getD k default).ins.getD iz.toNat default),0<=x/\x<c.regs)/\((c.blocks.getD k default).ins.getD iz.toNat default).args.length<=6:=bx (vF.ins k z iz.toNat l3);have m0:=ld.2.2;have oU:=dN (v:=((c.blocks.getD k default).ins.getD iz.toNat default));have mY:=ey (v:=((c.blocks.getD k default).ins.getD iz.toNat default));refine aa ?_;obtain⟨go,hm⟩:=Sv.view (SR.sv an b3);obtain⟨kz,k0,k3,k4,k5,hF⟩:=VInT.fx (hm iz.toNat);refine bn 5 0 70 74 [] [(74,(aG [(iI ((c.blocks.getD k default).ins.getD iz.toNat default).i.op),(iI ((c.blocks.getD k default).ins.getD iz.toNat default).i.a),(iI ((c.blocks.getD k default).ins.getD iz.toNat default).i.b),(iI ((c.blocks.getD k default).ins.getD iz.toNat default).i.c),(iI ((c.blocks.getD k default).ins.getD iz.toNat default).i.n),(sL (cA (go iz.toNat) 5) ((c.blocks.getD k default).ins.getD iz.toNat default).args.length (cK (go iz.toNat) 5))]))] (Hr_ 1 2 (Ha_ (Sv.ix (j:=iz) (SR.sv an b3) M M) (Hl_ 4 (qn 47 0 6 (VInT.vw (hm iz.toNat) M) V V V V) Hn_))) b3 V V fun _=>?_
   refine aH (aq V V V) V V (ma.jL ex ((c.blocks.getD k default).ins.getD iz.toNat default) (HS.call b3) M M M M M hF hT) ?_;rintro _ nF ⟨hQ,ik,n9,hM,iv,b9,ea,rfl,b5,rfl⟩;replace ea:=HS.back b3 V ea;replace c0:=c0.mono b9;refine cj 2 6 76 77 [] [(76,(iI ((ab ((c.blocks.getD k default).ins.getD iz.toNat default)).length:Int))),(77,(iI 0))] Hn_ (by kernel_rfl) V fun _=>?_
   refine ae 2 V ?_;refine ah (fun(mm:Nat) f H'=> ∃(w1:List Int) (q:Nat) (ay:Option Addr) (a2:Nat) (F':Fz),Fz.le iv F'/\HS (Base.of H []) F' H' [dt,ag,e4,a3,hM] R/\SR F' (sL ay w1.length a2) w1/\aA f [(4,(sL c5 y4.length c6)),(5,(sL N al.length T)),(7,(pT dk 0)),(8,(sL A pl.length E)),(9,(sL ay w1.length a2)),(10,(iI iz)),(21,(sL ar c.blocks.length aw)),(22,(iI (c.blocks.length:Int))),(23,(iI (k:Int))),(75,(sL hQ (ab ((c.blocks.getD k default).ins.getD iz.toNat default)).length ik)),(76,(iI ((ab ((c.blocks.getD k default).ins.getD iz.toNat default)).length:Int))),(77,(iI (q:Int)))]/\mm=(ab ((c.blocks.getD k default).ins.getD iz.toNat default)).length-q/\(Lst w1 (wrS (ptS c k (iz.toNat+1)) (ab ((c.blocks.getD k default).ins.getD iz.toNat default)) q))/\(q<=(ab ((c.blocks.getD k default).ins.getD iz.toNat default)).length)) _ ⟨sw,0,bl,bz,_,fR,ea,c0,(agC V (agC V (agC V (agC V (agC V (agC V (agC V (agC V (agC V (agC V (agC V (agC V agN)))))))))))),V,(by exact wr_zero (by rw[show iz.toNat+1=(iz+1).toNat by omega];exact f5)),(by first|assumption|omega|(simp at *;omega))⟩ ?_;rintro m8 nS nG ⟨w1,q,ay,a2,nh,a8,U,a0,g9,rfl,g1,g2⟩ hr;refine ap _ g9 (fun _=>?_);clear g9;replace hT:=(hT.mono b9).mono a8;replace b5:=b5.mono a8;replace Z:=(Z.mono b9).mono a8;replace an:=(an.mono b9).mono a8;have nV:=Lst.len g1 jw.1 (fun r h=>wr_lt (fun r h=>eB vF z h) h);have nU:=g1.asc;refine aj 1 V ?_;refine wT 2 [] 78 78 [] [(78,(.bool (decide ((q:Int)<((ab ((c.blocks.getD k default).ins.getD iz.toNat default)).length:Int)))))] V fun _=>?_
   refine az 4 6 (v:=(decide ((q:Int)<((ab ((c.blocks.getD k default).ins.getD iz.toNat default)).length:Int)))) V V V V (fun f6=>?_) (fun f6=>?_)
   ·try simp only[BS]at f6
    obtain⟨l1,hn⟩:=Sv.view (OS.sv b5 U (i:=4) V);have nY:=fI (hn q);refine wrp 2 79 80 [12] [(12,(iI ((ab ((c.blocks.getD k default).ins.getD iz.toNat default)).getD q 0)))] (Ha_ (Sv.ix (j:=(q:Int)) (OS.sv b5 U (i:=4) V) M M) (Hl_ 1 (ql 3 0 (vI (hn q) M) V V) Hn_)) (by kernel_rfl) V fun _=>?_
    refine wU 1 [(2,.o (.bool (bS w1 ((ab ((c.blocks.getD k default).ins.getD iz.toNat default)).getD q 0))))] 81 83 [] [(83,(.bool (bS w1 ((ab ((c.blocks.getD k default).ins.getD iz.toNat default)).getD q 0))))] (bQ ex w1 ((ab ((c.blocks.getD k default).ins.getD iz.toNat default)).getD q 0) (HS.call U) a0 M hT o_ o_) V fun _=>?_
    refine az 0 2 (v:=(bS w1 ((ab ((c.blocks.getD k default).ins.getD iz.toNat default)).getD q 0))) V V V V (fun f7=>?_) (fun f7=>?_)
    ·try simp only[BS]at f7
     refine aa ?_;refine wTo 2 0 [] 84 85 [] [(84,(sL ay w1.length a2)),(85,(iI ((ab ((c.blocks.getD k default).ins.getD iz.toNat default)).getD q 0)))] V fun _=>?_
     refine aH (aq V V V) V V (without_c ex w1 ((ab ((c.blocks.getD k default).ins.getD iz.toNat default)).getD q 0) (HS.call U) a0 M hT M) ?_;rintro _ nH ⟨e6,hv,oa,n6,nj,hV,em,rfl,hD,rfl⟩;replace em:=HS.back U V em;refine wa (sL e6 (gE w1 [((ab ((c.blocks.getD k default).ins.getD iz.toNat default)).getD q 0)]).length hv) V V V ?_;refine ae 2 V ?_;refine wU 1 [] 77 77 [87] [(77,(iI ((q:Int)+1)))] (vi (n:=(q:Int)+1) M) V fun _=>?_
     obtain⟨nk,hW,h6,h3,mW⟩:=OS.frz hD em (i:=5) V;refine hr _ _ _ ?_ ⟨gE w1 [((ab ((c.blocks.getD k default).ins.getD iz.toNat default)).getD q 0)],q+1,e6,hv,_,(fT (fT (a8) hV) hW),(HS.sub h6 (a02 _ _)),h3,(agC V (agC V (agC V (agC V (agC V (agC V (agC V (agC V (agC V (agC V (agC V (agC V agN)))))))))))),V,(by first|exact wr_yes M g1|exact wr_no M (by simp_all;done) g1),(by first|assumption|omega|(simp at *;omega))⟩;omega
    try simp only[BS]at f7
    refine wU 1 [] 77 77 [87] [(77,(iI ((q:Int)+1)))] (vi (n:=(q:Int)+1) M) V fun _=>?_
    refine hr _ _ _ ?_ ⟨w1,q+1,ay,a2,_,(a8),U,a0,(agC V (agC V (agC V (agC V (agC V (agC V (agC V (agC V (agC V (agC V (agC V (agC V agN)))))))))))),V,(by first|exact wr_yes M g1|exact wr_no M (by simp_all;done) g1),(by first|assumption|omega|(simp at *;omega))⟩;omega
   try simp only[BS]at f6
   refine aa ?_;obtain⟨g0,hp⟩:=Sv.view (SR.sv an U);obtain⟨k6,k7,k8,k9,la,hG⟩:=VInT.fx (hp iz.toNat);refine bn 5 0 88 92 [] [(92,(aG [(iI ((c.blocks.getD k default).ins.getD iz.toNat default).i.op),(iI ((c.blocks.getD k default).ins.getD iz.toNat default).i.a),(iI ((c.blocks.getD k default).ins.getD iz.toNat default).i.b),(iI ((c.blocks.getD k default).ins.getD iz.toNat default).i.c),(iI ((c.blocks.getD k default).ins.getD iz.toNat default).i.n),(sL (cA (g0 iz.toNat) 5) ((c.blocks.getD k default).ins.getD iz.toNat default).args.length (cK (g0 iz.toNat) 5))]))] (Hr_ 1 2 (Ha_ (Sv.ix (j:=iz) (SR.sv an U) M M) (Hl_ 4 (qn 47 0 6 (VInT.vw (hp iz.toNat) M) V V V V) Hn_))) U V V fun _=>?_
   refine aH (aq V V V) V V (ma.vreads_c ex ((c.blocks.getD k default).ins.getD iz.toNat default) (HS.call U) M M M M M hG hT M) ?_;rintro _ nI ⟨hR,il,ob,kl,i2,c8,et,rfl,b6,rfl⟩;replace et:=HS.back U V et;replace a0:=a0.mono c8;refine cj 2 6 94 95 [] [(94,(iI ((aI ((c.blocks.getD k default).ins.getD iz.toNat default)).length:Int))),(95,(iI 0))] Hn_ (by kernel_rfl) V fun _=>?_
   refine ae 2 V ?_;refine ah (fun(mm:Nat) f H'=> ∃(w2:List Int) (p:Nat) (a_:Option Addr) (ad:Nat) (F':Fz),Fz.le i2 F'/\HS (Base.of H []) F' H' [dt,ag,e4,a3,hM,kl] R/\SR F' (sL a_ w2.length ad) w2/\aA f [(4,(sL c5 y4.length c6)),(5,(sL N al.length T)),(7,(pT dk 0)),(8,(sL A pl.length E)),(9,(sL a_ w2.length ad)),(10,(iI iz)),(21,(sL ar c.blocks.length aw)),(22,(iI (c.blocks.length:Int))),(23,(iI (k:Int))),(93,(sL hR (aI ((c.blocks.getD k default).ins.getD iz.toNat default)).length il)),(94,(iI ((aI ((c.blocks.getD k default).ins.getD iz.toNat default)).length:Int))),(95,(iI (p:Int)))]/\mm=(aI ((c.blocks.getD k default).ins.getD iz.toNat default)).length-p/\(Lst w2 (rdS (wrS (ptS c k (iz.toNat+1)) (ab ((c.blocks.getD k default).ins.getD iz.toNat default)) q) (aI ((c.blocks.getD k default).ins.getD iz.toNat default)) p))/\(p<=(aI ((c.blocks.getD k default).ins.getD iz.toNat default)).length)) _ ⟨w1,0,ay,a2,_,fR,et,a0,(agC V (agC V (agC V (agC V (agC V (agC V (agC V (agC V (agC V (agC V (agC V (agC V agN)))))))))))),V,(by exact rd_zero g1),(by first|assumption|omega|(simp at *;omega))⟩ ?_;rintro m9 nT nJ ⟨w2,p,a_,ad,nm,cc,b4,c3,ha,rfl,g3,g4⟩ ih;refine ap _ ha (fun _=>?_);clear ha;replace hT:=(hT.mono c8).mono cc;replace b6:=b6.mono cc;replace Z:=(Z.mono c8).mono cc;have nX:=Lst.len g3 jw.1 (fun r h=>rd_lt (fun r h=>wr_lt (fun r h=>eB vF z h) h) ld.1 h);have nW:=g3.asc;refine aj 1 V ?_;refine wT 2 [] 96 96 [] [(96,(.bool (decide ((p:Int)<((aI ((c.blocks.getD k default).ins.getD iz.toNat default)).length:Int)))))] V fun _=>?_
   refine az 4 4 (v:=(decide ((p:Int)<((aI ((c.blocks.getD k default).ins.getD iz.toNat default)).length:Int)))) V V V V (fun f9=>?_) (fun f9=>?_)
   ·try simp only[BS]at f9
    obtain⟨l2,hq⟩:=Sv.view (OS.sv b6 b4 (i:=5) V);have nZ:=fI (hq p);refine wrp 1 97 98 [14] [(14,(iI ((aI ((c.blocks.getD k default).ins.getD iz.toNat default)).getD p 0)))] (Ha_ (Sv.ix (j:=(p:Int)) (OS.sv b6 b4 (i:=5) V) M M) (Hl_ 1 (ql 3 0 (vI (hq p) M) V V) Hn_)) (by kernel_rfl) V fun _=>?_
    refine aa ?_;refine wTo 2 0 [] 99 100 [] [(99,(sL a_ w2.length ad)),(100,(iI ((aI ((c.blocks.getD k default).ins.getD iz.toNat default)).getD p 0)))] V fun _=>?_
    refine aH (aq V V V) V V (dG ex w2 ((aI ((c.blocks.getD k default).ins.getD iz.toNat default)).getD p 0) (HS.call b4) c3 M hT o_ o_) ?_;rintro _ nK ⟨fd,hw,oc,nn,hX,ez,rfl,hE,rfl⟩;replace ez:=HS.back b4 V ez;refine wa (sL fd (dJ w2 ((aI ((c.blocks.getD k default).ins.getD iz.toNat default)).getD p 0)).length hw) V V V ?_;refine ae 2 V ?_;refine wU 1 [] 95 95 [102] [(95,(iI ((p:Int)+1)))] (vi (n:=(p:Int)+1) M) V fun _=>?_
    refine ih _ _ _ ?_ ⟨dJ w2 ((aI ((c.blocks.getD k default).ins.getD iz.toNat default)).getD p 0),p+1,fd,hw,_,(fT (cc) hX),ez,hE,(agC V (agC V (agC V (agC V (agC V (agC V (agC V (agC V (agC V (agC V (agC V (agC V agN)))))))))))),V,(by exact rd_yes M (dm ld.1 M).1 g3),(by first|assumption|omega|(simp at *;omega))⟩;omega
   try simp only[BS]at f9
   have hd:Lst w2 (ptS c k iz.toNat):=pt_done l3 (show(ab ((c.blocks.getD k default).ins.getD iz.toNat default)).length<=q by omega) (show(aI ((c.blocks.getD k default).ins.getD iz.toNat default)).length<=p by omega) g3;refine aa ?_;refine cj 4 0 103 106 [] [(105,(sL a_ w2.length ad)),(106,(.pointer (some ⟨sB (sL A pl.length E),sO (sL A pl.length E)+iz.toNat *Rp.sz (List Int),none⟩)))] (Ha_ (Sv.ix (j:=iz) (OS.sv Z b4 (i:=3) V) M M) Hn_) (by kernel_rfl) V fun _=>?_
   refine d5 (cy (α:=(List Int)) (j:=iz.toNat) (off:=0) (q:=3) w2 Z b4 V V V V V V V V (aT (x:=default) M) V (by rintro cs ⟨_,_,rfl,_⟩;exact⟨a06 V,⟨a_,ad,V,c3⟩⟩)) V ?_;rintro _ nL kn ⟨d2,h7,_⟩;have lr:=OS.len' d2;refine ae 2 V ?_;refine wU 1 [] 68 69 [10] [(10,(iI (iz-1)))] (vi (n:=iz-1) M) V fun _=>?_
   refine ib _ _ _ ?_ ⟨w2,pl.set iz.toNat w2,iz-1,a_,ad,A,E,kn,_,(fT (fT (fT (fT (b8) b9) a8) c8) cc),(HS.sub h7 (a02 _ _)),c3,(OS.norm d2),(agC V (agC V (agC V (agC (show Value.slice A pl.length E=Value.slice A (pl.set iz.toNat w2).length E by rw[OS.len' d2]) (agC V (agC V (agC V (agC V (agC V agN))))))))),V,(by rw[a0c];exact f1),(by first|assumption|omega|(simp at *;omega)),(by rw[show(iz-1+1).toNat=iz.toNat by omega];exact pset f1 (fun j h1 h2=>f3 j (show(iz+1).toNat<=j by omega) h2) (show iz.toNat<=(c.blocks.getD k default).ins.length by omega) hd),(by rw[cZ (by rw[f1];omega),if_neg M];exact f4),(by rw[show(iz-1+1).toNat=iz.toNat by omega];exact hd)⟩;omega
  try simp only[BS]at f0
  refine aa ?_;refine wTo 2 0 [] 107 108 [] [(107,(sL N al.length T)),(108,(sL A pl.length E))] V fun _=>?_
  obtain⟨np,g6,h8,h4,mX⟩:=OS.frz Z b3 (i:=3) V;replace a5:=a5.mono g6;refine zlo ([pl]:List (List (List Int))) h8 V (RL.cs ⟨A,E,V,h4⟩ RL.nl) V fun nO n3 n7 nM hY hh=>?_
  refine zao 1 a5 hh (OS.sv hY hh (i:=4) V) V V V k_ fun hH hK ko nN h0 h9=>?_
  refine wa (sL hH (al++([pl]:List (List (List Int)))).length hK) V V V ?_;refine ae 2 V ?_;refine wU 1 [] 23 23 [111] [(23,(iI ((k:Int)+1)))] (vi (n:=(k:Int)+1) M) V fun _=>?_
  refine kd _ _ _ ?_ ⟨al++([pl]:List (List (List Int))),k+1,hH,hK,ko,_,(fT (fT (fT (dn) b7) b8) g6),(HS.sub h9 (a02 _ _)),h0,(agC V (agC V (agC V (agC V (agC V agN))))),V,m_,(by first|assumption|omega|(simp at *;omega)),(by exact ps_snoc e1 e2 ⟨f1,fun i hi=>f3 i M hi,f4⟩)⟩;omega
 try simp only[BS]at fi
 refine wT 1 [] 2 2 [112] [(2,(sL N al.length T))] V fun _=>?_
 refine am ⟨.inr V,_,V,N,T,al,ag,_,(fT (g5) dn),(HS.only e3 (i:=1) V),V,a5,(by exact⟨by omega,fun b hb=>e2 b M⟩)⟩
end Go.Proofs.YtgdggmlghemecaaDoor.na
