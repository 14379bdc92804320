/-
What the generator of programs gives: a number, a name, an expression. No condition but that it goes no deeper than four.
-/
import Derived.Test.YtapgbjedgcpffaaGreatZRL1
import Derived.Test.YtapgbjedgcpffaaGreatZRPT
noncomputable section
namespace Go.Proofs.YtapgbjedgcpffaaGreat.ga
open Go.R
set_option maxRecDepth 10000
set_option linter.unusedVariables false
set_option linter.unusedSimpArgs false
variable (ex:FuncId) {F:Fz} {H:Heap} {R:List Fp}
open w3 l1 pt
abbrev zGA1:List Str:=[⟨[97]⟩,⟨[98]⟩]
abbrev zGA2:List Str:=[⟨[120]⟩,⟨[121]⟩,⟨[105]⟩,⟨[106]⟩]
abbrev zGA3:List Str:=[⟨[110]⟩,⟨[105]⟩]
structure RdT where
 l:(List Int)
 n:Int
 deriving Inhabited
instance :Rp RdT where
 sz:=2
 rep F cs x:= ∃a0 k0,cs=[sL a0 x.l.length k0,iI x.n]/\in64 x.n/\SR F (sL a0 x.l.length k0) x.l
 len:=by rintro F cs x ⟨a0,k0,rfl,_⟩;rfl
 one:=by rintro F cs x ⟨a0,k0,rfl,_⟩;rfl
 mono:=by rintro F F' cs x hF ⟨a0,k0,rfl,h0,h1⟩;exact⟨a0,k0,V,h0,h1.mono hF⟩
theorem nj{n m:Int}(T:0<m):0<=gU n m/\gU n m<m:=by
 have E: -m<n.tmod m:=Int.lt_tmod_of_pos n T;have O:n.tmod m<m:=Int.tmod_lt_of_pos n T;unfold gU;by_cases hc:n.tmod m<0
 ·simp only[decide_eq_true hc,cond_true];omega
 simp only[decide_eq_false hc,cond_false];omega
def aw(n:Int)(m:Nat):Nat:=(gU n m).toNat
theorem br{n:Int}{m:Nat}(h:0<m):aw n m<m:=by have:=nj (n:=n) (m:=(m:Int)) M;unfold aw;omega
theorem cF(n:Int)(m:Nat):0<m->aw n m<m:=br
def aT(f:Int):List Str:=if f=0 then [⟨[120]⟩,⟨[121]⟩,⟨[105]⟩,⟨[106]⟩] else [⟨[110]⟩,⟨[105]⟩]
def edgesG:List Int:=[0,1,-1,2,-9223372036854775808,9223372036854775807,4294967296,-2147483648,63,64]
def mX(n:Nat)(E:Int):Int:=if aw n 24<10 then edgesG.getD (aw n 24) 0 else if aw n 24<22 then(aw ((n/24:Nat):Int) 17:Int)-6 else E
def abG:List Str:=[⟨[97]⟩,⟨[98]⟩]
def hdG(r:RdT):Int:=r.l.headD 0
def ao(r:RdT):RdT:=⟨r.l.tail,r.n⟩
def nmG(f n:Int):Str:=(aT f).getD (((aw (n.tdiv 16) 1000:Nat):Int).tmod ((aT f).length:Int)).toNat default
def nx(f n:Int)(deep:Bool):ExpT:=
 if aw n 16%2=0\/(deep=true/\8<aw n 16) then mkE 2 0 (nmG f n) 0 []
 else mkE 1 (mX (aw (n.tdiv 16) 1000) n) dy 0 []
def am(f:Int):Nat->RdT->ExpT×RdT
 |0,r=>(nx f (hdG r) true,ao r)
 |d+1,r=>
  if aw (hdG r) 16<4 then(nx f (hdG r) false,ao r)
  else if aw (hdG r) 16<6 then(mkE 3 0 (abG.getD (aw ((hdG r).tdiv 16) 1000%2) default) 0 [(am f d (ao r)).1],(am f d (ao r)).2)
  else if aw (hdG r) 16<7 then(mkE 5 0 dy 0 [(am f d (ao r)).1,(am f d (am f d (ao r)).2).1,(am f d (am f d (am f d (ao r)).2).2).1],(am f d (am f d (am f d (ao r)).2).2).2)
  else if aw (hdG r) 16<9 then(mkE 4 0 dy (([20,21]:List Int).getD (aw ((hdG r).tdiv 16) 1000%2) 0) [(am f d (ao r)).1],(am f d (ao r)).2)
  else(mkE 4 0 dy (4+((aw ((hdG r).tdiv 16) 1000%15:Nat):Int)) [(am f d (ao r)).1,(am f d (am f d (ao r)).2).1],(am f d (am f d (ao r)).2).2)
theorem sr_in{F:Fz}{v:Value}{l:List Int}(h:SR F v l)(i:Nat):in64 (l.getD i 0):=by
 rcases a0c i l.length with hi|hi
 ·obtain⟨cf,hc⟩:=h.view;exact((hc i).1 0 hi).1.2
 rw[bh hi];decide
theorem len0{l:List Int}(h:(l.length:Int)=0):l=[]:=a0i M
theorem hd_0{r:RdT}(h:r.l=[]):(0:Int)=hdG r:=by unfold hdG;rw[h];rfl
theorem hd_1{r:RdT}:r.l.getD 0 0=hdG r:=by unfold hdG;cases r.l<;>rfl
theorem nx_0{r:RdT}(h:r.l=[]):(⟨r.l,r.n⟩:RdT)=ao r:=by unfold ao;rw[h];rfl
theorem nx_1{r:RdT}:(⟨r.l.drop 1,r.n⟩:RdT)=ao r:=by unfold ao;rw[List.drop_one]
theorem os_nin{α:Type} [Rp α]{B:Base}{F:Fz}{H:Heap}{L R:List Fp}{v:Value}{l:List α}{p q:Fp}{i j m:Nat}(h:OS F v l p)(s:HS B F H L R)(hi:L[i]?=some p)(O:L[j]?=some q)(E:i≠j)(T:m<l.length):sB v∉q.map Prod.fst:=by
 rcases h with⟨_,rfl,_⟩|⟨b,off,k,cs,U,rfl,rfl,_⟩
 ·exact absurd T (Nat.not_lt_zero _)
 exact s.nin hi O E (a0v.2 V)
theorem bD(f:Int):0<(aT f).length:=by unfold aT;split<;>decide
theorem cS(f:Int)(a:Nat):((a:Int).tmod ((aT f).length:Int)).toNat<(aT f).length:=by have h:=bD f;have E:=Int.tmod_lt_of_pos (a:Int) (b:=((aT f).length:Int)) M;omega
theorem cW(f:Int)(a:Nat):0<=(a:Int).tmod ((aT f).length:Int):=Int.tmod_nonneg _ (a1C _)
theorem bI(f:Int)(a:Nat):(a:Int).tmod ((aT f).length:Int)<((aT f).length:Int):=by have:=cW f a;have:=cS f a;omega
theorem lf_v{f n:Int}{deep:Nat}(h:aw n 16%2=0\/(3<deep/\8<aw n 16)):nx f n (decide (3<deep))=⟨2,0,nmG f n,0,[]⟩:=by unfold nx;rw[if_pos (by rw[decide_eq_true_eq];exact h)];rfl
theorem lf_n{f n:Int}{deep:Nat}(h: ¬(aw n 16%2=0\/(3<deep/\8<aw n 16))):nx f n (decide (3<deep))=⟨1,mX (aw (n.tdiv 16) 1000) n,⟨[]⟩,0,[]⟩:=by unfold nx;rw[if_neg (by rw[decide_eq_true_eq];exact h)];rfl
theorem ex_A{f:Int}{r:RdT}{deep:Nat}(hd:deep<=4)(h:aw (hdG r) 16<4\/3<deep):am f (4-deep) r=(nx f (hdG r) (decide (3<deep)),ao r):=by
 rcases a0c 3 deep with E|E
 ·rw[show 4-deep=0 by omega,am,decide_eq_true E]
 rw[show 4-deep=(3-deep)+1 by omega,am,if_pos M,decide_eq_false M]
theorem ex_B{f:Int}{r:RdT}{deep:Nat}(h: ¬(aw (hdG r) 16<4\/3<deep))(E:aw (hdG r) 16<6):am f (4-deep) r=(⟨3,0,abG.getD (aw ((hdG r).tdiv 16) 1000%2) default,0,[(am f (4-(deep+1)) (ao r)).1]⟩,(am f (4-(deep+1)) (ao r)).2):=by rw[show 4-deep=(4-(deep+1))+1 by omega,am,if_neg M,if_pos E];rfl
theorem ex_C{f:Int}{r:RdT}{deep:Nat}(h: ¬(aw (hdG r) 16<4\/3<deep))(E: ¬aw (hdG r) 16<6)(O:aw (hdG r) 16<7):am f (4-deep) r=(⟨5,0,⟨[]⟩,0,[(am f (4-(deep+1)) (ao r)).1,(am f (4-(deep+1)) (am f (4-(deep+1)) (ao r)).2).1,(am f (4-(deep+1)) (am f (4-(deep+1)) (am f (4-(deep+1)) (ao r)).2).2).1]⟩,(am f (4-(deep+1)) (am f (4-(deep+1)) (am f (4-(deep+1)) (ao r)).2).2).2):=by rw[show 4-deep=(4-(deep+1))+1 by omega,am,if_neg M,if_neg E,if_pos O];rfl
theorem ex_D{f:Int}{r:RdT}{deep:Nat}(h: ¬(aw (hdG r) 16<4\/3<deep))(E: ¬aw (hdG r) 16<7)(O:aw (hdG r) 16<9):am f (4-deep) r=(⟨4,0,⟨[]⟩,([20,21]:List Int).getD (aw ((hdG r).tdiv 16) 1000%2) 0,[(am f (4-(deep+1)) (ao r)).1]⟩,(am f (4-(deep+1)) (ao r)).2):=by rw[show 4-deep=(4-(deep+1))+1 by omega,am,if_neg M,if_neg M,if_neg E,if_pos O];rfl
theorem ex_E{f:Int}{r:RdT}{deep:Nat}(h: ¬(aw (hdG r) 16<4\/3<deep))(E: ¬aw (hdG r) 16<9):am f (4-deep) r=(⟨4,0,⟨[]⟩,4+((aw ((hdG r).tdiv 16) 1000%15:Nat):Int),[(am f (4-(deep+1)) (ao r)).1,(am f (4-(deep+1)) (am f (4-(deep+1)) (ao r)).2).1]⟩,(am f (4-(deep+1)) (am f (4-(deep+1)) (ao r)).2).2):=by rw[show 4-deep=(4-(deep+1))+1 by omega,am,if_neg M,if_neg M,if_neg M,if_neg E];rfl
theorem edges_in: ∀k,in64 (edgesG.getD k 0):=by
 intro k;rcases a0c k 10 with h|h
 ·have: ∀k:Fin 10,in64 (edgesG.getD k.val 0):=by decide
  exact this ⟨k,h⟩
 rw[show edgesG.getD k 0=0 from bh h];decide
theorem word_in{n:Nat}{E:Int}(h:in64 E):in64 (mX n E):=by
 unfold mX;have:=br (n:=((n/24:Nat):Int)) (m:=17) e_;split
 ·exact edges_in _
 split
 ·omega
 exact h
theorem pickn_c(n:Int)(m:Nat)(H:Heap)(E:0<m/\m<9223372036854775808):kKt ex 11 [(iI n),(iI (m:Int))] H fun v H'=> ∃(r:Nat),H'=H/\v=iI (r:Int)/\r=aw n m/\r<m:=by
 refine(l1.pick_c_q ex n m H M).mono fun v H' h=>?_
 obtain⟨rfl,rfl⟩:=h;have:=nj (n:=n) (m:=(m:Int)) M;exact⟨_,V,by unfold aw;congr 1;omega,V,by unfold aw;omega⟩
theorem cE(n:Int)(m:Nat)(H:Heap)(E:0<m/\m<9223372036854775808):kKt ex 11 [(iI n),(iI (m:Int))] H fun v H'=>v=(iI ((aw n m:Nat):Int))/\H'=H:=
 cq (pickn_c ex n m H E) (by rintro _ _ ⟨_,rfl,rfl,rfl,_⟩;exact⟨V,V⟩)
theorem gnames_c(f:Int)(hs:HS (.of H []) F H [] R):kKt ex 65 [(iI f)] H fun v H'=> ∃(ax:Option Addr) (kx:Nat) (x:List Str) (F':Fz),Fz.le F F'/\HS (.of H []) F' H' [] R/\v=sL ax x.length kx/\SR F' (sL ax x.length kx) x/\x=aT f:=by
 refine av Tryz.func65 V V ?_;refine ai 1 V ?_;refine wr 3 [] 2 2 [] [(2,(sL _ 0 0))] trivial V V fun _=>?_
 refine wr 1 [] 3 4 [] [(4,(.bool (f==0)))] trivial V V fun _=>?_
 refine zi 1 2 (fun E=>?_) fun E=>?_
 ·try simp only[BS]at E
  refine ab ?_;refine zlo zGA2 hs V j_ V fun O k4 p4 H5 Z a1=>?_
  refine za (sL O _ k4) ?_;refine ah 1 V ?_;obtain⟨F6,U,a2,an,a9⟩:=OS.frz Z a1 (i:=0) V;refine ae ⟨.inr V,_,V,O,k4,_,_,(U),(HS.forget a2),V,an,(by first|rfl|(unfold aT;simp_all;done))⟩
 try simp only[BS]at E
 refine ab ?_;refine zlo zGA3 hs V j_ V fun T k7 p7 H8 al a3=>?_
 refine za (sL T _ k7) ?_;refine ah 1 V ?_;obtain⟨F9,Y,a5,a0,ba⟩:=OS.frz al a3 (i:=0) V;refine ae ⟨.inr V,_,V,T,k7,_,_,(Y),(HS.forget a5),V,a0,(by first|rfl|(unfold aT;simp_all;done))⟩
abbrev Po1(F:Fz)(H:Heap)(R:List Fp)(Φ:Int->Prop)(v:Value)(H':Heap):Prop:= ∃(x:Int) (F':Fz),Fz.le F F'/\HS (.of H []) F' H' [] R/\v=iI x/\Φ x
theorem gword_c(n:Nat)(al:Int)(hs:HS (.of H []) F H [] R)(a1:in64 al)(hn:n<1000):kKt ex 66 [(iI (n:Int)),(iI al)] H (Po1 F H R fun x=>x=mX n al/\(in64 x)):=by
 refine av Tryz.func66 V V ?_;refine ai 1 V ?_;refine wr 2 [] 4 4 [] [(4,(.int _ 0))] trivial V V fun _=>?_
 refine ab ?_;refine zlo ([0,1,_,2,_,_,_,_,63,64]:List Int) hs V (RL.cs ⟨V,by first|omega|(have:=br (n:=((n/24:Nat):Int)) (m:=17) e_;omega)|(dsimp only;omega)⟩ (RL.cs ⟨V,by first|omega|(have:=br (n:=((n/24:Nat):Int)) (m:=17) e_;omega)|(dsimp only;omega)⟩ (RL.cs ⟨V,by first|omega|(have:=br (n:=((n/24:Nat):Int)) (m:=17) e_;omega)|(dsimp only;omega)⟩ (RL.cs ⟨V,by first|omega|(have:=br (n:=((n/24:Nat):Int)) (m:=17) e_;omega)|(dsimp only;omega)⟩ (RL.cs ⟨V,by first|omega|(have:=br (n:=((n/24:Nat):Int)) (m:=17) e_;omega)|(dsimp only;omega)⟩ (RL.cs ⟨V,by first|omega|(have:=br (n:=((n/24:Nat):Int)) (m:=17) e_;omega)|(dsimp only;omega)⟩ (RL.cs ⟨V,by first|omega|(have:=br (n:=((n/24:Nat):Int)) (m:=17) e_;omega)|(dsimp only;omega)⟩ (RL.cs ⟨V,by first|omega|(have:=br (n:=((n/24:Nat):Int)) (m:=17) e_;omega)|(dsimp only;omega)⟩ (RL.cs ⟨V,by first|omega|(have:=br (n:=((n/24:Nat):Int)) (m:=17) e_;omega)|(dsimp only;omega)⟩ (RL.cs ⟨V,by first|omega|(have:=br (n:=((n/24:Nat):Int)) (m:=17) e_;omega)|(dsimp only;omega)⟩ RL.nl)))))))))) V fun Z k2 p2 U O E=>?_
 refine za (sL Z _ k2) ?_;refine ah 2 V ?_;have a0:=cF (n:Int) 24;refine wr 4 [(1,.o (.int _ _))] 8 9 [6] [(6,(.int _ _))] (vA (cE ex _ 24 U (by first|omega|(have:=br (n:=((n/24:Nat):Int)) (m:=17) e_;omega)|(dsimp only;omega))) trivial) V V fun _=>?_
 refine wr 1 [] 10 12 [] [(10,(.bool (decide (((aw _ 24:Nat):Int)<10))))] trivial V V fun _=>?_
 refine zd 1 1 (fun c7=>?_) fun c7=>?_
 ·obtain⟨ax,T⟩:=Sv.view (OS.sv O E (i:=0) V);have g9:=fI (T (aw (n:Int) 24));refine wrp 1 13 16 [4] [(4,(.int _ _))] (Ha_ (Sv.ix (OS.sv O E (i:=0) V) (by first|omega|(have:=br (n:=((n/24:Nat):Int)) (m:=17) e_;omega)|(dsimp only;omega)) (show((aw _ 24:Nat):Int)<(10:Int) from by first|omega|(have:=br (n:=((n/24:Nat):Int)) (m:=17) e_;omega)|(dsimp only;omega))) (Hl_ 3 (ql 2 0 (vI (T (aw _ 24)) (show aw (n:Int) 24<10 from by first|omega|(have:=br (n:=((n/24:Nat):Int)) (m:=17) e_;omega)|(dsimp only;omega))) V V) Hn_)) V V fun _=>?_
  refine ae ⟨.inr V,_,V,_,_,fR,(HS.forget E),V,(by unfold mX;first|(rw[if_pos M]<;>rfl)|(rw[if_neg M,if_pos M])|(rw[if_neg M,if_neg M])),M⟩
 refine wr 1 [] 17 19 [] [(17,(.bool (decide (((aw _ 24:Nat):Int)<22))))] trivial V V fun _=>?_
 refine zd 1 3 (fun Y=>?_) fun Y=>?_
 ·have an:=cF ((n/24:Nat):Int) 17;refine wr 1 [(2,.o (iI _))] 20 23 [4] [(4,(.int _ _))] (vA (vA (show(24:Int)≠0 from by decide) (vi (n:=((n/24:Nat):Int)) (by first|omega|(have:=br (n:=((n/24:Nat):Int)) (m:=17) e_;omega)|(dsimp only;omega)))) (vA (cE ex ((n/24:Nat):Int) 17 U (by first|omega|(have:=br (n:=((n/24:Nat):Int)) (m:=17) e_;omega)|(dsimp only;omega))) (vA (vi (by first|omega|(have:=br (n:=((n/24:Nat):Int)) (m:=17) e_;omega)|(dsimp only;omega))) trivial))) V V fun _=>?_
  refine ae ⟨.inr V,_,V,_,_,fR,(HS.forget E),V,(by unfold mX;first|(rw[if_pos M]<;>rfl)|(rw[if_neg M,if_pos M])|(rw[if_neg M,if_neg M])),M⟩
 refine wr 1 [] 4 4 [24] [(4,(.int _ al))] trivial V V fun _=>?_
 refine ae ⟨.inr V,_,V,al,_,fR,(HS.forget E),V,(by unfold mX;first|(rw[if_pos M]<;>rfl)|(rw[if_neg M,if_pos M])|(rw[if_neg M,if_neg M])),M⟩
structure Pr2(H:Heap)(b_r:Nat)(F:Fz)(ar_0:Option Addr)(r:RdT)(kr_0:Nat)(R:List Fp):Prop where
 hs:HS (.of H [b_r]) F H [[(b_r,.cells [(sL ar_0 r.l.length kr_0),(iI r.n)] none false)]] R
 hr_0:SR F (sL ar_0 r.l.length kr_0) r.l
 hr_1:in64 r.n:=by first|omega|(dsimp only;omega)|(show _<2;omega)|exact cS _ _|exact cW _ _|exact bI _ _|(have:=bD u;omega)
theorem nA{al:Option Addr}{ax:Nat}{a1:Nat}(r:RdT)(h0:Pr2 H a1 F al r ax R):kKt ex 35 [(pT a1 0)] H fun v H'=> ∃(x:Int) (r':RdT) (T:Option Addr) (U:Nat) (F':Fz),Fz.le F F'/\HS (.of H [a1]) F' H' [(fP a1 [(sL T r'.l.length U),(iI r'.n)])] R/\v=iI x/\in64 r'.n/\SR F' (sL T r'.l.length U) r'.l/\x=hdG r/\r'=ao r/\(in64 x):=by
 obtain⟨hs,ar,bb⟩:=h0;have E:=sr_in (by assumption:SR F _ r.l) 0;refine av Tryz.func35 V V ?_;refine ai 1 V ?_;refine wr 3 [] 2 2 [] [(2,(.int _ 0))] trivial V V fun _=>?_
 refine cP 1 4 9 [] [(9,(.bool ((r.l.length:Int)==0)))] (Hr_ 3 0 Hn_) hs V V fun _=>?_
 refine zi 1 2 (fun Y=>?_) fun Y=>?_
 ·try simp only[BS]at Y
  have c1:=len0 Y;refine wr 1 [] 2 2 [] [(2,(.int _ 0))] trivial V V fun _=>?_
  refine ae ⟨.inr V,_,V,0,r,_,_,_,fR,(HS.first hs),V,M,ar,(by first|rfl|exact hd_0 c1|exact hd_1|exact nx_0 c1|exact nx_1|exact E|(dsimp only;omega)|decide),(by first|rfl|exact hd_0 c1|exact hd_1|exact nx_0 c1|exact nx_1|exact E|(dsimp only;omega)|decide),(by first|rfl|exact hd_0 c1|exact hd_1|exact nx_0 c1|exact nx_1|exact E|(dsimp only;omega)|decide)⟩
 try simp only[BS]at Y
 obtain⟨a6,Z⟩:=Sv.view (SR.sv ar hs);have g6:=fI (Z 0);refine cP 2 10 15 [3] [(3,(.int _ _))] (Hr_ 3 0 (Ha_ (Sv.ix (SR.sv ar hs)) (Hl_ 5 (ql 3 0 (vI (Z 0)) V V) Hn_))) hs V V fun _=>?_
 refine ab ?_;refine fQ 5 0 16 20 [] [(16,(pT a1 0)),(20,(sL _ _ _))] (Hr_ 4 0 Hn_) hs V V fun _=>?_
 refine dB (rs_cutd (i:=1) ar hs V V V (optN e_) M) V V ?_;rintro _ _ _ ⟨a9,k9,rfl,O,a0⟩;simp only at O;replace O:=O.symm;subst O;refine sgo 3 6 22 23 [] [] (Hr_ 8 0 Hn_) hs V V fun a2 a5 an=>?_
 refine ah 2 V ?_;refine wr 1 [] 2 2 [24] [(2,(.int _ _))] trivial V V fun _=>?_
 refine ae ⟨.inr V,_,V,_,(⟨_,r.n⟩:RdT),a9,k9,_,fR,(HS.first an),V,M,a0,(by first|rfl|exact hd_0 c1|exact hd_1|exact nx_0 c1|exact nx_1|exact E|(dsimp only;omega)|decide),(by first|rfl|exact hd_0 c1|exact hd_1|exact nx_0 c1|exact nx_1|exact E|(dsimp only;omega)|decide),(by first|rfl|exact hd_0 c1|exact hd_1|exact nx_0 c1|exact nx_1|exact E|(dsimp only;omega)|decide)⟩
abbrev Po3(F:Fz)(H:Heap)(b_r:Nat)(R:List Fp)(Φ:ExpT->RdT->Prop)(v:Value)(H':Heap):Prop:= ∃(x:ExpT) (ax_4:Option Addr) (kx_4:Nat) (r':RdT) (am_0:Option Addr) (km_0:Nat) (F':Fz),Fz.le F F'/\HS (.of H [b_r]) F' H' [[(b_r,.cells [(sL am_0 r'.l.length km_0),(iI r'.n)] none false)]] R/\v= .agg ⟨[iI x.kind,iI x.n,tX x.name.b,iI x.op,sL ax_4 x.kids.length kx_4]⟩/\in64 x.kind/\in64 x.n/\in64 x.op/\SR F' (sL ax_4 x.kids.length kx_4) x.kids/\in64 r'.n/\SR F' (sL am_0 r'.l.length km_0) r'.l/\Φ x r'
theorem gexpr_c_aux: ∀(fuel:Nat) {b5:Option Addr} {ck:Nat} {ar:Nat} (r:RdT) (f:Int) (deep:Nat) {F:Fz} {H:Heap} {R:List Fp} (hs:HS (.of H [ar]) F H [(fP ar [(sL b5 r.l.length ck),(iI r.n)])] R) (cl:SR F (sL b5 r.l.length ck) r.l) (h5:in64 r.n) (hd:deep<=4),4-deep<fuel->kKt ex 37 [(pT ar 0),(iI f),(iI (deep:Int))] H (Po3 F H ar R fun x r'=>x=(am f (4-deep) r).1/\r'=(am f (4-deep) r).2):=by
 intro fuel;induction fuel with
 |zero=>intros;omega
 |succ fuel ih=>
 intro b5 ck ar r f deep F H R hs cl h5 hd o7;refine av Tryz.func37 V V ?_;refine ai 1 V ?_;refine ab ?_;refine zn hs V fun b1 H2 f3=>?_
 refine ah 2 V ?_;refine ab ?_;refine zm (pT ar 0) ?_;refine zc (nA ex r (.mk (g_ f3 V) cl M)) ?_;rintro _ H3 ⟨x3,oV,l0,l5,F3,bb,cm,rfl,l3,E,rfl,rfl,h3⟩;replace cm:=f3.bO cm;refine za (.int _ _) ?_;refine ah 2 V ?_;refine ab ?_;refine zm (.int _ f) ?_;refine zc (gnames_c ex f (HS.call cm)) ?_;rintro _ H4 ⟨i6,la,x4,F4,a2,O,rfl,d3,rfl⟩;replace O:=HS.back cm V O;replace E:=E.mono a2;refine za (sL i6 _ la) ?_;refine ah 2 V ?_;have oM:=cF (hdG r) 16;refine wr 2 [(1,.o (.int _ _))] 15 16 [9] [(9,(.int _ _))] (vA (cE ex _ 16 H4 M) trivial) V V fun _=>?_
 have oW:in64 (hdG r)->in64 (Int.tdiv (hdG r) 16):=fun h=>vq h e_
 have oN:=cF (Int.tdiv (hdG r) 16) 1000;refine wr 4 [(2,.o (.int _ _))] 17 19 [10] [(10,(.int _ _))] (vA (vA (show(16:Int)≠0 from by decide) (vq M e_)) (vA (cE ex (Int.tdiv _ 16) 1000 H4 M) trivial)) V V fun _=>?_
 refine wr 1 [] 20 26 [] [(20,(.bool ((decide (((aw _ 16:Nat):Int)<4))||(decide ((3:Int)<(deep:Int))))))] trivial V V fun _=>?_
 refine zi 2 1 (fun c7=>?_) fun c7=>?_
 ·try simp only[BS]at c7
  refine wr 1 [] 27 37 [] [(37,(.bool (((((aw _ 16)%2:Nat):Int)==0)||((decide ((3:Int)<(deep:Int)))&&(decide ((8:Int)<((aw _ 16:Nat):Int)))))))] (vA (show(2:Int)≠0 from by decide) trivial) V V fun _=>?_
  refine zi 1 2 (fun c8=>?_) fun c8=>?_
  ·try simp only[BS]at c8
   obtain⟨nc,hn⟩:=Sv.view (SR.sv d3 O);refine sgr 1 38 45 [] [] (Ha_ (show((aT f).length:Int)≠0 from by first|omega|(dsimp only;omega)|exact cS _ _|exact cW _ _|exact bI _ _|(have:=bD f;omega)|(show _<2;omega)|exact un_in _) (Ha_ (Sv.ix (SR.sv d3 O) (by first|omega|(dsimp only;omega)|exact cS _ _|exact cW _ _|exact bI _ _|(have:=bD f;omega)|(show _<2;omega)|exact un_in _) (by first|omega|(dsimp only;omega)|exact cS _ _|exact cW _ _|exact bI _ _|(have:=bD f;omega)|(show _<2;omega)|exact un_in _)) (Hl_ 6 (ql 9 0 (vS (hn (Int.tmod _ _).toNat) (by first|omega|(dsimp only;omega)|exact cS _ _|exact cW _ _|exact bI _ _|(have:=bD f;omega)|(show _<2;omega)|exact un_in _)) V V) (Hr_ 8 1 Hn_)))) O V V fun n1 oy em=>?_
   refine ae ⟨.inr V,_,(rC V (bS V V (i_ em V) V) rN),(⟨2,0,_,0,([]:List ExpT)⟩:ExpT),_,0,_,_,_,_,(fT (bb) a2),(HS.first em),V,(by first|omega|(dsimp only;omega)|exact cS _ _|exact cW _ _|exact bI _ _|(have:=bD f;omega)|(show _<2;omega)|exact un_in _),(by first|omega|(dsimp only;omega)|exact cS _ _|exact cW _ _|exact bI _ _|(have:=bD f;omega)|(show _<2;omega)|exact un_in _),(by first|omega|(dsimp only;omega)|exact cS _ _|exact cW _ _|exact bI _ _|(have:=bD f;omega)|(show _<2;omega)|exact un_in _),(SR.nil:SR F4 _ _),(by first|omega|(dsimp only;omega)|exact cS _ _|exact cW _ _|exact bI _ _|(have:=bD f;omega)|(show _<2;omega)|exact un_in _),E,(by first|rfl|(rw[ex_A (r:=r) hd M]<;>first|rfl|(rw[lf_v M]<;>rfl)|(rw[lf_n M]<;>rfl))|(rw[ex_B (r:=r) (deep:=deep) M M]<;>rfl)|(rw[ex_C (r:=r) (deep:=deep) M M M]<;>rfl)|(rw[ex_D (r:=r) (deep:=deep) M M M]<;>rfl)|(rw[ex_E (r:=r) (deep:=deep) M M]<;>rfl)),(by first|rfl|(rw[ex_A (r:=r) hd M]<;>first|rfl|(rw[lf_v M]<;>rfl)|(rw[lf_n M]<;>rfl))|(rw[ex_B (r:=r) (deep:=deep) M M]<;>rfl)|(rw[ex_C (r:=r) (deep:=deep) M M M]<;>rfl)|(rw[ex_D (r:=r) (deep:=deep) M M M]<;>rfl)|(rw[ex_E (r:=r) (deep:=deep) M M]<;>rfl))⟩
  try simp only[BS]at c8
  refine ab ?_;refine dA 2 0 46 47 [] [(46,(.int _ _)),(47,(.int _ _))] Hn_ V V fun _=>?_
  refine zc (gword_c ex (aw (Int.tdiv (hdG r) 16) 1000) (hdG r) (HS.call O) M M) ?_;rintro _ oz ⟨oX,h0,c9,b9,rfl,rfl,oO⟩;replace b9:=HS.back O V b9;replace E:=E.mono c9;refine sgo 2 3 49 49 [] [] (Hr_ 4 1 Hn_) b9 V V fun n2 oA et=>?_
  refine ah 1 V ?_;refine ae ⟨.inr V,_,(rC V (bS V V (i_ et V) V) rN),(⟨1,mX _ _,_,0,([]:List ExpT)⟩:ExpT),_,0,_,_,_,_,(fT (fT (bb) a2) c9),(HS.first et),V,(by first|omega|(dsimp only;omega)|exact cS _ _|exact cW _ _|exact bI _ _|(have:=bD f;omega)|(show _<2;omega)|exact un_in _),(by first|omega|(dsimp only;omega)|exact cS _ _|exact cW _ _|exact bI _ _|(have:=bD f;omega)|(show _<2;omega)|exact un_in _),(by first|omega|(dsimp only;omega)|exact cS _ _|exact cW _ _|exact bI _ _|(have:=bD f;omega)|(show _<2;omega)|exact un_in _),(SR.nil:SR h0 _ _),(by first|omega|(dsimp only;omega)|exact cS _ _|exact cW _ _|exact bI _ _|(have:=bD f;omega)|(show _<2;omega)|exact un_in _),E,(by first|rfl|(rw[ex_A (r:=r) hd M]<;>first|rfl|(rw[lf_v M]<;>rfl)|(rw[lf_n M]<;>rfl))|(rw[ex_B (r:=r) (deep:=deep) M M]<;>rfl)|(rw[ex_C (r:=r) (deep:=deep) M M M]<;>rfl)|(rw[ex_D (r:=r) (deep:=deep) M M M]<;>rfl)|(rw[ex_E (r:=r) (deep:=deep) M M]<;>rfl)),(by first|rfl|(rw[ex_A (r:=r) hd M]<;>first|rfl|(rw[lf_v M]<;>rfl)|(rw[lf_n M]<;>rfl))|(rw[ex_B (r:=r) (deep:=deep) M M]<;>rfl)|(rw[ex_C (r:=r) (deep:=deep) M M M]<;>rfl)|(rw[ex_D (r:=r) (deep:=deep) M M M]<;>rfl)|(rw[ex_E (r:=r) (deep:=deep) M M]<;>rfl))⟩
 try simp only[BS]at c7
 refine wr 1 [] 50 52 [] [(50,(.bool (decide (((aw _ 16:Nat):Int)<6))))] trivial V V fun _=>?_
 refine zd 1 1 (fun jw=>?_) fun jw=>?_
 ·refine aC V ?_;refine kz (gS zGA1 O.log0 V V V V ⟨_,_,V,V,⟨_,[],V,V,V⟩⟩ V) V V (fun _ _ _ _=>did_n V V V) trivial ?_;rintro _ h1 oP ⟨h9,kx,rfl,b7,T,_⟩ ho e8;replace T:=HS.lg T O e8;generalize ({h1 with log:=ho}:Heap)=mm at T⊢;refine zfm (.int _ _) ?_;refine wfv (v:=(.int _ (((aw _ _)%2:Nat):Int))) (ap_mod V V e_ V) ?_;refine wfv (v:=(.pointer (some ⟨_,sO (sL h9 _ kx)+((aw _ _)%2) *Rp.sz Str,_⟩))) (fM (j:=(((aw _ _)%2:Nat):Int)) V V V V (OS.sv b7 T.log0 (i:=2) V) (by first|omega|(dsimp only;omega)|exact cS _ _|exact cW _ _|exact bI _ _|(have:=bD f;omega)|(show _<2;omega)|exact un_in _) (by first|omega|(dsimp only;omega)|exact cS _ _|exact cW _ _|exact bI _ _|(have:=bD f;omega)|(show _<2;omega)|exact un_in _)) ?_;obtain⟨nm,g6,go⟩:=Sv.at (OS.sv b7 T.log0 (i:=2) V) (bj (x:=default) (show(aw (Int.tdiv (hdG r) 16) 1000)%2<zGA1.length from by first|omega|(dsimp only;omega)|exact cS _ _|exact cW _ _|exact bI _ _|(have:=bD f;omega)|(show _<2;omega)|exact un_in _));obtain rfl:=g6;refine zl 0 go ?_;refine zfm (pT ar 0) ?_;refine zfm (iI f) ?_;refine zfm (iI (deep:Int)) ?_;refine wfv (v:=(iI ((deep:Int)+1))) (eA V V (gM (n:=(deep:Int)+1) M)) ?_;refine wcD [ar] (j:=0) T V V (ih (ao r) f (deep+1) (HS.callOwn T.log0 (i:=0) V) E M M M) V V (⟨.inl V,⟨.inl V,⟨.inl V,⟨.inl V,⟨.inr (os_nin (m:=0) b7 T (i:=2) (j:=0) V V e_ e_),⟨.inr trivial,⟨.inr trivial,⟨.inr trivial,⟨.inr (HS.ownlt O (i:=0) V),trivial⟩⟩⟩⟩⟩⟩⟩⟩⟩) ?_;rintro _ oB ⟨oY,Y,al,oa,c3,e1,oi,f7,bl,rfl,hv,hw,hx,co,kc,a7,rfl,rfl⟩;refine⟨_,_,_,bl,fun mp bl=>?_⟩;refine kz (id:= .n _) (gS (α:=ExpT) (ps:=[(0,(aG [(iI (((am f (4-(deep+1)) (ao r)).1).kind)),(iI (((am f (4-(deep+1)) (ao r)).1).n)),(tX ((am f (4-(deep+1)) (ao r)).1).name.b),(iI (((am f (4-(deep+1)) (ao r)).1).op)),(sL Y (((am f (4-(deep+1)) (ao r)).1).kids).length al)]))]) (cells:=[(iI (((am f (4-(deep+1)) (ao r)).1).kind)),(iI (((am f (4-(deep+1)) (ao r)).1).n)),(tX ((am f (4-(deep+1)) (ao r)).1).name.b),(iI (((am f (4-(deep+1)) (ao r)).1).op)),(sL Y (((am f (4-(deep+1)) (ao r)).1).kids).length al)]) ([(am f (4-(deep+1)) (ao r)).1]:List ExpT) bl.log0 V V V (by kernel_rfl) ⟨[(iI (((am f (4-(deep+1)) (ao r)).1).kind)),(iI (((am f (4-(deep+1)) (ao r)).1).n)),(tX ((am f (4-(deep+1)) (ao r)).1).name.b),(iI (((am f (4-(deep+1)) (ao r)).1).op)),(sL Y (((am f (4-(deep+1)) (ao r)).1).kids).length al)],[],V,(ExpT.mkr ⟨Y,al,V,by omega,by omega,by omega,co⟩),V⟩ V) V V (fun _ _ _ _=>did_n V V V) (kb V) ?_;rintro _ h2 oQ ⟨fu,f4,rfl,g2,a3,_⟩ hp fb;replace a3:=HS.lg a3 bl fb;generalize ({h2 with log:=hp}:Heap)=ms at a3⊢;refine wfv (v:=(aG [(iI 3),(iI 0),(tX (zGA1.getD ((aw (Int.tdiv (hdG r) 16) 1000)%2) default).b),(iI 0),(sL fu ([(am f (4-(deep+1)) (ao r)).1]:List ExpT).length f4)])) (lY V V (by kernel_rfl)) ?_;refine iz (id:= .x [b1]) (gR (q:=1) a3.log0 V V V V V V V V V) V (by rintro _ _ _ ⟨_,hwr⟩;exact fY V V (Wr.did hwr)) (kb V) ?_;rintro _ h4 _ ⟨a4,_⟩ hq fd;replace a4:=HS.lg a4 a3 fd;generalize ({h4 with log:=hq}:Heap)=mx at a4⊢;refine dT ?_;refine ai 1 V ?_;obtain⟨oj,dd,hg,g7,n5⟩:=OS.frz g2 a4 (i:=3) V;replace a7:=a7.mono dd;refine ae ⟨.inr V,_,(rC V (bS V V (i_ a4 V) V) rN),(⟨3,0,⟨(zGA1.getD ((aw (Int.tdiv (hdG r) 16) 1000)%2) default).b⟩,0,([(am f (4-(deep+1)) (ao r)).1]:List ExpT)⟩:ExpT),fu,f4,((am f (4-(deep+1)) (ao r)).2),c3,e1,_,(fT (fT (fT (bb) a2) f7) dd),(HS.first hg),V,(by first|omega|(dsimp only;omega)|exact cS _ _|exact cW _ _|exact bI _ _|(have:=bD f;omega)|(show _<2;omega)|exact un_in _),(by first|omega|(dsimp only;omega)|exact cS _ _|exact cW _ _|exact bI _ _|(have:=bD f;omega)|(show _<2;omega)|exact un_in _),(by first|omega|(dsimp only;omega)|exact cS _ _|exact cW _ _|exact bI _ _|(have:=bD f;omega)|(show _<2;omega)|exact un_in _),g7,(by first|omega|(dsimp only;omega)|exact cS _ _|exact cW _ _|exact bI _ _|(have:=bD f;omega)|(show _<2;omega)|exact un_in _),a7,(by first|rfl|(rw[ex_A (r:=r) hd M]<;>first|rfl|(rw[lf_v M]<;>rfl)|(rw[lf_n M]<;>rfl))|(rw[ex_B (r:=r) (deep:=deep) M M]<;>rfl)|(rw[ex_C (r:=r) (deep:=deep) M M M]<;>rfl)|(rw[ex_D (r:=r) (deep:=deep) M M M]<;>rfl)|(rw[ex_E (r:=r) (deep:=deep) M M]<;>rfl)),(by first|rfl|(rw[ex_A (r:=r) hd M]<;>first|rfl|(rw[lf_v M]<;>rfl)|(rw[lf_n M]<;>rfl))|(rw[ex_B (r:=r) (deep:=deep) M M]<;>rfl)|(rw[ex_C (r:=r) (deep:=deep) M M M]<;>rfl)|(rw[ex_D (r:=r) (deep:=deep) M M M]<;>rfl)|(rw[ex_E (r:=r) (deep:=deep) M M]<;>rfl))⟩
 refine wT 1 [] 65 67 [] [(65,(.bool (decide (((aw (hdG r) 16:Nat):Int)<7))))] V fun _=>?_
 refine zd 1 1 (fun j2=>?_) fun j2=>?_
 ·refine ab ?_;refine dA 4 0 68 71 [] [(68,(pT ar 0)),(69,(iI f)),(71,(iI ((deep:Int)+1)))] (Ha_ (vi (n:=(deep:Int)+1)) Hn_) (by kernel_rfl) V fun _=>?_
  refine zc (ih (ao r) f (deep+1) (g_ O V) E M M M) ?_;rintro _ oC ⟨oZ,i3,k7,ob,it,k4,ol,f8,b0,rfl,hy,hz,hA,ax,kd,e5,rfl,rfl⟩;replace b0:=O.bO b0;refine dA 4 5 73 76 [] [(73,(pT ar 0)),(74,(iI f)),(76,(iI ((deep:Int)+1)))] (Ha_ (vi (n:=(deep:Int)+1)) Hn_) (by kernel_rfl) V fun _=>?_
  refine zc (ih ((am f (4-(deep+1)) (ao r)).2) f (deep+1) (g_ b0 V) e5 M M M) ?_;rintro _ oD ⟨o0,i4,k8,oc,i1,k5,om,dk,b2,rfl,hB,hD,hE,a0,ki,e6,rfl,rfl⟩;replace b2:=b0.bO b2;refine dA 4 10 78 81 [] [(78,(pT ar 0)),(79,(iI f)),(81,(iI ((deep:Int)+1)))] (Ha_ (vi (n:=(deep:Int)+1)) Hn_) (by kernel_rfl) V fun _=>?_
  refine zc (ih ((am f (4-(deep+1)) ((am f (4-(deep+1)) (ao r)).2)).2) f (deep+1) (g_ b2 V) e6 M M M) ?_;rintro _ oE ⟨o1,i5,k9,od,c4,e2,oo,b6,ch,rfl,hF,hG,hH,cw,kk,a8,rfl,rfl⟩;replace ch:=b2.bO ch;replace ax:=(ax.mono dk).mono b6;replace a0:=a0.mono b6;refine zlo ([(am f (4-(deep+1)) (ao r)).1,(am f (4-(deep+1)) ((am f (4-(deep+1)) (ao r)).2)).1,(am f (4-(deep+1)) ((am f (4-(deep+1)) ((am f (4-(deep+1)) (ao r)).2)).2)).1]:List ExpT) ch V (RL.cs (ExpT.mq ax) (RL.cs (ExpT.mq a0) (RL.cs (ExpT.mq cw) RL.nl))) V fun ib k0 oR oF g3 hh=>?_
  refine sgo 2 16 84 84 [] [] (Hr_ 17 1 Hn_) hh V V fun n3 oG ez=>?_
  refine ah 1 V ?_;obtain⟨oq,dn,hj,g8,n6⟩:=OS.frz g3 ez (i:=2) V;replace a8:=a8.mono dn;refine ae ⟨.inr V,_,(rC V (bS V V (i_ ez V) V) rN),(⟨5,0,⟨[]⟩,0,([(am f (4-(deep+1)) (ao r)).1,(am f (4-(deep+1)) ((am f (4-(deep+1)) (ao r)).2)).1,(am f (4-(deep+1)) ((am f (4-(deep+1)) ((am f (4-(deep+1)) (ao r)).2)).2)).1]:List ExpT)⟩:ExpT),ib,k0,((am f (4-(deep+1)) ((am f (4-(deep+1)) ((am f (4-(deep+1)) (ao r)).2)).2)).2),c4,e2,_,(fT (fT (fT (fT (fT (bb) a2) f8) dk) b6) dn),(HS.first hj),V,(by first|omega|(dsimp only;omega)|exact cS _ _|exact cW _ _|exact bI _ _|(have:=bD f;omega)|(show _<2;omega)|exact un_in _),(by first|omega|(dsimp only;omega)|exact cS _ _|exact cW _ _|exact bI _ _|(have:=bD f;omega)|(show _<2;omega)|exact un_in _),(by first|omega|(dsimp only;omega)|exact cS _ _|exact cW _ _|exact bI _ _|(have:=bD f;omega)|(show _<2;omega)|exact un_in _),g8,(by first|omega|(dsimp only;omega)|exact cS _ _|exact cW _ _|exact bI _ _|(have:=bD f;omega)|(show _<2;omega)|exact un_in _),a8,(by first|rfl|(rw[ex_A (r:=r) hd M]<;>first|rfl|(rw[lf_v M]<;>rfl)|(rw[lf_n M]<;>rfl))|(rw[ex_B (r:=r) (deep:=deep) M M]<;>rfl)|(rw[ex_C (r:=r) (deep:=deep) M M M]<;>rfl)|(rw[ex_D (r:=r) (deep:=deep) M M M]<;>rfl)|(rw[ex_E (r:=r) (deep:=deep) M M]<;>rfl)),(by first|rfl|(rw[ex_A (r:=r) hd M]<;>first|rfl|(rw[lf_v M]<;>rfl)|(rw[lf_n M]<;>rfl))|(rw[ex_B (r:=r) (deep:=deep) M M]<;>rfl)|(rw[ex_C (r:=r) (deep:=deep) M M M]<;>rfl)|(rw[ex_D (r:=r) (deep:=deep) M M M]<;>rfl)|(rw[ex_E (r:=r) (deep:=deep) M M]<;>rfl))⟩
 refine wT 1 [] 85 87 [] [(85,(.bool (decide (((aw (hdG r) 16:Nat):Int)<9))))] V fun _=>?_
 refine zd 1 3 (fun ka=>?_) fun ka=>?_
 ·refine aC V ?_;refine kz (id:= .n _) (gS (α:=Int) (ps:=[(0,(iI 20)),(1,(iI 21))]) (cells:=[(iI 20),(iI 21)]) ([20,21]:List Int) O.log0 V V V (by kernel_rfl) ⟨[(iI 20)],[(iI 21)],V,⟨V,by omega⟩,⟨[(iI 21)],[],V,⟨V,by omega⟩,V⟩⟩ V) V V (fun _ _ _ _=>did_n V V V) trivial ?_;rintro _ h6 oS ⟨f1,f5,rfl,b8,U,_⟩ hr fi;replace U:=HS.lg U O fi;generalize ({h6 with log:=hr}:Heap)=m0 at U⊢;refine zfm (iI ((aw (Int.tdiv (hdG r) 16) 1000:Nat):Int)) ?_;refine wfv (v:=(iI (((aw (Int.tdiv (hdG r) 16) 1000)%2:Nat):Int))) (ap_mod V V e_ V) ?_;refine wfv (v:=(.pointer (some ⟨sB (sL f1 ([20,21]:List Int).length f5),sO (sL f1 ([20,21]:List Int).length f5)+((aw (Int.tdiv (hdG r) 16) 1000)%2) *Rp.sz Int,none⟩))) (fM (α:=Int) (j:=(((aw (Int.tdiv (hdG r) 16) 1000)%2:Nat):Int)) V V V V (OS.sv b8 U.log0 (i:=2) V) (by first|omega|(dsimp only;omega)|exact cS _ _|exact cW _ _|exact bI _ _|(have:=bD f;omega)|(show _<2;omega)|exact un_in _) (by first|omega|(dsimp only;omega)|exact cS _ _|exact cW _ _|exact bI _ _|(have:=bD f;omega)|(show _<2;omega)|exact un_in _)) ?_;obtain⟨nn,g9,g1⟩:=Sv.at (OS.sv b8 U.log0 (i:=2) V) (bj (x:=(0:Int)) (show(aw (Int.tdiv (hdG r) 16) 1000)%2<([20,21]:List Int).length from by first|omega|(dsimp only;omega)|exact cS _ _|exact cW _ _|exact bI _ _|(have:=bD f;omega)|(show _<2;omega)|exact un_in _));obtain⟨rfl,l2⟩:=g9;refine zl 0 g1 ?_;refine zfm (pT ar 0) ?_;refine zfm (iI f) ?_;refine zfm (iI (deep:Int)) ?_;refine wfv (v:=(iI ((deep:Int)+1))) (eA V V (gM (n:=(deep:Int)+1) M)) ?_;refine wcD [ar] (j:=0) U V V (ih (ao r) f (deep+1) (HS.callOwn U.log0 (i:=0) V) E M M M) V V (⟨.inl V,⟨.inl V,⟨.inl V,⟨.inl V,⟨.inr (os_nin (m:=0) b8 U (i:=2) (j:=0) V V e_ e_),⟨.inr trivial,⟨.inr trivial,⟨.inr trivial,⟨.inr (HS.ownlt O (i:=0) V),trivial⟩⟩⟩⟩⟩⟩⟩⟩⟩) ?_;rintro _ oH ⟨o2,Z,an,oe,c5,e3,ot,f9,b3,rfl,hI,hJ,hK,cL,kl,a9,rfl,rfl⟩;refine⟨_,_,_,b3,fun m1 b3=>?_⟩;refine kz (id:= .n _) (gS (α:=ExpT) (ps:=[(0,(aG [(iI (((am f (4-(deep+1)) (ao r)).1).kind)),(iI (((am f (4-(deep+1)) (ao r)).1).n)),(tX ((am f (4-(deep+1)) (ao r)).1).name.b),(iI (((am f (4-(deep+1)) (ao r)).1).op)),(sL Z (((am f (4-(deep+1)) (ao r)).1).kids).length an)]))]) (cells:=[(iI (((am f (4-(deep+1)) (ao r)).1).kind)),(iI (((am f (4-(deep+1)) (ao r)).1).n)),(tX ((am f (4-(deep+1)) (ao r)).1).name.b),(iI (((am f (4-(deep+1)) (ao r)).1).op)),(sL Z (((am f (4-(deep+1)) (ao r)).1).kids).length an)]) ([(am f (4-(deep+1)) (ao r)).1]:List ExpT) b3.log0 V V V (by kernel_rfl) ⟨[(iI (((am f (4-(deep+1)) (ao r)).1).kind)),(iI (((am f (4-(deep+1)) (ao r)).1).n)),(tX ((am f (4-(deep+1)) (ao r)).1).name.b),(iI (((am f (4-(deep+1)) (ao r)).1).op)),(sL Z (((am f (4-(deep+1)) (ao r)).1).kids).length an)],[],V,(ExpT.mkr ⟨Z,an,V,by omega,by omega,by omega,cL⟩),V⟩ V) V V (fun _ _ _ _=>did_n V V V) (kb V) ?_;rintro _ h7 oT ⟨f2,f6,rfl,g4,a5,_⟩ ht fk;replace a5:=HS.lg a5 b3 fk;generalize ({h7 with log:=ht}:Heap)=m2 at a5⊢;refine wfv (v:=(aG [(iI 4),(iI 0),(tX []),(iI (([20,21]:List Int).getD ((aw (Int.tdiv (hdG r) 16) 1000)%2) 0)),(sL f2 ([(am f (4-(deep+1)) (ao r)).1]:List ExpT).length f6)])) (lY V V (by kernel_rfl)) ?_;refine iz (id:= .x [b1]) (gR (q:=1) a5.log0 V V V V V V V V V) V (by rintro _ _ _ ⟨_,hwr⟩;exact fY V V (Wr.did hwr)) (kb V) ?_;rintro _ h8 _ ⟨a6,_⟩ hu fl;replace a6:=HS.lg a6 a5 fl;generalize ({h8 with log:=hu}:Heap)=m3 at a6⊢;refine dT ?_;refine ai 1 V ?_;obtain⟨ou,dt,hk,he,n7⟩:=OS.frz g4 a6 (i:=3) V;replace a9:=a9.mono dt;refine ae ⟨.inr V,_,(rC V (bS V V (i_ a6 V) V) rN),(⟨4,0,⟨[]⟩,(([20,21]:List Int).getD ((aw (Int.tdiv (hdG r) 16) 1000)%2) 0),([(am f (4-(deep+1)) (ao r)).1]:List ExpT)⟩:ExpT),f2,f6,((am f (4-(deep+1)) (ao r)).2),c5,e3,_,(fT (fT (fT (bb) a2) f9) dt),(HS.first hk),V,(by first|omega|(dsimp only;omega)|exact cS _ _|exact cW _ _|exact bI _ _|(have:=bD f;omega)|(show _<2;omega)|exact un_in _),(by first|omega|(dsimp only;omega)|exact cS _ _|exact cW _ _|exact bI _ _|(have:=bD f;omega)|(show _<2;omega)|exact un_in _),(by first|omega|(dsimp only;omega)|exact cS _ _|exact cW _ _|exact bI _ _|(have:=bD f;omega)|(show _<2;omega)|exact un_in _),he,(by first|omega|(dsimp only;omega)|exact cS _ _|exact cW _ _|exact bI _ _|(have:=bD f;omega)|(show _<2;omega)|exact un_in _),a9,(by first|rfl|(rw[ex_A (r:=r) hd M]<;>first|rfl|(rw[lf_v M]<;>rfl)|(rw[lf_n M]<;>rfl))|(rw[ex_B (r:=r) (deep:=deep) M M]<;>rfl)|(rw[ex_C (r:=r) (deep:=deep) M M M]<;>rfl)|(rw[ex_D (r:=r) (deep:=deep) M M M]<;>rfl)|(rw[ex_E (r:=r) (deep:=deep) M M]<;>rfl)),(by first|rfl|(rw[ex_A (r:=r) hd M]<;>first|rfl|(rw[lf_v M]<;>rfl)|(rw[lf_n M]<;>rfl))|(rw[ex_B (r:=r) (deep:=deep) M M]<;>rfl)|(rw[ex_C (r:=r) (deep:=deep) M M M]<;>rfl)|(rw[ex_D (r:=r) (deep:=deep) M M M]<;>rfl)|(rw[ex_E (r:=r) (deep:=deep) M M]<;>rfl))⟩
 refine ab ?_;refine dA 7 0 100 106 [] [(102,(iI (4+(((aw (Int.tdiv (hdG r) 16) 1000)%15:Nat):Int)))),(103,(pT ar 0)),(104,(iI f)),(106,(iI ((deep:Int)+1)))] (Ha_ (show(15:Int)≠0 from by decide) (Ha_ (vi (n:=4+(((aw (Int.tdiv (hdG r) 16) 1000)%15:Nat):Int))) (Ha_ (vi (n:=(deep:Int)+1)) Hn_))) (by kernel_rfl) V fun _=>?_
 refine zc (ih (ao r) f (deep+1) (g_ O V) E M M M) ?_;rintro _ oI ⟨o3,i7,ll,og,i2,k6,ov,gm,b4,rfl,hQ,hS,hT,a1,kn,e7,rfl,rfl⟩;replace b4:=O.bO b4;refine dA 4 8 108 111 [] [(108,(pT ar 0)),(109,(iI f)),(111,(iI ((deep:Int)+1)))] (Ha_ (vi (n:=(deep:Int)+1)) Hn_) (by kernel_rfl) V fun _=>?_
 refine zc (ih ((am f (4-(deep+1)) (ao r)).2) f (deep+1) (g_ b4 V) e7 M M M) ?_;rintro _ oJ ⟨o4,i8,lr,oh,c6,e4,ow,d1,ci,rfl,hV,hW,hX,c0,kt,ba,rfl,rfl⟩;replace ci:=b4.bO ci;replace a1:=a1.mono d1;refine zlo ([(am f (4-(deep+1)) (ao r)).1,(am f (4-(deep+1)) ((am f (4-(deep+1)) (ao r)).2)).1]:List ExpT) ci V (RL.cs (ExpT.mq a1) (RL.cs (ExpT.mq c0) RL.nl)) V fun ik k3 oU oK g5 hl=>?_
 refine sgo 2 14 114 114 [] [] (Hr_ 15 1 Hn_) hl V V fun n4 oL e0=>?_
 refine ah 1 V ?_;obtain⟨ox,d2,hm,hf,n9⟩:=OS.frz g5 e0 (i:=2) V;replace ba:=ba.mono d2;refine ae ⟨.inr V,_,(rC V (bS V V (i_ e0 V) V) rN),(⟨4,0,⟨[]⟩,4+(((aw (Int.tdiv (hdG r) 16) 1000)%15:Nat):Int),([(am f (4-(deep+1)) (ao r)).1,(am f (4-(deep+1)) ((am f (4-(deep+1)) (ao r)).2)).1]:List ExpT)⟩:ExpT),ik,k3,((am f (4-(deep+1)) ((am f (4-(deep+1)) (ao r)).2)).2),c6,e4,_,(fT (fT (fT (fT (bb) a2) gm) d1) d2),(HS.first hm),V,(by first|omega|(dsimp only;omega)|exact cS _ _|exact cW _ _|exact bI _ _|(have:=bD f;omega)|(show _<2;omega)|exact un_in _),(by first|omega|(dsimp only;omega)|exact cS _ _|exact cW _ _|exact bI _ _|(have:=bD f;omega)|(show _<2;omega)|exact un_in _),(by first|omega|(dsimp only;omega)|exact cS _ _|exact cW _ _|exact bI _ _|(have:=bD f;omega)|(show _<2;omega)|exact un_in _),hf,(by first|omega|(dsimp only;omega)|exact cS _ _|exact cW _ _|exact bI _ _|(have:=bD f;omega)|(show _<2;omega)|exact un_in _),ba,(by first|rfl|(rw[ex_A (r:=r) hd M]<;>first|rfl|(rw[lf_v M]<;>rfl)|(rw[lf_n M]<;>rfl))|(rw[ex_B (r:=r) (deep:=deep) M M]<;>rfl)|(rw[ex_C (r:=r) (deep:=deep) M M M]<;>rfl)|(rw[ex_D (r:=r) (deep:=deep) M M M]<;>rfl)|(rw[ex_E (r:=r) (deep:=deep) M M]<;>rfl)),(by first|rfl|(rw[ex_A (r:=r) hd M]<;>first|rfl|(rw[lf_v M]<;>rfl)|(rw[lf_n M]<;>rfl))|(rw[ex_B (r:=r) (deep:=deep) M M]<;>rfl)|(rw[ex_C (r:=r) (deep:=deep) M M M]<;>rfl)|(rw[ex_D (r:=r) (deep:=deep) M M M]<;>rfl)|(rw[ex_E (r:=r) (deep:=deep) M M]<;>rfl))⟩
theorem gv{E:Option Addr}{O:Nat}{T:Nat}(r:RdT)(f:Int)(deep:Nat)(hs:HS (.of H [T]) F H [(fP T [(sL E r.l.length O),(iI r.n)])] R)(U:SR F (sL E r.l.length O) r.l)(Y:in64 r.n)(hd:deep<=4):kKt ex 37 [(pT T 0),(iI f),(iI (deep:Int))] H (Po3 F H T R fun x Z=>x=(am f (4-deep) r).1/\Z=(am f (4-deep) r).2):=
 gexpr_c_aux ex (4-deep+1) r f deep hs U Y hd (a0w _)
end Go.Proofs.YtapgbjedgcpffaaGreat.ga
