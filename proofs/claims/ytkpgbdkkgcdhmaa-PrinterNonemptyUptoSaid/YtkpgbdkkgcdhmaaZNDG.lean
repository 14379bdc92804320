/-
The text of an expression as the printer of the program gives it. No condition but that the expression is one that a parser can give and that its text is not longer than a machine dQ.
-/
import Derived.Test.YtkpgbdkkgcdhmaaZNL1
import Derived.Test.YtkpgbdkkgcdhmaaZNDF
import Derived.Test.YtkpgbdkkgcdhmaaZNTA
noncomputable section
namespace Go.Proofs.Ytkpgbdkkgcdhmaa.dg
open Go.R
set_option maxRecDepth 10000
set_option linter.unusedVariables false
set_option linter.unusedSimpArgs false
variable (ex:FuncId) {F:Fz} {H:Heap} {R:List Fp}
open w3 l1 pt ca
open cb hiding jl jn
open cc cd ta
theorem fm_t1{e:ExpT}(h:e.kind=4)(o:e.op=21)(k:(e.kids.length:Int)=1):fmE e=[126]++opF (e.kids.getD 0 default) false (fmE (e.kids.getD 0 default)):=fm_t h o k
theorem fm_n1{e:ExpT}(h:e.kind=4)(o:e.op=20)(k:(e.kids.length:Int)=1)(q:(e.kids.getD 0 default).kind=1):fmE e=([45,40]++fmE (e.kids.getD 0 default))++[41]:=by rw[fm_n h o k,opF_1 (.inr ⟨V,q⟩)];rfl
theorem fm_n2{e:ExpT}(h:e.kind=4)(o:e.op=20)(k:(e.kids.length:Int)=1)(q:(e.kids.getD 0 default).kind≠1):fmE e=[45]++opF (e.kids.getD 0 default) false (fmE (e.kids.getD 0 default)):=by
 rw[fm_n h o k];unfold opF;by_cases c:(e.kids.getD 0 default).kind=4\/(e.kids.getD 0 default).kind=5
 ·rw[if_pos (.inl c),if_pos (.inl c)]
 rw[if_neg (fun d=>d.elim c (fun d=>q d.2)),if_neg (fun d=>d.elim c (fun d=>Bool.noConfusion d.1))]
theorem join5_c{ar:Option Addr}{ax:Nat}(l:List Str)(hs:HS (.of H []) F H [] R)(hl:SR F (sL ar l.length ax) l)(hn:l.length<4611686018427387904)(aA:(jn l).length<=1099511627776):kKt ex 14 [(sL ar l.length ax)] H fun v H'=> ∃(x:List UInt8),H'=H/\v=tX x/\x=jn l:=by
 refine aI Try.func14 V V ?_;refine ap 1 V ?_;refine wT 2 [] 2 2 [] [(2,(tX []))] V fun _=>?_
 refine wT 3 [] 1 0 [3] [(3,(tX []))] V fun _=>?_
 refine wT 2 [] 6 8 [] [(6,(sL ar l.length ax)),(7,(iI (l.length:Int))),(8,(iI 0))] V fun _=>?_
 refine au (fun(mm:Nat) f H'=> ∃(s:List UInt8) (i:Nat),H'=H/\aM f [(3,(tX s)),(6,(sL ar l.length ax)),(7,(iI (l.length:Int))),(8,(iI (i:Int)))]/\mm=l.length-i/\(jn l=s++jnR (decide (0<i)) (l.drop i))/\(i<=l.length)) _ ⟨[],0,V,(agC V (agC V (agC V (agC V agN)))),V,q_,(by first|assumption|omega|(simp at *;omega))⟩ ?_;rintro an f4 H ⟨s,i,rfl,O,rfl,A,hi⟩ U;refine aF _ O (fun _=>?_);clear O;refine ap 1 V ?_;refine wT 2 [] 9 9 [] [(9,(.bool (decide ((i:Int)<(l.length:Int)))))] V fun _=>?_
 refine ao 4 5 (v:=(decide ((i:Int)<(l.length:Int)))) V V V V (fun a_=>?_) (fun a_=>?_)
 ·try simp only[BS]at a_
  have fb:=jn_b (i:=i) M A aA;obtain⟨al,Z⟩:=Sv.view (SR.sv hl hs);refine wrp 3 10 12 [4,5] [(4,(iI (i:Int))),(5,(tX (l.getD i default).b))] (Ha_ (Sv.ix (j:=(i:Int)) (SR.sv hl hs) k_ k_) (Hl_ 2 (ql 9 0 (vS (Z i) k_) V V) Hn_)) (by kernel_rfl) V fun _=>?_
  refine wT 1 [] 13 14 [] [(14,(.bool (decide ((0:Int)<(i:Int)))))] V fun _=>?_
  refine ao 0 1 (v:=(decide ((0:Int)<(i:Int)))) V V V V (fun E=>?_) (fun E=>?_)
  ·try simp only[BS]at E
   rw[if_pos (decide_eq_true M)]at fb;refine wU 1 [] 15 16 [3] [(3,(tX (s++[44,32])))] (show(s:List UInt8).length+([44,32]:List UInt8).length<=1099511627776 from by first|omega|(dsimp only;omega)|(simp only[a00,a01,a02];omega)) V fun _=>?_
   refine wU 2 [] 17 19 [3] [(3,(tX ((s++[44,32])++(l.getD i default).b)))] (show(s++[44,32]:List UInt8).length+((l.getD i default).b:List UInt8).length<=1099511627776 from by first|omega|(dsimp only;omega)|(simp only[a00,a01,a02];omega)) V fun _=>?_
   refine wU 1 [] 8 8 [20] [(8,(iI ((i:Int)+1)))] (vi (n:=(i:Int)+1) k_) V fun _=>?_
   refine U _ _ _ ?_ ⟨(s++[44,32])++(l.getD i default).b,i+1,V,(agC V (agC V (agC V (agC V agN)))),V,(by first|exact jn_s1 M A M|exact jn_s0 M A M),(by first|assumption|omega|(simp at *;omega))⟩;omega
  try simp only[BS]at E
  rw[if_neg (by rw[decide_eq_true_eq];omega)]at fb;refine wU 2 [] 17 19 [3] [(3,(tX (s++(l.getD i default).b)))] (show(s:List UInt8).length+((l.getD i default).b:List UInt8).length<=1099511627776 from by first|omega|(dsimp only;omega)|(simp only[a00,a01,a02];omega)) V fun _=>?_
  refine wU 1 [] 8 8 [20] [(8,(iI ((i:Int)+1)))] (vi (n:=(i:Int)+1) k_) V fun _=>?_
  refine U _ _ _ ?_ ⟨s++(l.getD i default).b,i+1,V,(agC V (agC V (agC V (agC V agN)))),V,(by first|exact jn_s1 M A M|exact jn_s0 M A M),(by first|assumption|omega|(simp at *;omega))⟩;omega
 try simp only[BS]at a_
 refine wT 1 [] 2 2 [21] [(2,(tX s))] V fun _=>?_
 refine ag ⟨.inr V,_,V,s,V,V,(by exact(jn_end A M).symm)⟩
theorem kg{A:Option Addr}{E:Nat}(l:List Str)(hs:HS (.of H []) F H [] R)(U:SR F (sL A l.length E) l)(Z:l.length<4611686018427387904)(O:(jn l).length<=1099511627776):kKt ex 14 [(sL A l.length E)] H fun v H'=>v=(tX (jn l))/\H'=H:=
 cq (join5_c ex l hs U Z O) (by rintro _ _ ⟨_,rfl,rfl,rfl⟩;exact⟨V,V⟩)
theorem oper5_c(o:Int)(hs:HS (.of H []) F H [] R)(ho:4<=o/\o<=18):kKt ex 28 [(iI o)] H fun v H'=> ∃(x:List UInt8) (F':Fz),Fz.le F F'/\HS (.of H []) F' H' [] R/\v=tX x/\x=opX o:=by
 refine aI Try.func28 V V ?_;refine ap 1 V ?_;refine wT 3 [] 2 2 [] [(2,(tX []))] V fun _=>?_
 refine wT 3 [] 3 3 [] [(3,(iI o))] V fun _=>?_
 refine wT 1 [] 4 5 [] [(4,(.bool (o==4)))] V fun _=>?_
 refine ao 1 1 (v:=(o==4)) V V V V (fun c4=>?_) (fun c4=>?_)
 ·try simp only[BS]at c4
  refine wT 1 [] 2 2 [] [(2,(tX [43]))] V fun _=>?_
  refine ag ⟨.inr V,_,V,[43],_,fR,(HS.forget hs),V,(by first|(subst o;rfl)|(cases (show o=18 by omega);rfl))⟩
 try simp only[BS]at c4
 refine wT 1 [] 6 7 [] [(6,(.bool (o==5)))] V fun _=>?_
 refine ao 1 1 (v:=(o==5)) V V V V (fun c7=>?_) (fun c7=>?_)
 ·try simp only[BS]at c7
  refine wT 1 [] 2 2 [] [(2,(tX [45]))] V fun _=>?_
  refine ag ⟨.inr V,_,V,[45],_,fR,(HS.forget hs),V,(by first|(subst o;rfl)|(cases (show o=18 by omega);rfl))⟩
 try simp only[BS]at c7
 refine wT 1 [] 8 9 [] [(8,(.bool (o==6)))] V fun _=>?_
 refine ao 1 1 (v:=(o==6)) V V V V (fun A=>?_) (fun A=>?_)
 ·try simp only[BS]at A
  refine wT 1 [] 2 2 [] [(2,(tX [42]))] V fun _=>?_
  refine ag ⟨.inr V,_,V,[42],_,fR,(HS.forget hs),V,(by first|(subst o;rfl)|(cases (show o=18 by omega);rfl))⟩
 try simp only[BS]at A
 refine wT 1 [] 10 11 [] [(10,(.bool (o==7)))] V fun _=>?_
 refine ao 1 1 (v:=(o==7)) V V V V (fun E=>?_) (fun E=>?_)
 ·try simp only[BS]at E
  refine wT 1 [] 2 2 [] [(2,(tX [47]))] V fun _=>?_
  refine ag ⟨.inr V,_,V,[47],_,fR,(HS.forget hs),V,(by first|(subst o;rfl)|(cases (show o=18 by omega);rfl))⟩
 try simp only[BS]at E
 refine wT 1 [] 12 13 [] [(12,(.bool (o==8)))] V fun _=>?_
 refine ao 1 1 (v:=(o==8)) V V V V (fun O=>?_) (fun O=>?_)
 ·try simp only[BS]at O
  refine wT 1 [] 2 2 [] [(2,(tX [37]))] V fun _=>?_
  refine ag ⟨.inr V,_,V,[37],_,fR,(HS.forget hs),V,(by first|(subst o;rfl)|(cases (show o=18 by omega);rfl))⟩
 try simp only[BS]at O
 refine wT 1 [] 14 15 [] [(14,(.bool (o==9)))] V fun _=>?_
 refine ao 1 1 (v:=(o==9)) V V V V (fun U=>?_) (fun U=>?_)
 ·try simp only[BS]at U
  refine wT 1 [] 2 2 [] [(2,(tX [38]))] V fun _=>?_
  refine ag ⟨.inr V,_,V,[38],_,fR,(HS.forget hs),V,(by first|(subst o;rfl)|(cases (show o=18 by omega);rfl))⟩
 try simp only[BS]at U
 refine wT 1 [] 16 17 [] [(16,(.bool (o==10)))] V fun _=>?_
 refine ao 1 1 (v:=(o==10)) V V V V (fun a_=>?_) (fun a_=>?_)
 ·try simp only[BS]at a_
  refine wT 1 [] 2 2 [] [(2,(tX [124]))] V fun _=>?_
  refine ag ⟨.inr V,_,V,[124],_,fR,(HS.forget hs),V,(by first|(subst o;rfl)|(cases (show o=18 by omega);rfl))⟩
 try simp only[BS]at a_
 refine wT 1 [] 18 19 [] [(18,(.bool (o==11)))] V fun _=>?_
 refine ao 1 1 (v:=(o==11)) V V V V (fun Z=>?_) (fun Z=>?_)
 ·try simp only[BS]at Z
  refine wT 1 [] 2 2 [] [(2,(tX [94]))] V fun _=>?_
  refine ag ⟨.inr V,_,V,[94],_,fR,(HS.forget hs),V,(by first|(subst o;rfl)|(cases (show o=18 by omega);rfl))⟩
 try simp only[BS]at Z
 refine wT 1 [] 20 21 [] [(20,(.bool (o==12)))] V fun _=>?_
 refine ao 1 1 (v:=(o==12)) V V V V (fun al=>?_) (fun al=>?_)
 ·try simp only[BS]at al
  refine wT 1 [] 2 2 [] [(2,(tX [60,60]))] V fun _=>?_
  refine ag ⟨.inr V,_,V,[60,60],_,fR,(HS.forget hs),V,(by first|(subst o;rfl)|(cases (show o=18 by omega);rfl))⟩
 try simp only[BS]at al
 refine wT 1 [] 22 23 [] [(22,(.bool (o==13)))] V fun _=>?_
 refine ao 1 1 (v:=(o==13)) V V V V (fun an=>?_) (fun an=>?_)
 ·try simp only[BS]at an
  refine wT 1 [] 2 2 [] [(2,(tX [62,62,62]))] V fun _=>?_
  refine ag ⟨.inr V,_,V,[62,62,62],_,fR,(HS.forget hs),V,(by first|(subst o;rfl)|(cases (show o=18 by omega);rfl))⟩
 try simp only[BS]at an
 refine wT 1 [] 24 25 [] [(24,(.bool (o==14)))] V fun _=>?_
 refine ao 1 1 (v:=(o==14)) V V V V (fun ar=>?_) (fun ar=>?_)
 ·try simp only[BS]at ar
  refine wT 1 [] 2 2 [] [(2,(tX [62,62]))] V fun _=>?_
  refine ag ⟨.inr V,_,V,[62,62],_,fR,(HS.forget hs),V,(by first|(subst o;rfl)|(cases (show o=18 by omega);rfl))⟩
 try simp only[BS]at ar
 refine wT 1 [] 26 27 [] [(26,(.bool (o==15)))] V fun _=>?_
 refine ao 1 1 (v:=(o==15)) V V V V (fun ax=>?_) (fun ax=>?_)
 ·try simp only[BS]at ax
  refine wT 1 [] 2 2 [] [(2,(tX [61,61]))] V fun _=>?_
  refine ag ⟨.inr V,_,V,[61,61],_,fR,(HS.forget hs),V,(by first|(subst o;rfl)|(cases (show o=18 by omega);rfl))⟩
 try simp only[BS]at ax
 refine wT 1 [] 28 29 [] [(28,(.bool (o==16)))] V fun _=>?_
 refine ao 1 1 (v:=(o==16)) V V V V (fun aA=>?_) (fun aA=>?_)
 ·try simp only[BS]at aA
  refine wT 1 [] 2 2 [] [(2,(tX [33,61]))] V fun _=>?_
  refine ag ⟨.inr V,_,V,[33,61],_,fR,(HS.forget hs),V,(by first|(subst o;rfl)|(cases (show o=18 by omega);rfl))⟩
 try simp only[BS]at aA
 refine wT 1 [] 30 31 [] [(30,(.bool (o==17)))] V fun _=>?_
 refine ao 1 3 (v:=(o==17)) V V V V (fun a0=>?_) (fun a0=>?_)
 ·try simp only[BS]at a0
  refine wT 1 [] 2 2 [] [(2,(tX [60]))] V fun _=>?_
  refine ag ⟨.inr V,_,V,[60],_,fR,(HS.forget hs),V,(by first|(subst o;rfl)|(cases (show o=18 by omega);rfl))⟩
 try simp only[BS]at a0
 refine wT 1 [] 2 2 [] [(2,(tX [60,61]))] V fun _=>?_
 refine ag ⟨.inr V,_,V,[60,61],_,fR,(HS.forget hs),V,(by first|(subst o;rfl)|(cases (show o=18 by omega);rfl))⟩
def FmtAll5(ex:FuncId)(N:Nat):Prop:=
 (∀{A:Option Addr} {E:Nat} (e:ExpT) {F:Fz} {H:Heap} {R:List Fp} (hs:HS (.of H []) F H [] R) (he_0:in64 e.kind) (he_1:in64 e.n) (he_3:in64 e.op) (he_4:SR F (sL A e.kids.length E) e.kids) (hn:ndE e<4611686018427387904) (hw:wfE e=true) (hlen:(fmE e).length<=1099511627776) (hm:2 *ndE e<N),C Try.prog 0 (KX ex) 16 [(.agg ⟨[(iI e.kind),(iI e.n),(tX e.name.b),(iI e.op),(sL A e.kids.length E)]⟩)] H fun v H'=> ∃(x:List UInt8) (F':Fz),Fz.le F F'/\HS (.of H []) F' H' [] R/\v=tX x/\x=fmE e)/\
 (∀{A:Option Addr} {E:Nat} (e:ExpT) {F:Fz} {H:Heap} {R:List Fp} (hs:HS (.of H []) F H [] R) (he_0:in64 e.kind) (he_1:in64 e.n) (he_3:in64 e.op) (he_4:SR F (sL A e.kids.length E) e.kids) (hn:ndE e<4611686018427387904) (hw:wfE e=true) (hlen:(opF e false (fmE e)).length<=1099511627776) (hm:2 *ndE e+1<N),C Try.prog 0 (KX ex) 27 [(.agg ⟨[(iI e.kind),(iI e.n),(tX e.name.b),(iI e.op),(sL A e.kids.length E)]⟩)] H fun v H'=> ∃(x:List UInt8) (F':Fz),Fz.le F F'/\HS (.of H []) F' H' [] R/\v=tX x/\x=opF e false (fmE e))
theorem expr5_c_s{a2:Option Addr}{a3:Nat}(e:ExpT)(hs:HS (.of H []) F H [] R)(h5:in64 e.kind)(h6:in64 e.n)(h7:in64 e.op)(E:SR F (sL a2 e.kids.length a3) e.kids)(hn:ndE e<4611686018427387904)(hw:wfE e=true)(cp:(fmE e).length<=1099511627776)(N:Nat)(ih:FmtAll5 ex N)(hm:2 *ndE e<N+1):kKt ex 16 [(aG [(iI e.kind),(iI e.n),(tX e.name.b),(iI e.op),(sL a2 e.kids.length a3)])] H fun v H'=> ∃(x:List UInt8) (F':Fz),Fz.le F F'/\HS (.of H []) F' H' [] R/\v=tX x/\x=fmE e:=by
 have k8:=nd_e e;obtain⟨a1,d3⟩:=wf_parts hw;refine aI Try.func16 V V ?_;refine ap 1 V ?_;refine ad ?_;refine ce (b5 hs V V) V V ?_;rintro _ H2 _ ⟨b1,rfl,A,_⟩;refine wa (tX []) V V V ?_;refine am 4 V ?_;refine ef 1 3 6 [] [(3,(.bool (e.kind==1)))] (Hr_ 1 0 Hn_) A V V fun _=>?_
 refine ao 1 1 (v:=(e.kind==1)) V V V V (fun c4=>?_) (fun c4=>?_)
 ·try simp only[BS]at c4
  refine ad ?_;refine du 2 0 7 8 [] [(8,(iI e.n))] (Hr_ 1 0 Hn_) A V V fun _=>?_
  refine ay (aq V V V) V V (w3.text_c ex e.n (HS.call A) k_) ?_;rintro _ H6 ⟨r6,F6,g5,c3,rfl,rfl⟩;replace c3:=HS.back A V c3;refine wa (tX (eL e.n)) V V V ?_;refine am 1 V ?_;refine ag ⟨.inr V,_,V,eL e.n,_,(g5),(HS.forget c3),V,(by first|exact Z.symm|exact(fm_1 M).symm|exact(fm_2 M).symm)⟩
 try simp only[BS]at c4
 refine ef 1 10 13 [] [(10,(.bool (e.kind==2)))] (Hr_ 1 0 Hn_) A V V fun _=>?_
 refine ao 1 1 (v:=(e.kind==2)) V V V V (fun c8=>?_) (fun c8=>?_)
 ·try simp only[BS]at c8
  refine ef 1 14 15 [2] [(2,(tX e.name.b))] (Hr_ 1 0 Hn_) A V V fun _=>?_
  refine ag ⟨.inr V,_,V,e.name.b,_,fR,(HS.forget A),V,(by first|exact Z.symm|exact(fm_1 M).symm|exact(fm_2 M).symm)⟩
 try simp only[BS]at c8
 refine ef 1 16 19 [] [(16,(.bool (e.kind==3)))] (Hr_ 1 0 Hn_) A V V fun _=>?_
 refine ao 1 1 (v:=(e.kind==3)) V V V V (fun bb=>?_) (fun bb=>?_)
 ·try simp only[BS]at bb
  have ar:=wfN_3 M d3;have Z:=fm_3 (e:=e) M ar.1;have al:=cp;rw[Z]at al;simp only[a00,a01,a02]at al;obtain⟨a5,a6,a7⟩:=mn (i:=0) a1 (show 0<e.kids.length by omega);refine aH V ?_;obtain⟨bw,c5⟩:=Sv.view (SR.sv E A);obtain⟨ha,hb,he,et⟩:=ExpT.fx (c5 0);refine dy 7 20 26 [] [(22,(tX (e.name.b++[91]))),(26,(aG [(iI (e.kids.getD 0 default).kind),(iI (e.kids.getD 0 default).n),(tX (e.kids.getD 0 default).name.b),(iI (e.kids.getD 0 default).op),(sL (cA (bw 0) 4) (e.kids.getD 0 default).kids.length (cK (bw 0) 4))]))] (Hr_ 1 0 (Ha_ (show(e.name.b:List UInt8).length+([91]:List UInt8).length<=1099511627776 from by first|omega|(dsimp only;omega)|(simp only[a00,a01,a02];omega)) (Hr_ 4 0 (Ha_ (Sv.ix (j:=0) (SR.sv E A) e_ k_) (Hl_ 6 (qn 40 0 5 (hc0 (ExpT.vw (c5 0) k_)) V V V V) Hn_))))) A V V fun _=>?_
  refine bN (W:=[]) (aq V V V) V V V (ih.1 (e.kids.getD 0 default) (HS.call A.log0) k_ k_ k_ et k_ k_ k_ k_) (⟨.inl V,⟨.inl V,⟨.inl V,⟨.inl V,⟨.inr trivial,⟨.inr a0l,⟨.inr trivial,trivial⟩⟩⟩⟩⟩⟩⟩) ?_;rintro _ f9 ⟨kn,h8,fd,ax,rfl,rfl⟩;refine⟨Wr.did ax.log,fun f2 d4=>?_⟩;replace ax:=HS.back A.log0 V ax;replace ax:=HS.lg ax A d4;generalize ({f9 with log:=f2}:Heap)=hV at ax⊢;refine dy 3 28 29 [2] [(2,(tX (((e.name.b++[91])++(fmE (e.kids.getD 0 default)))++[93])))] (Ha_ (show(e.name.b++[91]:List UInt8).length+(fmE (e.kids.getD 0 default):List UInt8).length<=1099511627776 from by first|omega|(dsimp only;omega)|(simp only[a00,a01,a02];omega)) (Ha_ (show((e.name.b++[91])++(fmE (e.kids.getD 0 default)):List UInt8).length+([93]:List UInt8).length<=1099511627776 from by first|omega|(dsimp only;omega)|(simp only[a00,a01,a02];omega)) Hn_)) ax V V fun _=>?_
  refine bC 1 V ?_;refine ag ⟨.inr V,_,V,((e.name.b++[91])++(fmE (e.kids.getD 0 default)))++[93],_,(fd),(HS.forget ax),V,(by first|exact Z.symm|exact(fm_1 M).symm|exact(fm_2 M).symm)⟩
 try simp only[BS]at bb
 refine ef 1 30 33 [] [(30,(.bool (e.kind==5)))] (Hr_ 1 0 Hn_) A V V fun _=>?_
 refine ao 1 1 (v:=(e.kind==5)) V V V V (fun bf=>?_) (fun bf=>?_)
 ·try simp only[BS]at bf
  have ar:=wfN_5 M d3;have Z:=fm_5 (e:=e) M ar;have al:=cp;rw[Z]at al;simp only[a00,a01,a02]at al;obtain⟨a5,a6,a7⟩:=mn (i:=0) a1 (show 0<e.kids.length by omega);obtain⟨g6,g7,g8⟩:=mn (i:=1) a1 (show 1<e.kids.length by omega);obtain⟨ki,kk,kl⟩:=mn (i:=2) a1 (show 2<e.kids.length by omega);refine aH V ?_;obtain⟨bF,c6⟩:=Sv.view (SR.sv E A);obtain⟨hf,hg,hh,ez⟩:=ExpT.fx (c6 0);refine dy 4 34 37 [] [(37,(aG [(iI (e.kids.getD 0 default).kind),(iI (e.kids.getD 0 default).n),(tX (e.kids.getD 0 default).name.b),(iI (e.kids.getD 0 default).op),(sL (cA (bF 0) 4) (e.kids.getD 0 default).kids.length (cK (bF 0) 4))]))] (Hr_ 1 0 (Ha_ (Sv.ix (j:=0) (SR.sv E A) e_ k_) (Hl_ 3 (qn 40 0 5 (hc0 (ExpT.vw (c6 0) k_)) V V V V) Hn_))) A V V fun _=>?_
  refine bN (W:=[]) (aq V V V) V V V (ih.2 (e.kids.getD 0 default) (HS.call A.log0) k_ k_ k_ ez k_ k_ k_ k_) (⟨.inl V,⟨.inl V,⟨.inl V,⟨.inl V,trivial⟩⟩⟩⟩) ?_;rintro _ gm ⟨kt,h9,ch,O,rfl,rfl⟩;refine⟨Wr.did O.log,fun f3 d5=>?_⟩;replace O:=HS.back A.log0 V O;replace O:=HS.lg O A d5;generalize ({gm with log:=f3}:Heap)=hW at O⊢;replace E:=E.mono ch;refine dy 2 39 40 [] [(39,(tX ((opF (e.kids.getD 0 default) false (fmE (e.kids.getD 0 default)))++[32,63,32]))),(40,(pT b1 4))] (Ha_ (show(opF (e.kids.getD 0 default) false (fmE (e.kids.getD 0 default)):List UInt8).length+([32,63,32]:List UInt8).length<=1099511627776 from by first|omega|(dsimp only;omega)|(simp only[a00,a01,a02];omega)) Hn_) O V V fun _=>?_
  refine aK (v:=(sL a2 e.kids.length a3)) (id:= .l b1) (er (i:=4) V V (HS.hc O.log0 (i:=0) V) V V) V V (iU V) (⟨.inl V,⟨.inr trivial,⟨.inr a0l,⟨.inr trivial,⟨.inr trivial,⟨.inr trivial,⟨.inr trivial,trivial⟩⟩⟩⟩⟩⟩⟩) ?_;obtain⟨b0,c7⟩:=Sv.view (SR.sv E O);obtain⟨hj,hk,hl,e0⟩:=ExpT.fx (c7 1);refine dy 2 42 43 [] [(43,(aG [(iI (e.kids.getD 1 default).kind),(iI (e.kids.getD 1 default).n),(tX (e.kids.getD 1 default).name.b),(iI (e.kids.getD 1 default).op),(sL (cA (b0 1) 4) (e.kids.getD 1 default).kids.length (cK (b0 1) 4))]))] (Ha_ (Sv.ix (j:=1) (SR.sv E O) e_ k_) (Hl_ 9 (qn 40 0 5 (hc0 (ExpT.vw (c7 1) k_)) V V V V) Hn_)) O V V fun _=>?_
  refine bN (W:=[]) (aq V V V) V V V (ih.2 (e.kids.getD 1 default) (HS.call O.log0) k_ k_ k_ e0 k_ k_ k_ k_) (⟨.inl V,⟨.inl V,⟨.inl V,⟨.inl V,⟨.inr trivial,⟨.inl V,⟨.inl V,⟨.inl V,⟨.inl V,⟨.inl V,trivial⟩⟩⟩⟩⟩⟩⟩⟩⟩⟩) ?_;rintro _ go ⟨kx,ib,ci,U,rfl,rfl⟩;refine⟨Wr.did U.log,fun f4 d6=>?_⟩;replace U:=HS.back O.log0 V U;replace U:=HS.lg U O d6;generalize ({go with log:=f4}:Heap)=hX at U⊢;replace E:=E.mono ci;refine dy 3 45 47 [] [(46,(tX ((((opF (e.kids.getD 0 default) false (fmE (e.kids.getD 0 default)))++[32,63,32])++(opF (e.kids.getD 1 default) false (fmE (e.kids.getD 1 default))))++[32,58,32]))),(47,(pT b1 4))] (Ha_ (show((opF (e.kids.getD 0 default) false (fmE (e.kids.getD 0 default)))++[32,63,32]:List UInt8).length+(opF (e.kids.getD 1 default) false (fmE (e.kids.getD 1 default)):List UInt8).length<=1099511627776 from by first|omega|(dsimp only;omega)|(simp only[a00,a01,a02];omega)) (Ha_ (show(((opF (e.kids.getD 0 default) false (fmE (e.kids.getD 0 default)))++[32,63,32])++(opF (e.kids.getD 1 default) false (fmE (e.kids.getD 1 default))):List UInt8).length+([32,58,32]:List UInt8).length<=1099511627776 from by first|omega|(dsimp only;omega)|(simp only[a00,a01,a02];omega)) Hn_)) U V V fun _=>?_
  refine aK (v:=(sL a2 e.kids.length a3)) (id:= .l b1) (er (i:=4) V V (HS.hc U.log0 (i:=0) V) V V) V V (iU V) (⟨.inl V,⟨.inr trivial,⟨.inr trivial,⟨.inr a0l,⟨.inr trivial,⟨.inr trivial,⟨.inr trivial,⟨.inr trivial,⟨.inr trivial,⟨.inr a0l,⟨.inr trivial,⟨.inr trivial,⟨.inr trivial,⟨.inr trivial,trivial⟩⟩⟩⟩⟩⟩⟩⟩⟩⟩⟩⟩⟩⟩) ?_;obtain⟨b2,c9⟩:=Sv.view (SR.sv E U);obtain⟨ho,hp,hq,e1⟩:=ExpT.fx (c9 2);refine dy 2 49 50 [] [(50,(aG [(iI (e.kids.getD 2 default).kind),(iI (e.kids.getD 2 default).n),(tX (e.kids.getD 2 default).name.b),(iI (e.kids.getD 2 default).op),(sL (cA (b2 2) 4) (e.kids.getD 2 default).kids.length (cK (b2 2) 4))]))] (Ha_ (Sv.ix (j:=2) (SR.sv E U) e_ k_) (Hl_ 16 (qn 40 0 5 (hc0 (ExpT.vw (c9 2) k_)) V V V V) Hn_)) U V V fun _=>?_
  refine bN (W:=[]) (aq V V V) V V V (ih.2 (e.kids.getD 2 default) (HS.call U.log0) k_ k_ k_ e1 k_ k_ k_ k_) (⟨.inl V,⟨.inl V,⟨.inl V,⟨.inl V,⟨.inr trivial,⟨.inr trivial,⟨.inl V,⟨.inl V,⟨.inl V,⟨.inl V,⟨.inl V,⟨.inr trivial,⟨.inl V,⟨.inl V,⟨.inl V,⟨.inl V,⟨.inl V,trivial⟩⟩⟩⟩⟩⟩⟩⟩⟩⟩⟩⟩⟩⟩⟩⟩⟩) ?_;rintro _ g0 ⟨kA,ik,fi,aA,rfl,rfl⟩;refine⟨Wr.did aA.log,fun f5 d7=>?_⟩;replace aA:=HS.back U.log0 V aA;replace aA:=HS.lg aA U d7;generalize ({g0 with log:=f5}:Heap)=h0 at aA⊢;refine dy 2 2 2 [52] [(2,(tX (((((opF (e.kids.getD 0 default) false (fmE (e.kids.getD 0 default)))++[32,63,32])++(opF (e.kids.getD 1 default) false (fmE (e.kids.getD 1 default))))++[32,58,32])++(opF (e.kids.getD 2 default) false (fmE (e.kids.getD 2 default))))))] (Ha_ (show((((opF (e.kids.getD 0 default) false (fmE (e.kids.getD 0 default)))++[32,63,32])++(opF (e.kids.getD 1 default) false (fmE (e.kids.getD 1 default))))++[32,58,32]:List UInt8).length+(opF (e.kids.getD 2 default) false (fmE (e.kids.getD 2 default)):List UInt8).length<=1099511627776 from by first|omega|(dsimp only;omega)|(simp only[a00,a01,a02];omega)) Hn_) aA V V fun _=>?_
  refine bC 1 V ?_;refine ag ⟨.inr V,_,V,((((opF (e.kids.getD 0 default) false (fmE (e.kids.getD 0 default)))++[32,63,32])++(opF (e.kids.getD 1 default) false (fmE (e.kids.getD 1 default))))++[32,58,32])++(opF (e.kids.getD 2 default) false (fmE (e.kids.getD 2 default))),_,(fT (fT (ch) ci) fi),(HS.forget aA),V,(by first|exact Z.symm|exact(fm_1 M).symm|exact(fm_2 M).symm)⟩
 try simp only[BS]at bf
 have ar:=wfN_4 M M M M d3;refine ef 1 53 56 [] [(53,(.bool (e.op==21)))] (Hr_ 1 0 Hn_) A V V fun _=>?_
 refine ao 1 1 (v:=(e.op==21)) V V V V (fun bl=>?_) (fun bl=>?_)
 ·try simp only[BS]at bl
  have Z:=fm_t1 (e:=e) ar.1 M (ar.2.2 M);have al:=cp;rw[Z]at al;simp only[a00,a01,a02]at al;obtain⟨a5,a6,a7⟩:=mn (i:=0) a1 (show 0<e.kids.length by have:=ar.2.2 M;omega);refine ad ?_;obtain⟨b3,dk⟩:=Sv.view (SR.sv E A);obtain⟨hr,ht,hu,e2⟩:=ExpT.fx (dk 0);refine du 4 0 57 60 [] [(60,(aG [(iI (e.kids.getD 0 default).kind),(iI (e.kids.getD 0 default).n),(tX (e.kids.getD 0 default).name.b),(iI (e.kids.getD 0 default).op),(sL (cA (b3 0) 4) (e.kids.getD 0 default).kids.length (cK (b3 0) 4))]))] (Hr_ 1 0 (Ha_ (Sv.ix (j:=0) (SR.sv E A) e_ k_) (Hl_ 3 (qn 40 0 5 (ExpT.vw (dk 0) k_) V V V V) Hn_))) A V V fun _=>?_
  refine ay (aq V V V) V V (ih.2 (e.kids.getD 0 default) (HS.call A) k_ k_ k_ e2 k_ k_ k_ k_) ?_;rintro _ j1 ⟨k0,it,fq,a8,rfl,rfl⟩;replace a8:=HS.back A V a8;refine dG 2 5 2 2 [62] [(2,(tX ([126]++(opF (e.kids.getD 0 default) false (fmE (e.kids.getD 0 default))))))] (Ha_ (show([126]:List UInt8).length+(opF (e.kids.getD 0 default) false (fmE (e.kids.getD 0 default)):List UInt8).length<=1099511627776 from by first|omega|(dsimp only;omega)|(simp only[a00,a01,a02];omega)) Hn_) (by kernel_rfl) V fun _=>?_
  refine am 1 V ?_;refine ag ⟨.inr V,_,V,[126]++(opF (e.kids.getD 0 default) false (fmE (e.kids.getD 0 default))),_,(fq),(HS.forget a8),V,(by first|exact Z.symm|exact(fm_1 M).symm|exact(fm_2 M).symm)⟩
 try simp only[BS]at bl
 obtain⟨h4,dn⟩:=Sv.view (SR.sv E A);obtain⟨hv,hx,hy,hT⟩:=ExpT.fx (dn 0);refine ef 1 63 74 [] [(63,(.bool ((e.op==20)&&((e.kids.getD 0 default).kind==1))))] (Hr_ 1 0 (ff 5 (fun _=>(ql 38 4 (h_ A V) V V)) (Ha_ (fun(g1:(e.op==20)=true)=>(Sv.ix (j:=0) (SR.sv E A) e_ (by(try simp only[BS]at g1);(first|omega|(dsimp only;omega)|(simp only[a00,a01,a02];omega))))) (ff 8 (fun g1=>(ql 3 0 (ExpT.vw (dn 0) (by(try simp only[BS]at g1);(first|omega|(dsimp only;omega)|(simp only[a00,a01,a02];omega)))) V V)) Hn_)))) A V V fun _=>?_
 refine ao 1 1 (v:=((e.op==20)&&((e.kids.getD 0 default).kind==1))) V V V V (fun bn=>?_) (fun bn=>?_)
 ·try simp only[BS]at bn
  have Z:=fm_n1 (e:=e) ar.1 M (ar.2.2 M) M;have al:=cp;rw[Z]at al;simp only[a00,a01,a02]at al;obtain⟨a5,a6,a7⟩:=mn (i:=0) a1 (show 0<e.kids.length by have:=ar.2.2 M;omega);refine ad ?_;obtain⟨b4,ds⟩:=Sv.view (SR.sv E A);obtain⟨hz,hA,hB,e3⟩:=ExpT.fx (ds 0);refine du 4 0 75 78 [] [(78,(aG [(iI (e.kids.getD 0 default).kind),(iI (e.kids.getD 0 default).n),(tX (e.kids.getD 0 default).name.b),(iI (e.kids.getD 0 default).op),(sL (cA (b4 0) 4) (e.kids.getD 0 default).kids.length (cK (b4 0) 4))]))] (Hr_ 1 0 (Ha_ (Sv.ix (j:=0) (SR.sv E A) e_ k_) (Hl_ 3 (qn 40 0 5 (ExpT.vw (ds 0) k_) V V V V) Hn_))) A V V fun _=>?_
  refine ay (aq V V V) V V (ih.1 (e.kids.getD 0 default) (HS.call A) k_ k_ k_ e3 k_ k_ k_ k_) ?_;rintro _ j2 ⟨k3,i1,fu,a9,rfl,rfl⟩;replace a9:=HS.back A V a9;refine dG 3 5 80 81 [2] [(2,(tX (([45,40]++(fmE (e.kids.getD 0 default)))++[41])))] (Ha_ (show([45,40]:List UInt8).length+(fmE (e.kids.getD 0 default):List UInt8).length<=1099511627776 from by first|omega|(dsimp only;omega)|(simp only[a00,a01,a02];omega)) (Ha_ (show([45,40]++(fmE (e.kids.getD 0 default)):List UInt8).length+([41]:List UInt8).length<=1099511627776 from by first|omega|(dsimp only;omega)|(simp only[a00,a01,a02];omega)) Hn_)) (by kernel_rfl) V fun _=>?_
  refine am 1 V ?_;refine ag ⟨.inr V,_,V,([45,40]++(fmE (e.kids.getD 0 default)))++[41],_,(fu),(HS.forget a9),V,(by first|exact Z.symm|exact(fm_1 M).symm|exact(fm_2 M).symm)⟩
 try simp only[BS]at bn
 refine ef 1 82 85 [] [(82,(.bool (e.op==20)))] (Hr_ 1 0 Hn_) A V V fun _=>?_
 refine ao 1 3 (v:=(e.op==20)) V V V V (fun bt=>?_) (fun bt=>?_)
 ·try simp only[BS]at bt
  have Z:=fm_n2 (e:=e) ar.1 M (ar.2.2 M) M;have al:=cp;rw[Z]at al;simp only[a00,a01,a02]at al;obtain⟨a5,a6,a7⟩:=mn (i:=0) a1 (show 0<e.kids.length by have:=ar.2.2 M;omega);refine ad ?_;obtain⟨b6,dt⟩:=Sv.view (SR.sv E A);obtain⟨hD,hF,hG,e4⟩:=ExpT.fx (dt 0);refine du 4 0 86 89 [] [(89,(aG [(iI (e.kids.getD 0 default).kind),(iI (e.kids.getD 0 default).n),(tX (e.kids.getD 0 default).name.b),(iI (e.kids.getD 0 default).op),(sL (cA (b6 0) 4) (e.kids.getD 0 default).kids.length (cK (b6 0) 4))]))] (Hr_ 1 0 (Ha_ (Sv.ix (j:=0) (SR.sv E A) e_ k_) (Hl_ 3 (qn 40 0 5 (ExpT.vw (dt 0) k_) V V V V) Hn_))) A V V fun _=>?_
  refine ay (aq V V V) V V (ih.2 (e.kids.getD 0 default) (HS.call A) k_ k_ k_ e4 k_ k_ k_ k_) ?_;rintro _ kd ⟨k4,i2,f0,ba,rfl,rfl⟩;replace ba:=HS.back A V ba;refine dG 2 5 2 2 [91] [(2,(tX ([45]++(opF (e.kids.getD 0 default) false (fmE (e.kids.getD 0 default))))))] (Ha_ (show([45]:List UInt8).length+(opF (e.kids.getD 0 default) false (fmE (e.kids.getD 0 default)):List UInt8).length<=1099511627776 from by first|omega|(dsimp only;omega)|(simp only[a00,a01,a02];omega)) Hn_) (by kernel_rfl) V fun _=>?_
  refine am 1 V ?_;refine ag ⟨.inr V,_,V,[45]++(opF (e.kids.getD 0 default) false (fmE (e.kids.getD 0 default))),_,(f0),(HS.forget ba),V,(by first|exact Z.symm|exact(fm_1 M).symm|exact(fm_2 M).symm)⟩
 try simp only[BS]at bt
 have g9:=ar.2.1 M;have Z:=fm_b (e:=e) ar.1 M M g9.1;have al:=cp;rw[Z]at al;simp only[a00,a01,a02]at al;obtain⟨a5,a6,a7⟩:=mn (i:=0) a1 (show 0<e.kids.length by omega);obtain⟨g6,g7,g8⟩:=mn (i:=1) a1 (show 1<e.kids.length by omega);refine aH V ?_;obtain⟨b8,d1⟩:=Sv.view (SR.sv E A);obtain⟨hH,hI,hJ,e5⟩:=ExpT.fx (d1 0);refine dy 4 92 95 [] [(95,(aG [(iI (e.kids.getD 0 default).kind),(iI (e.kids.getD 0 default).n),(tX (e.kids.getD 0 default).name.b),(iI (e.kids.getD 0 default).op),(sL (cA (b8 0) 4) (e.kids.getD 0 default).kids.length (cK (b8 0) 4))]))] (Hr_ 1 0 (Ha_ (Sv.ix (j:=0) (SR.sv E A) e_ k_) (Hl_ 3 (qn 40 0 5 (hc0 (ExpT.vw (d1 0) k_)) V V V V) Hn_))) A V V fun _=>?_
 refine bN (W:=[]) (aq V V V) V V V (ih.2 (e.kids.getD 0 default) (HS.call A.log0) k_ k_ k_ e5 k_ k_ k_ k_) (⟨.inl V,⟨.inl V,⟨.inl V,⟨.inl V,trivial⟩⟩⟩⟩) ?_;rintro _ g2 ⟨k5,i3,co,an,rfl,rfl⟩;refine⟨Wr.did an.log,fun f6 d8=>?_⟩;replace an:=HS.back A.log0 V an;replace an:=HS.lg an A d8;generalize ({g2 with log:=f6}:Heap)=h1 at an⊢;refine dy 2 97 98 [] [(97,(tX ((opF (e.kids.getD 0 default) false (fmE (e.kids.getD 0 default)))++[32]))),(98,(pT b1 3))] (Ha_ (show(opF (e.kids.getD 0 default) false (fmE (e.kids.getD 0 default)):List UInt8).length+([32]:List UInt8).length<=1099511627776 from by first|omega|(dsimp only;omega)|(simp only[a00,a01,a02];omega)) Hn_) an V V fun _=>?_
 refine aK (v:=(iI e.op)) (id:= .l b1) (er (i:=3) V V (HS.hc an.log0 (i:=0) V) V V) V V (iU V) (⟨.inl V,⟨.inr trivial,⟨.inr a0l,⟨.inr trivial,⟨.inr trivial,⟨.inr trivial,⟨.inr trivial,trivial⟩⟩⟩⟩⟩⟩⟩) ?_;refine bN (W:=[]) (aq V V V) V V V (oper5_c ex e.op (HS.call an.log0) k_) (⟨.inl V,⟨.inl V,⟨.inr trivial,⟨.inl V,⟨.inl V,⟨.inl V,⟨.inl V,⟨.inl V,trivial⟩⟩⟩⟩⟩⟩⟩⟩) ?_;rintro _ g3 ⟨k6,jw,c0,a_,rfl,rfl⟩;refine⟨Wr.did a_.log,fun f7 ee=>?_⟩;replace a_:=HS.back an.log0 V a_;replace a_:=HS.lg a_ an ee;generalize ({g3 with log:=f7}:Heap)=h2 at a_⊢;replace E:=(E.mono co).mono c0;refine dy 3 101 103 [] [(102,(tX ((((opF (e.kids.getD 0 default) false (fmE (e.kids.getD 0 default)))++[32])++(opX e.op))++[32]))),(103,(pT b1 4))] (Ha_ (show((opF (e.kids.getD 0 default) false (fmE (e.kids.getD 0 default)))++[32]:List UInt8).length+(opX e.op:List UInt8).length<=1099511627776 from by first|omega|(dsimp only;omega)|(simp only[a00,a01,a02];omega)) (Ha_ (show(((opF (e.kids.getD 0 default) false (fmE (e.kids.getD 0 default)))++[32])++(opX e.op):List UInt8).length+([32]:List UInt8).length<=1099511627776 from by first|omega|(dsimp only;omega)|(simp only[a00,a01,a02];omega)) Hn_)) a_ V V fun _=>?_
 refine aK (v:=(sL a2 e.kids.length a3)) (id:= .l b1) (er (i:=4) V V (HS.hc a_.log0 (i:=0) V) V V) V V (iU V) (⟨.inl V,⟨.inr trivial,⟨.inr trivial,⟨.inr a0l,⟨.inr trivial,⟨.inr trivial,⟨.inr trivial,⟨.inr a0l,⟨.inr trivial,⟨.inr trivial,⟨.inr trivial,⟨.inr trivial,trivial⟩⟩⟩⟩⟩⟩⟩⟩⟩⟩⟩⟩) ?_;obtain⟨b9,d2⟩:=Sv.view (SR.sv E a_);obtain⟨hK,hQ,hS,e6⟩:=ExpT.fx (d2 1);refine dy 2 105 106 [] [(106,(aG [(iI (e.kids.getD 1 default).kind),(iI (e.kids.getD 1 default).n),(tX (e.kids.getD 1 default).name.b),(iI (e.kids.getD 1 default).op),(sL (cA (b9 1) 4) (e.kids.getD 1 default).kids.length (cK (b9 1) 4))]))] (Ha_ (Sv.ix (j:=1) (SR.sv E a_) e_ k_) (Hl_ 14 (qn 40 0 5 (hc0 (ExpT.vw (d2 1) k_)) V V V V) Hn_)) a_ V V fun _=>?_
 refine bN (W:=[]) (aq V V V) V V V (ih.2 (e.kids.getD 1 default) (HS.call a_.log0) k_ k_ k_ e6 k_ k_ k_ k_) (⟨.inl V,⟨.inl V,⟨.inl V,⟨.inl V,⟨.inr trivial,⟨.inr trivial,⟨.inl V,⟨.inl V,⟨.inl V,⟨.inr trivial,⟨.inl V,⟨.inl V,⟨.inl V,⟨.inl V,⟨.inl V,trivial⟩⟩⟩⟩⟩⟩⟩⟩⟩⟩⟩⟩⟩⟩⟩) ?_;rintro _ g4 ⟨k7,jA,f1,a0,rfl,rfl⟩;refine⟨Wr.did a0.log,fun f8 em=>?_⟩;replace a0:=HS.back a_.log0 V a0;replace a0:=HS.lg a0 a_ em;generalize ({g4 with log:=f8}:Heap)=h3 at a0⊢;refine dy 2 2 2 [108] [(2,(tX (((((opF (e.kids.getD 0 default) false (fmE (e.kids.getD 0 default)))++[32])++(opX e.op))++[32])++(opF (e.kids.getD 1 default) false (fmE (e.kids.getD 1 default))))))] (Ha_ (show((((opF (e.kids.getD 0 default) false (fmE (e.kids.getD 0 default)))++[32])++(opX e.op))++[32]:List UInt8).length+(opF (e.kids.getD 1 default) false (fmE (e.kids.getD 1 default)):List UInt8).length<=1099511627776 from by first|omega|(dsimp only;omega)|(simp only[a00,a01,a02];omega)) Hn_) a0 V V fun _=>?_
 refine bC 1 V ?_;refine ag ⟨.inr V,_,V,((((opF (e.kids.getD 0 default) false (fmE (e.kids.getD 0 default)))++[32])++(opX e.op))++[32])++(opF (e.kids.getD 1 default) false (fmE (e.kids.getD 1 default))),_,(fT (fT (co) c0) f1),(HS.forget a0),V,(by first|exact Z.symm|exact(fm_1 M).symm|exact(fm_2 M).symm)⟩
theorem operand5_c_s{E:Option Addr}{O:Nat}(e:ExpT)(hs:HS (.of H []) F H [] R)(aA:in64 e.kind)(a0:in64 e.n)(a1:in64 e.op)(a_:SR F (sL E e.kids.length O) e.kids)(hn:ndE e<4611686018427387904)(hw:wfE e=true)(a4:(opF e false (fmE e)).length<=1099511627776)(N:Nat)(ih:FmtAll5 ex N)(hm:2 *ndE e+1<N+1):kKt ex 27 [(aG [(iI e.kind),(iI e.n),(tX e.name.b),(iI e.op),(sL E e.kids.length O)])] H fun v H'=> ∃(x:List UInt8) (F':Fz),Fz.le F F'/\HS (.of H []) F' H' [] R/\v=tX x/\x=opF e false (fmE e):=by
 have a2:=op_len e false (fmE e);refine aI Try.func27 V V ?_;refine ap 1 V ?_;refine ad ?_;refine ce (b5 hs V V) V V ?_;rintro _ H2 _ ⟨b1,rfl,A,_⟩;refine wa (tX []) V V V ?_;refine am 3 V ?_;refine ef 1 3 10 [] [(10,(.bool ((e.kind==4)||(e.kind==5))))] (Hr_ 1 0 (ff 5 (fun _=>(ql 3 0 (h_ A V) V V)) Hn_)) A V V fun _=>?_
 refine ao 1 2 (v:=((e.kind==4)||(e.kind==5))) V V V V (fun U=>?_) (fun U=>?_)
 ·try simp only[BS]at U
  have zc:=U;have an:=a4;rw[opF_1 (.inl U)]at an;simp only[a00,a01,a02]at an;refine ad ?_;refine du 1 0 11 11 [] [(11,(aG [(iI e.kind),(iI e.n),(tX e.name.b),(iI e.op),(sL E e.kids.length O)]))] (Hr_ 0 0 Hn_) A V V fun _=>?_
  refine ay (aq V V V) V V (ih.1 e (HS.call A) k_ k_ k_ a_ k_ k_ k_ k_) ?_;rintro _ H6 ⟨x6,F6,ar,Z,rfl,rfl⟩;replace Z:=HS.back A V Z;refine dG 3 2 13 14 [2] [(2,(tX (([40]++(fmE e))++[41])))] (Ha_ (show([40]:List UInt8).length+(fmE e:List UInt8).length<=1099511627776 from by first|omega|(dsimp only;omega)|(simp only[a00,a01,a02];omega)) (Ha_ (show([40]++(fmE e):List UInt8).length+([41]:List UInt8).length<=1099511627776 from by first|omega|(dsimp only;omega)|(simp only[a00,a01,a02];omega)) Hn_)) (by kernel_rfl) V fun _=>?_
  refine am 1 V ?_;refine ag ⟨.inr V,_,V,([40]++(fmE e))++[41],_,(ar),(HS.forget Z),V,(by first|exact(opF_1 (.inl zc)).symm|exact(opF_0 ⟨zc,by simp⟩).symm)⟩
 try simp only[BS]at U
 have zc:=U;refine ad ?_;refine du 1 0 15 15 [] [(15,(aG [(iI e.kind),(iI e.n),(tX e.name.b),(iI e.op),(sL E e.kids.length O)]))] (Hr_ 0 0 Hn_) A V V fun _=>?_
 refine ay (aq V V V) V V (ih.1 e (HS.call A) k_ k_ k_ a_ k_ k_ k_ k_) ?_;rintro _ H9 ⟨x9,F9,ax,al,rfl,rfl⟩;replace al:=HS.back A V al;refine wa (tX (fmE e)) V V V ?_;refine am 1 V ?_;refine ag ⟨.inr V,_,V,fmE e,_,(ax),(HS.forget al),V,(by first|exact(opF_1 (.inl zc)).symm|exact(opF_0 ⟨zc,by simp⟩).symm)⟩
theorem hY(ex:FuncId): ∀N,FmtAll5 ex N
 |0=>⟨by intros;omega,by intros;omega⟩
 |N+1=>⟨by intros;apply expr5_c_s ex (N:=N) (ih:=hY ex N)<;>assumption,by intros;apply operand5_c_s ex (N:=N) (ih:=hY ex N)<;>assumption⟩
theorem gg{A:Option Addr}{E:Nat}(e:ExpT)(hs:HS (.of H []) F H [] R)(O:in64 e.kind)(U:in64 e.n)(a_:in64 e.op)(Z:SR F (sL A e.kids.length E) e.kids)(hn:ndE e<4611686018427387904)(hw:wfE e=true)(al:(fmE e).length<=1099511627776):kKt ex 16 [(aG [(iI e.kind),(iI e.n),(tX e.name.b),(iI e.op),(sL A e.kids.length E)])] H fun v H'=> ∃(x:List UInt8) (F':Fz),Fz.le F F'/\HS (.of H []) F' H' [] R/\v=tX x/\x=fmE e:=by apply(hY ex (2 *ndE e+1)).1<;>first|assumption|exact a1d _
end Go.Proofs.Ytkpgbdkkgcdhmaa.dg
