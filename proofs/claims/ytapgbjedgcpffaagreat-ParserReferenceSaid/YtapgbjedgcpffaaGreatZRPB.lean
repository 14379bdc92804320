/-
The parser: numbers, operators, names. No condition but that its place lies in the list.
-/
import Derived.Test.YtapgbjedgcpffaaGreatZRL1
import Derived.Test.YtapgbjedgcpffaaGreatZRPA
noncomputable section
namespace Go.Proofs.YtapgbjedgcpffaaGreat.pb
open Go.R
set_option maxRecDepth 10000
set_option linter.unusedVariables false
set_option linter.unusedSimpArgs false
open w1 w3 l1 pt pa
theorem aU{b c:Bool}{p:Prop}{i j:Int}(q:b=false/\p/\j=i+1/\c=false)(h:0<=i):i.toNat+1=j.toNat:=by have:=q.2.2.1;omega
theorem Oc.yes{α:Type}{f g:Nat->Rs α}{p:Prop} [Decidable p]{b c E:Bool}{i j O:Int}{x:α}(q:b=false/\p/\j=i+1/\c=false)(h:Oc f c j x O E):Oc (fun n=>if p then f n else g n) b i x O E:=Oc.of q.1 ((h.out q.2.2.2).iteT q.2.1)
theorem Oc.no{α:Type}{f g:Nat->Rs α}{p:Prop} [Decidable p]{b c E:Bool}{i j O:Int}{x:α}(q:j=i/\c=b/\(b=false->¬p))(h:Oc g b i x O E):Oc (fun n=>if p then f n else g n) b i x O E:=Oc.iteF q.2.2 h
def d7:List (List UInt8×Int×Int×Bool):=[([43],4,6,false),([45],5,6,false),([42],6,7,false),([47],7,7,false),([37],8,7,false)]
def opA(s:List UInt8):Int×Int×Bool:=((d7.find? fun q=>decide (s=q.1)).map (·.2)).getD (0,0,false)
abbrev Po4(H:Heap)(Φ:Int->Int->Bool->Prop)(v:Value)(H':Heap):Prop:= ∃(o:Int) (l:Int) (t:Bool),H'=H/\v= .tuple ⟨[iI o,iI l,.bool t]⟩/\Φ o l t
theorem arith_c(ex:FuncId)(s:List UInt8)(H:Heap):kKt ex 102 [(tX s)] H (Po4 H fun o l t=>o=(opA s).1/\l=(opA s).2.1/\t=(opA s).2.2):=by
 refine av Tryz.func102 V V (ai 1 V (wr 3 [] 2 4 [] [(2,(.int _ 0)),(3,(.int _ 0)),(4,(.bool false))] trivial V V fun _=>wr 3 [] 5 5 [] [(5,(tX s))] trivial V V fun _=>wr 1 [] 6 7 [] [(6,(.bool (s==([43]:List UInt8))))] trivial V V fun _=>zi 1 1 (fun U=>?_) fun U=>?_))
 ·try simp only[BS]at U
  refine wr 1 [] 2 4 [] [(2,(.int _ 4)),(3,(.int _ 6)),(4,(.bool false))] trivial V V fun _=>ae ⟨.inr V,_,V,4,6,_,V,V,(by(simp_all[opT,opA,opL,d7,List.find?];done)),(by(simp_all[opT,opA,opL,d7,List.find?];done)),(by(simp_all[opT,opA,opL,d7,List.find?];done))⟩
 try simp only[BS]at U
 refine wr 1 [] 8 9 [] [(8,(.bool (s==([45]:List UInt8))))] trivial V V fun _=>zi 1 1 (fun Y=>?_) fun Y=>?_
 ·try simp only[BS]at Y
  refine wr 1 [] 2 4 [] [(2,(.int _ 5)),(3,(.int _ 6)),(4,(.bool false))] trivial V V fun _=>ae ⟨.inr V,_,V,5,6,_,V,V,(by(simp_all[opT,opA,opL,d7,List.find?];done)),(by(simp_all[opT,opA,opL,d7,List.find?];done)),(by(simp_all[opT,opA,opL,d7,List.find?];done))⟩
 try simp only[BS]at Y
 refine wr 1 [] 10 11 [] [(10,(.bool (s==([42]:List UInt8))))] trivial V V fun _=>zi 1 1 (fun E=>?_) fun E=>?_
 ·try simp only[BS]at E
  refine wr 1 [] 2 4 [] [(2,(.int _ 6)),(3,(.int _ 7)),(4,(.bool false))] trivial V V fun _=>ae ⟨.inr V,_,V,6,7,_,V,V,(by(simp_all[opT,opA,opL,d7,List.find?];done)),(by(simp_all[opT,opA,opL,d7,List.find?];done)),(by(simp_all[opT,opA,opL,d7,List.find?];done))⟩
 try simp only[BS]at E
 refine wr 1 [] 12 13 [] [(12,(.bool (s==([47]:List UInt8))))] trivial V V fun _=>zi 1 1 (fun O=>?_) fun O=>?_
 ·try simp only[BS]at O
  refine wr 1 [] 2 4 [] [(2,(.int _ 7)),(3,(.int _ 7)),(4,(.bool false))] trivial V V fun _=>ae ⟨.inr V,_,V,7,7,_,V,V,(by(simp_all[opT,opA,opL,d7,List.find?];done)),(by(simp_all[opT,opA,opL,d7,List.find?];done)),(by(simp_all[opT,opA,opL,d7,List.find?];done))⟩
 try simp only[BS]at O
 refine wr 1 [] 14 15 [] [(14,(.bool (s==([37]:List UInt8))))] trivial V V fun _=>zi 1 3 (fun T=>?_) fun T=>?_
 ·try simp only[BS]at T
  refine wr 1 [] 2 4 [] [(2,(.int _ 8)),(3,(.int _ 7)),(4,(.bool false))] trivial V V fun _=>ae ⟨.inr V,_,V,8,7,_,V,V,(by(simp_all[opT,opA,opL,d7,List.find?];done)),(by(simp_all[opT,opA,opL,d7,List.find?];done)),(by(simp_all[opT,opA,opL,d7,List.find?];done))⟩
 try simp only[BS]at T
 refine wr 1 [] 2 4 [] [(2,(.int _ 0)),(3,(.int _ 0)),(4,(.bool false))] trivial V V fun _=>ae ⟨.inr V,_,V,0,0,_,V,V,(by(simp_all[opT,opA,opL,d7,List.find?];done)),(by(simp_all[opT,opA,opL,d7,List.find?];done)),(by(simp_all[opT,opA,opL,d7,List.find?];done))⟩
theorem arith_c_q(ex:FuncId)(s:List UInt8)(H:Heap):kKt ex 102 [(tX s)] H fun v H'=>v=(.tuple ⟨[(iI ((opA s).1)),(iI ((opA s).2.1)),(.bool ((opA s).2.2))]⟩)/\H'=H:=
 cq (arith_c ex s H) (by rintro _ _ ⟨_,_,_,rfl,rfl,rfl,rfl,rfl⟩;exact⟨V,V⟩)
theorem operator_c(ex:FuncId)(s:List UInt8)(H:Heap):kKt ex 94 [(tX s)] H (Po4 H fun o l t=>o=(opT s).1/\l=(opT s).2.1/\t=(opT s).2.2):=by
 refine av Tryz.func94 V V (ai 1 V (wr 3 [] 2 4 [] [(2,(.int _ 0)),(3,(.int _ 0)),(4,(.bool false))] trivial V V fun _=>wr 3 [] 5 5 [] [(5,(tX s))] trivial V V fun _=>wr 1 [] 6 7 [] [(6,(.bool (s==([124]:List UInt8))))] trivial V V fun _=>zi 1 1 (fun c4=>?_) fun c4=>?_))
 ·try simp only[BS]at c4
  refine wr 1 [] 2 4 [] [(2,(.int _ 10)),(3,(.int _ 0)),(4,(.bool false))] trivial V V fun _=>ae ⟨.inr V,_,V,10,0,_,V,V,(by(simp_all[opT,opA,opL,d7,List.find?];done)),(by(simp_all[opT,opA,opL,d7,List.find?];done)),(by(simp_all[opT,opA,opL,d7,List.find?];done))⟩
 try simp only[BS]at c4
 refine wr 1 [] 8 9 [] [(8,(.bool (s==([94]:List UInt8))))] trivial V V fun _=>zi 1 1 (fun c7=>?_) fun c7=>?_
 ·try simp only[BS]at c7
  refine wr 1 [] 2 4 [] [(2,(.int _ 11)),(3,(.int _ 1)),(4,(.bool false))] trivial V V fun _=>ae ⟨.inr V,_,V,11,1,_,V,V,(by(simp_all[opT,opA,opL,d7,List.find?];done)),(by(simp_all[opT,opA,opL,d7,List.find?];done)),(by(simp_all[opT,opA,opL,d7,List.find?];done))⟩
 try simp only[BS]at c7
 refine wr 1 [] 10 11 [] [(10,(.bool (s==([38]:List UInt8))))] trivial V V fun _=>zi 1 1 (fun E=>?_) fun E=>?_
 ·try simp only[BS]at E
  refine wr 1 [] 2 4 [] [(2,(.int _ 9)),(3,(.int _ 2)),(4,(.bool false))] trivial V V fun _=>ae ⟨.inr V,_,V,9,2,_,V,V,(by(simp_all[opT,opA,opL,d7,List.find?];done)),(by(simp_all[opT,opA,opL,d7,List.find?];done)),(by(simp_all[opT,opA,opL,d7,List.find?];done))⟩
 try simp only[BS]at E
 refine wr 1 [] 12 13 [] [(12,(.bool (s==([61,61]:List UInt8))))] trivial V V fun _=>zi 1 1 (fun O=>?_) fun O=>?_
 ·try simp only[BS]at O
  refine wr 1 [] 2 4 [] [(2,(.int _ 15)),(3,(.int _ 3)),(4,(.bool false))] trivial V V fun _=>ae ⟨.inr V,_,V,15,3,_,V,V,(by(simp_all[opT,opA,opL,d7,List.find?];done)),(by(simp_all[opT,opA,opL,d7,List.find?];done)),(by(simp_all[opT,opA,opL,d7,List.find?];done))⟩
 try simp only[BS]at O
 refine wr 1 [] 14 15 [] [(14,(.bool (s==([33,61]:List UInt8))))] trivial V V fun _=>zi 1 1 (fun T=>?_) fun T=>?_
 ·try simp only[BS]at T
  refine wr 1 [] 2 4 [] [(2,(.int _ 16)),(3,(.int _ 3)),(4,(.bool false))] trivial V V fun _=>ae ⟨.inr V,_,V,16,3,_,V,V,(by(simp_all[opT,opA,opL,d7,List.find?];done)),(by(simp_all[opT,opA,opL,d7,List.find?];done)),(by(simp_all[opT,opA,opL,d7,List.find?];done))⟩
 try simp only[BS]at T
 refine wr 1 [] 16 17 [] [(16,(.bool (s==([60]:List UInt8))))] trivial V V fun _=>zi 1 1 (fun U=>?_) fun U=>?_
 ·try simp only[BS]at U
  refine wr 1 [] 2 4 [] [(2,(.int _ 17)),(3,(.int _ 4)),(4,(.bool false))] trivial V V fun _=>ae ⟨.inr V,_,V,17,4,_,V,V,(by(simp_all[opT,opA,opL,d7,List.find?];done)),(by(simp_all[opT,opA,opL,d7,List.find?];done)),(by(simp_all[opT,opA,opL,d7,List.find?];done))⟩
 try simp only[BS]at U
 refine wr 1 [] 18 19 [] [(18,(.bool (s==([60,61]:List UInt8))))] trivial V V fun _=>zi 1 1 (fun Y=>?_) fun Y=>?_
 ·try simp only[BS]at Y
  refine wr 1 [] 2 4 [] [(2,(.int _ 18)),(3,(.int _ 4)),(4,(.bool false))] trivial V V fun _=>ae ⟨.inr V,_,V,18,4,_,V,V,(by(simp_all[opT,opA,opL,d7,List.find?];done)),(by(simp_all[opT,opA,opL,d7,List.find?];done)),(by(simp_all[opT,opA,opL,d7,List.find?];done))⟩
 try simp only[BS]at Y
 refine wr 1 [] 20 21 [] [(20,(.bool (s==([62]:List UInt8))))] trivial V V fun _=>zi 1 1 (fun Z=>?_) fun Z=>?_
 ·try simp only[BS]at Z
  refine wr 1 [] 2 4 [] [(2,(.int _ 17)),(3,(.int _ 4)),(4,(.bool true))] trivial V V fun _=>ae ⟨.inr V,_,V,17,4,_,V,V,(by(simp_all[opT,opA,opL,d7,List.find?];done)),(by(simp_all[opT,opA,opL,d7,List.find?];done)),(by(simp_all[opT,opA,opL,d7,List.find?];done))⟩
 try simp only[BS]at Z
 refine wr 1 [] 22 23 [] [(22,(.bool (s==([62,61]:List UInt8))))] trivial V V fun _=>zi 1 1 (fun al=>?_) fun al=>?_
 ·try simp only[BS]at al
  refine wr 1 [] 2 4 [] [(2,(.int _ 18)),(3,(.int _ 4)),(4,(.bool true))] trivial V V fun _=>ae ⟨.inr V,_,V,18,4,_,V,V,(by(simp_all[opT,opA,opL,d7,List.find?];done)),(by(simp_all[opT,opA,opL,d7,List.find?];done)),(by(simp_all[opT,opA,opL,d7,List.find?];done))⟩
 try simp only[BS]at al
 refine wr 1 [] 24 25 [] [(24,(.bool (s==([60,60]:List UInt8))))] trivial V V fun _=>zi 1 1 (fun an=>?_) fun an=>?_
 ·try simp only[BS]at an
  refine wr 1 [] 2 4 [] [(2,(.int _ 12)),(3,(.int _ 5)),(4,(.bool false))] trivial V V fun _=>ae ⟨.inr V,_,V,12,5,_,V,V,(by(simp_all[opT,opA,opL,d7,List.find?];done)),(by(simp_all[opT,opA,opL,d7,List.find?];done)),(by(simp_all[opT,opA,opL,d7,List.find?];done))⟩
 try simp only[BS]at an
 refine wr 1 [] 26 27 [] [(26,(.bool (s==([62,62]:List UInt8))))] trivial V V fun _=>zi 1 1 (fun ax=>?_) fun ax=>?_
 ·try simp only[BS]at ax
  refine wr 1 [] 2 4 [] [(2,(.int _ 14)),(3,(.int _ 5)),(4,(.bool false))] trivial V V fun _=>ae ⟨.inr V,_,V,14,5,_,V,V,(by(simp_all[opT,opA,opL,d7,List.find?];done)),(by(simp_all[opT,opA,opL,d7,List.find?];done)),(by(simp_all[opT,opA,opL,d7,List.find?];done))⟩
 try simp only[BS]at ax
 refine wr 1 [] 28 29 [] [(28,(.bool (s==([62,62,62]:List UInt8))))] trivial V V fun _=>zi 1 3 (fun a0=>?_) fun a0=>?_
 ·try simp only[BS]at a0
  refine wT 1 [] 2 4 [] [(2,(iI 13)),(3,(iI 5)),(4,(.bool false))] V fun _=>ae ⟨.inr V,_,V,13,5,false,V,V,(by(simp_all[opT,opA,opL,d7,List.find?];done)),(by(simp_all[opT,opA,opL,d7,List.find?];done)),(by(simp_all[opT,opA,opL,d7,List.find?];done))⟩
 try simp only[BS]at a0
 refine wU 1 [(1,.o (.tuple ⟨[(iI ((opA s).1)),(iI ((opA s).2.1)),(.bool ((opA s).2.2))]⟩))] 30 34 [2,3,4] [(2,(iI ((opA s).1))),(3,(iI ((opA s).2.1))),(4,(.bool ((opA s).2.2)))] (arith_c_q ex s H) V fun _=>ae ⟨.inr V,_,V,(opA s).1,(opA s).2.1,(opA s).2.2,V,V,(by(simp_all[opT,opA,opL,d7,List.find?];done)),(by(simp_all[opT,opA,opL,d7,List.find?];done)),(by(simp_all[opT,opA,opL,d7,List.find?];done))⟩
theorem operator_c_q(ex:FuncId)(s:List UInt8)(H:Heap):kKt ex 94 [(tX s)] H fun v H'=>v=(.tuple ⟨[(iI ((opT s).1)),(iI ((opT s).2.1)),(.bool ((opT s).2.2))]⟩)/\H'=H:=
 cq (operator_c ex s H) (by rintro _ _ ⟨_,_,_,rfl,rfl,rfl,rfl,rfl⟩;exact⟨V,V⟩)
variable (ts:List Token)
variable (ex:FuncId) {F:Fz} {H:Heap} {R:List Fp}
theorem nxT_tok{ts:List Token}{r:RdrT}(E:r.l=ts)(h:(nxT r).kind≠0):r.bad=false/\r.at_<(ts.length:Int)/\nxT r=ts.getD r.at_.toNat default:=by
 unfold nxT at h⊢;by_cases k:r.bad=true\/(r.l.length:Int)<=r.at_
 ·rw[if_pos k]at h;exact absurd V h
 rw[if_neg k,E];rw[E]at k;exact⟨by cases e:r.bad with|false=>rfl|true=>exact absurd (.inl e) k,by omega,rfl⟩
theorem nm_y{ts:List Token}{r:RdrT}(U:r.l=ts)(h:(nxT r).kind=2):r.bad=false/\r.at_<(ts.length:Int)/\nxT r=ts.getD r.at_.toNat default/\isM ts r.at_.toNat=true:=by obtain⟨O,T,E⟩:=nxT_tok U (by rw[h];decide);exact⟨O,T,E,by unfold isM;rw[←E];exact decide_eq_true h⟩
theorem nm_n{ts:List Token}{r:RdrT}(E:r.l=ts)(h:(nxT r).kind≠2)(hb:r.bad=false): ¬isM ts r.at_.toNat=true:=fun k=>by unfold isM at k;rw[decide_eq_true_eq]at k;refine h ?_;rw[mw,if_neg (by rw[hb];decide),E];exact k
def tx(ts:List Token)(i:Nat):List UInt8:=(ts.getD i default).text.b
theorem sma_n{ts:List Token}{r:RdrT}{x:Int}(O:r.l=ts)(E:0<=r.at_)(h:((nxT r).kind≠2\/(aQ (nxT r).text.b).isSome=false)\/1000000<(aQ (nxT r).text.b).getD 0):Oc (fun _=>d9 ts r.at_.toNat) r.bad r.at_ x r.at_ true:=⟨fun _=>⟨V,V⟩,fun hb=>by
 have e:nxT r=ts.getD r.at_.toNat default:=by rw[mw,if_neg (by rw[hb];decide),O]
 rw[e]at h;unfold d9;rw[if_neg (fun k=>?_)]
 ·exact .fail M
 rw[a03,a03,decide_eq_true_eq]at k;rcases h with(h|h)|h
 ·exact h (of_decide_eq_true k.1.1)
 ·exact absurd (k.1.2.symm.trans h) e_
 exact absurd k.2 (by show ¬(aQ _).getD 0<=_;omega)⟩
theorem sma_y{ts:List Token}{r:RdrT}(Z:r.l=ts)(U:0<=r.at_)(h:((nxT r).kind=2/\(aQ (nxT r).text.b).isSome=true)/\¬1000000<(aQ (nxT r).text.b).getD 0):Oc (fun _=>d9 ts r.at_.toNat) r.bad r.at_ ((aQ (nxT r).text.b).getD 0) (r.at_+1) r.bad:=by obtain⟨E,Y,O,T⟩:=nm_y Z h.1.1;refine Oc.of E ?_;unfold d9;rw[O]at h⊢;rw[if_pos (by rw[a03,a03,decide_eq_true_eq];exact⟨⟨T,h.1.2⟩,Int.not_lt.1 h.2⟩),E];exact .val M
theorem sm_lt{ts:List Token}{r:RdrT}(E:r.l=ts)(h:((nxT r).kind=2/\(aQ (nxT r).text.b).isSome=true)/\¬1000000<(aQ (nxT r).text.b).getD 0):r.at_<(ts.length:Int):=(nm_y E h.1.1).2.1
theorem dl{s:List UInt8}:in64 ((aQ s).getD 0):=by
 unfold aQ dF;split
 ·split
  ·decide
  ·next h=>split at h<;>simp_all;constructor<;>omega
  decide
 split
 ·next h=>split at h<;>simp_all;constructor<;>omega
 decide
def acB(ts:List Token)(r:RdrT):Bool:=anB r&&isS ts (r.at_.toNat+1) [40]
theorem ac_n{ts:List Token}{r:RdrT}(E:r.l=ts)(ha:0<=r.at_/\r.at_<=(ts.length:Int))(h:anB r=false\/(r.l.length:Int)<=r.at_+1):acB ts r=false:=by
 unfold acB;rcases h with h|h
 ·rw[h];rfl
 unfold isS;rw[E]at h;rw[bh (show ts.length<=r.at_.toNat+1 by omega)];cases anB r<;>rfl
theorem acx{ts:List Token}{r:RdrT}(E:r.l=ts)(h:anB r=true/\¬(r.l.length:Int)<=r.at_+1):r.at_+1<(ts.length:Int):=by have:=h.2;rw[E]at this;omega
theorem ac_y{ts:List Token}{r:RdrT}(O:r.l=ts)(E:0<=r.at_)(h:anB r=true/\¬(r.l.length:Int)<=r.at_+1):((r.l.getD (r.at_+1).toNat default).kind==3&&(r.l.getD (r.at_+1).toNat default).text.b==[40])=acB ts r:=by unfold acB isS;rw[h.1,O,show(r.at_+1).toNat=r.at_.toNat+1 by omega,a1o,a0G];simp
theorem negative_c(s:List UInt8)(H:Heap)(E:s.length<=1000000):kKt ex 100 [(tX s)] H fun v H'=> ∃(o:Int),H'=H/\v=iI o/\o=(aQ (45::s)).getD 0:=by refine av Tryz.func100 V V (ai 1 V (wr 2 [] 2 2 [] [(2,(.int _ 0))] trivial V V fun _=>wr 2 [(2,.o (.tuple ⟨[(.int _ _),(.bool (aQ ([45]++s)).isSome)]⟩))] 5 10 [3,4] [(3,(.int _ _))] (vA (show([45]:List UInt8).length+(s:List UInt8).length<=1099511627776 from by(have:([45]:List UInt8).length=1:=rfl;omega)) (vA (w3.lD ex _ H) trivial)) V V fun _=>wr 1 [] 2 2 [11] [(2,(.int _ _))] trivial V V fun _=>ae ⟨.inr V,_,V,_,V,V,k_⟩))
theorem negative_c_q(s:List UInt8)(H:Heap)(E:s.length<=1000000):kKt ex 100 [(tX s)] H fun v H'=>v=(iI ((aQ (45::s)).getD 0))/\H'=H:=
 cq (negative_c ex s H E) (by rintro _ _ ⟨_,rfl,rfl,rfl⟩;exact⟨V,V⟩)
theorem atCall_c{U:Option Addr}{Z:Nat}{ar:Nat}(r:RdrT)(h0:pa.Pr1 H ar F U r Z R ts):kKt ex 91 [(pT ar 0)] H (pa.Po2 F H ar U r Z R (acB ts r)):=by
 obtain⟨hs,al,b3,b4,b6,hts,hat,b5⟩:=h0;refine av Tryz.func91 V V (ai 1 V (wr 3 [] 2 2 [] [(2,(.bool false))] trivial V V fun _=>cC 4 19 [] [(19,(.bool ((!(anB r))||(decide ((r.l.length:Int)<=r.at_+1)))))] (fun H'=> ∃F',Fz.le F F'/\HS (Base.of H [ar]) F' H' [(rZ ar r U Z)] R) ?_ ?_))
 ·refine aC V (zfm (pT ar 0) (wcD [ar] (j:=0) hs V V (pa.atName_c ts ex r (.mk (HS.callOwn hs.log0 (i:=0) V) al M M M M M M)) V V (kb V) ?_));rintro _ H4 ⟨o4,F4,ax,O,rfl,rfl⟩;refine⟨_,_,_,O,fun a9 O=>?_⟩;replace al:=al.mono ax;refine wfv (cg V) (zfm (.bool (!(anB r))) (wf_gsF V V (fun E=>?_) (fun E=>?_)))
  ·have a0:=E;try simp only[BS]at a0
   refine zfm _ (bk V E (wfv (eg V) (bk V E (zp 1 (bk V E ?_)))));refine zl 1 (HS.hc O.log0 (i:=0) V) (bk V E (wfv (eA V V (gM (n:=r.at_+1) M)) (bk V E (zfm (pT ar 0) (bk V E ?_)))));refine wfv (eg V) (bk V E (zp 0 (bk V E (zl 0 (HS.hc O.log0 (i:=0) V) (bk V E ?_)))));refine bf (gA V V (SR.sv al O.log0)) V V (lQ V) (jL _) (bk V E (wfv (bd V V V V) (wfv (v:=(.bool (decide ((r.l.length:Int)<=r.at_+1)))) (aD V E V) (dT ?_))));exact ap ⟨V,⟨_,(fT fR ax),HS.sub O (List.Sublist.refl _)⟩,(by repeat' first|exact Lr|refine Lu V ?_),(agC (congrArg _ (show(decide ((r.l.length:Int)<=r.at_+1))=((!(anB r))||(decide ((r.l.length:Int)<=r.at_+1))) by simp only[↓E,BT])) agN)⟩
  have a0:=E;try simp only[BS]at a0
  refine aK V E V (aK V E V (aK V E V (aK V E V (aK V E V (aK V E V ?_)))));refine aK V E V (aK V E V (aK V E V (aK V E V (wfv (v:=(.bool true)) (au V E V) (dT ?_)))));exact ap ⟨V,⟨_,(fT fR ax),HS.sub O (List.Sublist.refl _)⟩,(by repeat' first|exact Lr|refine Lu V ?_),(agC (congrArg _ (show true=((!(anB r))||(decide ((r.l.length:Int)<=r.at_+1))) by simp only[↓E,BT])) agN)⟩
 skip;rintro g3 H3 ⟨F3,an,T⟩;replace al:=al.mono an;refine ai 1 V (zi 1 2 (fun c6=>?_) fun c6=>?_)
 ·try simp only[BS]at c6
  have c1:=c6;refine wr 1 [] 2 2 [] [(2,(.bool false))] trivial V V fun _=>ae ⟨.inr V,_,V,_,_,(an),(HS.first T),V,(ac_n hts hat c1).symm⟩
 try simp only[BS]at c6
 have c1:=c6;have c2:=acx hts c1;refine aC V ?_;obtain⟨bb,a1⟩:=Sv.view (SR.sv al T);obtain⟨a4,a5⟩:=Token.fx (a1 (r.at_+1).toNat);refine de 11 20 30 [] [(30,(aG [_,_,_]))] (Hr_ 3 0 (Hr_ 7 0 (Ha_ (vi) (Ha_ (Sv.ix (SR.sv al T)) (Hl_ 10 (qn 79 0 3 (hc0 (Token.vw (a1 (r.at_+1).toNat) M)) V V V V) Hn_))))) T V V fun _=>znD T V fun ba a3 a2=>sdo 1 1 0 [] [] (Hr_ 12 1 Hn_) a2 V V fun a6 a8 Y=>bt 2 V (cP 1 31 38 [2] [(2,(.bool (((r.l.getD _ _).kind==3)&&((r.l.getD _ _).text.b==([40]:List UInt8)))))] (Hr_ 1 1 (Ho_ 5 (.o (tX (r.l.getD _ _).text.b)) (fun(g1:_)=>(ql 9 1 (i_ Y V) V V)) Hn_)) Y V V fun _=>ae ⟨.inr V,_,V,_,_,(an),(HS.first Y),V,(ac_y hts hat.1 c1)⟩)
theorem small_c{al:Option Addr}{ax:Nat}{a6:Nat}(r:RdrT)(h0:pa.Pr1 H a6 F al r ax R ts):kKt ex 17 [(pT a6 0)] H fun v H'=> ∃(x:Int) (r':RdrT) (O:Option Addr) (Z:Nat) (F':Fz),Fz.le F F'/\HS (.of H [a6]) F' H' [(rZ a6 r' O Z)] R/\v=iI x/\in64 r'.at_/\in64 r'.fin/\SR F' (sL O r'.l.length Z) r'.l/\(in64 x)/\(r'.l=ts)/\(r.at_<=r'.at_/\r'.at_<=(ts.length:Int))/\(r'.fin=r.fin)/\(Oc (fun n=>d9 ts r.at_.toNat) r.bad r.at_ x r'.at_ r'.bad):=by
 obtain⟨hs,ar,b5,b6,b8,hts,hat,b7⟩:=h0;refine av Tryz.func17 V V (ai 1 V (wr 2 [] 2 2 [] [(2,(.int _ 0))] trivial V V fun _=>ab (zm (pT a6 0) (zc (pa.lI ts ex r (.mk (g_ hs V) ar M M M M M M)) ?_))));rintro _ H2 ⟨t2,F2,U,Y,rfl,a0,a1,rfl⟩;replace Y:=hs.bO Y;replace ar:=ar.mono U;refine zn Y V fun b3 H4 a2=>sgo 1 3 1 0 [] [] (Hr_ 3 1 Hn_) a2 V V fun a8 H5 E=>ah 2 V (cP 3 8 13 [4,5] [(4,(.int _ _)),(5,(.bool (aQ (nxT r).text.b).isSome))] (Hr_ 1 1 (Hc_ 2 (w3.lD ex _ H5) Hn_)) E V V fun _=>cP 1 14 24 [] [(24,(.bool ((((nxT r).kind !=2)||(!(aQ (nxT r).text.b).isSome))||(decide ((1000000:Int)<(aQ (nxT r).text.b).getD 0)))))] (Hr_ 1 1 Hn_) E V V fun _=>zi 1 2 (fun T=>?_) fun T=>?_)
 ·try simp only[BS]at T
  have c1:=T;refine sgr 2 25 27 [] [] (Hr_ 3 0 Hn_) E V V fun a9 H9 a3=>wr 1 [] 2 2 [] [(2,(.int _ 0))] trivial V V fun _=>ae ⟨.inr V,_,V,0,(⟨r.l,r.at_,_,true⟩:RdrT),_,_,_,(U),(HS.first a3),V,M,M,ar,e_,X,M,k_,(sma_n hts hat.1 c1)⟩
 try simp only[BS]at T
 have c1:=T;have c2:=sm_lt hts c1;refine sgr 2 28 34 [] [] (Hr_ 3 0 (Ha_ (vi) (Hr_ 7 0 Hn_))) E V V fun a5 a7 an=>wr 1 [] 2 2 [35] [(2,(.int _ _))] trivial V V fun _=>ae ⟨.inr V,_,V,_,(⟨r.l,r.at_+1,_,_⟩:RdrT),_,_,_,(U),(HS.first an),V,M,M,ar,(dl),X,M,k_,(sma_y hts hat.1 c1)⟩
theorem names_c{cm:Option Addr}{c5:Nat}{a2:Nat}(r:RdrT)(h0:pa.Pr1 H a2 F cm r c5 R ts):kKt ex 45 [(pT a2 0)] H fun v H'=> ∃(ax:Option Addr) (kx:Nat) (x:List Str) (r':RdrT) (a1:Option Addr) (bb:Nat) (F':Fz),Fz.le F F'/\HS (.of H [a2]) F' H' [(rZ a2 r' a1 bb)] R/\v=sL ax x.length kx/\SR F' (sL ax x.length kx) x/\in64 r'.at_/\in64 r'.fin/\SR F' (sL a1 r'.l.length bb) r'.l/\(r'.l=ts)/\(r.at_<=r'.at_/\r'.at_<=(ts.length:Int))/\(r'.fin=r.fin)/\(Oc (fun n=>namM ts n r.at_.toNat) r.bad r.at_ x r'.at_ r'.bad):=by
 obtain⟨hs,ds,hy,hz,hF,hts,hat,hE⟩:=h0;refine av Tryz.func45 V V (ai 1 V (wr 2 [] 2 2 [] [(2,(sL _ 0 0))] trivial V V fun _=>ab (zm (pT a2 0) (zc (pa.lJ ts ex r (.mk (g_ hs V) ds)) ?_))));rintro _ H2 ⟨x2,d1,em,e6,F2,c9,a9,rfl,e0,e1,b2,g2,f7,gm,g4,a4⟩;replace a9:=hs.bO a9;refine zlo _ a9 V (RL.cs V RL.nl) V fun a3 k3 p3 H4 dd dk=>za _ (ah 3 V (aq (fun(mm:Nat) f H'=> ∃(l:List Str) (rr:RdrT) (Y:Option Addr) (Z:Nat) (al:Fp) (O:Option Addr) (T:Nat) (F':Fz),Fz.le F2 F'/\HS _ F' H' [[(a2,.cells [(sL O rr.l.length T),(.int _ rr.at_),(.int _ rr.fin),(.bool rr.bad)] _ _)],al] R/\OS F' (sL Y l.length Z) l al/\SR F' (sL O rr.l.length T) rr.l/\aJ f [(0,(pT a2 0)),(3,(sL Y l.length Z))]/\mm=ts.length-rr.at_.toNat/\(rr.l=ts)/\(r.at_<=rr.at_/\rr.at_<=(ts.length:Int))/\(rr.fin=r.fin)/\((l.length:Int)<=rr.at_+1)/\(∀x i9 b9,Oc (fun n=>namL ts n l rr.at_.toNat) rr.bad rr.at_ x i9 b9->Oc (fun n=>namM ts n _) _ _ x i9 b9)) _ ⟨_,d1,a3,k3,p3,_,_,_,fR,dk,dd,b2,⟨V,V,trivial⟩,V,M,M,M,(by(have:([(⟨x2⟩:Str)]:List Str).length=1:=rfl);omega),(by intro x9 i9 b9 h9;unfold namM;(try dsimp only at a4);first|exact a4|(refine Oc.seq a4 ?_;exact h9))⟩ ?_))
 rintro hg f5 H5 ⟨l,rr,Y,Z,al,O,T,F5,b5,b8,E,a0,b7,rfl,g7,g8,g9,he,hw⟩ dn;refine az _ b7 (fun _=>?_);clear b7;refine ai 2 V (ab (zm (pT a2 0) (zc (pa.el ts ex rr _ (.mk (g_ b8 V) a0)) ?_)));rintro _ H6 ⟨o6,ck,et,e7,F6,a7,an,rfl,e2,e3,U,rfl,c8,c6,f8,go,g5⟩;replace an:=b8.bO an;replace E:=E.mono a7;refine ah 1 V (zi 2 5 (fun c7=>?_) fun c7=>?_)
 ·try simp only[BS]at c7
  have ci:=c8 c7;refine ab (wro 2 0 [] 9 10 [] [(9,(sL _ _ _)),(10,(pT a2 0))] trivial V V fun _=>zc (pa.lJ ts ex ck (.mk (g_ an V) U)) ?_);rintro _ H9 ⟨x9,d2,ez,e8,F9,b6,ba,rfl,e4,e5,b3,g3,f9,g1,g6,a5⟩;replace ba:=an.bO ba;replace E:=E.mono b6;refine zlo _ ba V (RL.cs V RL.nl) V fun f6 hf hh f3 cw a8=>zao 1 E a8 (OS.sv cw a8 (i:=2) V) V V V M fun b4 ch dt f4 cL c3=>za (sL b4 _ ch) (ah 2 V ?_)
  refine dn _ _ _ ?_ ⟨_,d2,b4,ch,dt,_,_,_,(fT (fT (b5) a7) b6),(HS.sub c3 (a05 _ _)),cL,b3,⟨V,V,trivial⟩,V,M,M,M,(by(try rw[a00,List.length_singleton]);omega),(by intro x9 i9 b9 h9;refine hw _ _ _ ?_;refine Oc.succ ?_ (fun _=>namL.eq_2 ..);refine Oc.yes ci ?_;rw[aU ci M];(try dsimp only at a5);first|exact a5|(refine Oc.seq a5 ?_;exact h9))⟩;omega
 try simp only[BS]at c7
 have bl:=c6 c7;refine wr 1 [] 2 2 [14] [(2,(sL _ _ _))] trivial V V fun _=>?_
 obtain⟨f2,a6,c4,c0,fk⟩:=OS.frz E an (i:=1) V;replace U:=U.mono a6;refine ae ⟨.inr V,_,V,_,_,l,ck,_,_,_,(fT (fT (fT (c9) b5) a7) a6),(HS.first c4),V,c0,M,M,U,M,M,M,(by(refine hw _ _ _ ?_;refine Oc.succ ?_ (fun _=>namL.eq_2 ..);refine Oc.no bl ?_;rw[←bl.1,←bl.2.1];exact Oc.val M (fun _=>by rfl)))⟩
end Go.Proofs.YtapgbjedgcpffaaGreat.pb
