/-
The parser: numbers, operators, names. No condition but that its place lies in the list.
-/
import Derived.Test.YtapgbjedgcpffaaZQL1
import Derived.Test.YtapgbjedgcpffaaZQPA
noncomputable section
namespace Go.Proofs.Ytapgbjedgcpffaa.pb
open Go.R
set_option maxRecDepth 10000
set_option linter.unusedVariables false
set_option linter.unusedSimpArgs false
open w1 w3 l1 pt pa
theorem bH{b c:Bool}{p:Prop}{i j:Int}(q:b=false/\p/\j=i+1/\c=false)(h:0<=i):i.toNat+1=j.toNat:=by have:=q.2.2.1;omega
theorem Oc.yes{α:Type}{f g:Nat->Rs α}{p:Prop} [Decidable p]{b c E:Bool}{i j O:Int}{x:α}(q:b=false/\p/\j=i+1/\c=false)(h:Oc f c j x O E):Oc (fun n=>if p then f n else g n) b i x O E:=Oc.of q.1 ((h.out q.2.2.2).iteT q.2.1)
theorem Oc.no{α:Type}{f g:Nat->Rs α}{p:Prop} [Decidable p]{b c E:Bool}{i j O:Int}{x:α}(q:j=i/\c=b/\(b=false->¬p))(h:Oc g b i x O E):Oc (fun n=>if p then f n else g n) b i x O E:=Oc.iteF q.2.2 h
def dB:List (List UInt8×Int×Int×Bool):=[([43],4,6,false),([45],5,6,false),([42],6,7,false),([47],7,7,false),([37],8,7,false)]
def opA(s:List UInt8):Int×Int×Bool:=((dB.find? fun q=>decide (s=q.1)).map (·.2)).getD (0,0,false)
theorem arith_c(ex:FuncId)(s:List UInt8)(H:Heap):kKt ex 108 [(tX s)] H fun v H'=> ∃(o:Int) (l:Int) (t:Bool),H'=H/\v= .tuple ⟨[iI o,iI l,.bool t]⟩/\o=(opA s).1/\l=(opA s).2.1/\t=(opA s).2.2:=by
 refine aB Try.func108 rfl rfl (ak 1 rfl (wT 3 [] 2 4 [] [(2,(iI 0)),(3,(iI 0)),(4,(.bool false))] rfl fun _=>wT 3 [] 5 5 [] [(5,(tX s))] rfl fun _=>wT 1 [] 6 7 [] [(6,(.bool (s==([43]:List UInt8))))] rfl fun _=>zi 1 1 (fun U=>?_) fun U=>?_))
 ·try simp only[BS]at U
  refine wT 1 [] 2 4 [] [(2,(iI 4)),(3,(iI 6)),(4,(.bool false))] rfl fun _=>aj ⟨.inr rfl,_,rfl,4,6,false,rfl,rfl,(by(simp_all[opT,opA,opL,dB,List.find?];done)),(by(simp_all[opT,opA,opL,dB,List.find?];done)),(by(simp_all[opT,opA,opL,dB,List.find?];done))⟩
 try simp only[BS]at U
 refine wT 1 [] 8 9 [] [(8,(.bool (s==([45]:List UInt8))))] rfl fun _=>zi 1 1 (fun Y=>?_) fun Y=>?_
 ·try simp only[BS]at Y
  refine wT 1 [] 2 4 [] [(2,(iI 5)),(3,(iI 6)),(4,(.bool false))] rfl fun _=>aj ⟨.inr rfl,_,rfl,5,6,false,rfl,rfl,(by(simp_all[opT,opA,opL,dB,List.find?];done)),(by(simp_all[opT,opA,opL,dB,List.find?];done)),(by(simp_all[opT,opA,opL,dB,List.find?];done))⟩
 try simp only[BS]at Y
 refine wT 1 [] 10 11 [] [(10,(.bool (s==([42]:List UInt8))))] rfl fun _=>zi 1 1 (fun E=>?_) fun E=>?_
 ·try simp only[BS]at E
  refine wT 1 [] 2 4 [] [(2,(iI 6)),(3,(iI 7)),(4,(.bool false))] rfl fun _=>aj ⟨.inr rfl,_,rfl,6,7,false,rfl,rfl,(by(simp_all[opT,opA,opL,dB,List.find?];done)),(by(simp_all[opT,opA,opL,dB,List.find?];done)),(by(simp_all[opT,opA,opL,dB,List.find?];done))⟩
 try simp only[BS]at E
 refine wT 1 [] 12 13 [] [(12,(.bool (s==([47]:List UInt8))))] rfl fun _=>zi 1 1 (fun O=>?_) fun O=>?_
 ·try simp only[BS]at O
  refine wT 1 [] 2 4 [] [(2,(iI 7)),(3,(iI 7)),(4,(.bool false))] rfl fun _=>aj ⟨.inr rfl,_,rfl,7,7,false,rfl,rfl,(by(simp_all[opT,opA,opL,dB,List.find?];done)),(by(simp_all[opT,opA,opL,dB,List.find?];done)),(by(simp_all[opT,opA,opL,dB,List.find?];done))⟩
 try simp only[BS]at O
 refine wT 1 [] 14 15 [] [(14,(.bool (s==([37]:List UInt8))))] rfl fun _=>zi 1 3 (fun T=>?_) fun T=>?_
 ·try simp only[BS]at T
  refine wT 1 [] 2 4 [] [(2,(iI 8)),(3,(iI 7)),(4,(.bool false))] rfl fun _=>aj ⟨.inr rfl,_,rfl,8,7,false,rfl,rfl,(by(simp_all[opT,opA,opL,dB,List.find?];done)),(by(simp_all[opT,opA,opL,dB,List.find?];done)),(by(simp_all[opT,opA,opL,dB,List.find?];done))⟩
 try simp only[BS]at T
 refine wT 1 [] 2 4 [] [(2,(iI 0)),(3,(iI 0)),(4,(.bool false))] rfl fun _=>aj ⟨.inr rfl,_,rfl,0,0,false,rfl,rfl,(by(simp_all[opT,opA,opL,dB,List.find?];done)),(by(simp_all[opT,opA,opL,dB,List.find?];done)),(by(simp_all[opT,opA,opL,dB,List.find?];done))⟩
theorem arith_c_q(ex:FuncId)(s:List UInt8)(H:Heap):kKt ex 108 [(tX s)] H fun v H'=>v=(.tuple ⟨[(iI ((opA s).1)),(iI ((opA s).2.1)),(.bool ((opA s).2.2))]⟩)/\H'=H:=
 cq (arith_c ex s H) (by rintro _ _ ⟨_,_,_,rfl,rfl,rfl,rfl,rfl⟩;exact⟨rfl,rfl⟩)
theorem operator_c(ex:FuncId)(s:List UInt8)(H:Heap):kKt ex 100 [(tX s)] H fun v H'=> ∃(o:Int) (l:Int) (t:Bool),H'=H/\v= .tuple ⟨[iI o,iI l,.bool t]⟩/\o=(opT s).1/\l=(opT s).2.1/\t=(opT s).2.2:=by
 refine aB Try.func100 rfl rfl (ak 1 rfl (wT 3 [] 2 4 [] [(2,(iI 0)),(3,(iI 0)),(4,(.bool false))] rfl fun _=>wT 3 [] 5 5 [] [(5,(tX s))] rfl fun _=>wT 1 [] 6 7 [] [(6,(.bool (s==([124]:List UInt8))))] rfl fun _=>zi 1 1 (fun c4=>?_) fun c4=>?_))
 ·try simp only[BS]at c4
  refine wT 1 [] 2 4 [] [(2,(iI 10)),(3,(iI 0)),(4,(.bool false))] rfl fun _=>aj ⟨.inr rfl,_,rfl,10,0,false,rfl,rfl,(by(simp_all[opT,opA,opL,dB,List.find?];done)),(by(simp_all[opT,opA,opL,dB,List.find?];done)),(by(simp_all[opT,opA,opL,dB,List.find?];done))⟩
 try simp only[BS]at c4
 refine wT 1 [] 8 9 [] [(8,(.bool (s==([94]:List UInt8))))] rfl fun _=>zi 1 1 (fun c7=>?_) fun c7=>?_
 ·try simp only[BS]at c7
  refine wT 1 [] 2 4 [] [(2,(iI 11)),(3,(iI 1)),(4,(.bool false))] rfl fun _=>aj ⟨.inr rfl,_,rfl,11,1,false,rfl,rfl,(by(simp_all[opT,opA,opL,dB,List.find?];done)),(by(simp_all[opT,opA,opL,dB,List.find?];done)),(by(simp_all[opT,opA,opL,dB,List.find?];done))⟩
 try simp only[BS]at c7
 refine wT 1 [] 10 11 [] [(10,(.bool (s==([38]:List UInt8))))] rfl fun _=>zi 1 1 (fun E=>?_) fun E=>?_
 ·try simp only[BS]at E
  refine wT 1 [] 2 4 [] [(2,(iI 9)),(3,(iI 2)),(4,(.bool false))] rfl fun _=>aj ⟨.inr rfl,_,rfl,9,2,false,rfl,rfl,(by(simp_all[opT,opA,opL,dB,List.find?];done)),(by(simp_all[opT,opA,opL,dB,List.find?];done)),(by(simp_all[opT,opA,opL,dB,List.find?];done))⟩
 try simp only[BS]at E
 refine wT 1 [] 12 13 [] [(12,(.bool (s==([61,61]:List UInt8))))] rfl fun _=>zi 1 1 (fun O=>?_) fun O=>?_
 ·try simp only[BS]at O
  refine wT 1 [] 2 4 [] [(2,(iI 15)),(3,(iI 3)),(4,(.bool false))] rfl fun _=>aj ⟨.inr rfl,_,rfl,15,3,false,rfl,rfl,(by(simp_all[opT,opA,opL,dB,List.find?];done)),(by(simp_all[opT,opA,opL,dB,List.find?];done)),(by(simp_all[opT,opA,opL,dB,List.find?];done))⟩
 try simp only[BS]at O
 refine wT 1 [] 14 15 [] [(14,(.bool (s==([33,61]:List UInt8))))] rfl fun _=>zi 1 1 (fun T=>?_) fun T=>?_
 ·try simp only[BS]at T
  refine wT 1 [] 2 4 [] [(2,(iI 16)),(3,(iI 3)),(4,(.bool false))] rfl fun _=>aj ⟨.inr rfl,_,rfl,16,3,false,rfl,rfl,(by(simp_all[opT,opA,opL,dB,List.find?];done)),(by(simp_all[opT,opA,opL,dB,List.find?];done)),(by(simp_all[opT,opA,opL,dB,List.find?];done))⟩
 try simp only[BS]at T
 refine wT 1 [] 16 17 [] [(16,(.bool (s==([60]:List UInt8))))] rfl fun _=>zi 1 1 (fun U=>?_) fun U=>?_
 ·try simp only[BS]at U
  refine wT 1 [] 2 4 [] [(2,(iI 17)),(3,(iI 4)),(4,(.bool false))] rfl fun _=>aj ⟨.inr rfl,_,rfl,17,4,false,rfl,rfl,(by(simp_all[opT,opA,opL,dB,List.find?];done)),(by(simp_all[opT,opA,opL,dB,List.find?];done)),(by(simp_all[opT,opA,opL,dB,List.find?];done))⟩
 try simp only[BS]at U
 refine wT 1 [] 18 19 [] [(18,(.bool (s==([60,61]:List UInt8))))] rfl fun _=>zi 1 1 (fun Y=>?_) fun Y=>?_
 ·try simp only[BS]at Y
  refine wT 1 [] 2 4 [] [(2,(iI 18)),(3,(iI 4)),(4,(.bool false))] rfl fun _=>aj ⟨.inr rfl,_,rfl,18,4,false,rfl,rfl,(by(simp_all[opT,opA,opL,dB,List.find?];done)),(by(simp_all[opT,opA,opL,dB,List.find?];done)),(by(simp_all[opT,opA,opL,dB,List.find?];done))⟩
 try simp only[BS]at Y
 refine wT 1 [] 20 21 [] [(20,(.bool (s==([62]:List UInt8))))] rfl fun _=>zi 1 1 (fun Z=>?_) fun Z=>?_
 ·try simp only[BS]at Z
  refine wT 1 [] 2 4 [] [(2,(iI 17)),(3,(iI 4)),(4,(.bool true))] rfl fun _=>aj ⟨.inr rfl,_,rfl,17,4,true,rfl,rfl,(by(simp_all[opT,opA,opL,dB,List.find?];done)),(by(simp_all[opT,opA,opL,dB,List.find?];done)),(by(simp_all[opT,opA,opL,dB,List.find?];done))⟩
 try simp only[BS]at Z
 refine wT 1 [] 22 23 [] [(22,(.bool (s==([62,61]:List UInt8))))] rfl fun _=>zi 1 1 (fun al=>?_) fun al=>?_
 ·try simp only[BS]at al
  refine wT 1 [] 2 4 [] [(2,(iI 18)),(3,(iI 4)),(4,(.bool true))] rfl fun _=>aj ⟨.inr rfl,_,rfl,18,4,true,rfl,rfl,(by(simp_all[opT,opA,opL,dB,List.find?];done)),(by(simp_all[opT,opA,opL,dB,List.find?];done)),(by(simp_all[opT,opA,opL,dB,List.find?];done))⟩
 try simp only[BS]at al
 refine wT 1 [] 24 25 [] [(24,(.bool (s==([60,60]:List UInt8))))] rfl fun _=>zi 1 1 (fun an=>?_) fun an=>?_
 ·try simp only[BS]at an
  refine wT 1 [] 2 4 [] [(2,(iI 12)),(3,(iI 5)),(4,(.bool false))] rfl fun _=>aj ⟨.inr rfl,_,rfl,12,5,false,rfl,rfl,(by(simp_all[opT,opA,opL,dB,List.find?];done)),(by(simp_all[opT,opA,opL,dB,List.find?];done)),(by(simp_all[opT,opA,opL,dB,List.find?];done))⟩
 try simp only[BS]at an
 refine wT 1 [] 26 27 [] [(26,(.bool (s==([62,62]:List UInt8))))] rfl fun _=>zi 1 1 (fun ax=>?_) fun ax=>?_
 ·try simp only[BS]at ax
  refine wT 1 [] 2 4 [] [(2,(iI 14)),(3,(iI 5)),(4,(.bool false))] rfl fun _=>aj ⟨.inr rfl,_,rfl,14,5,false,rfl,rfl,(by(simp_all[opT,opA,opL,dB,List.find?];done)),(by(simp_all[opT,opA,opL,dB,List.find?];done)),(by(simp_all[opT,opA,opL,dB,List.find?];done))⟩
 try simp only[BS]at ax
 refine wT 1 [] 28 29 [] [(28,(.bool (s==([62,62,62]:List UInt8))))] rfl fun _=>zi 1 3 (fun h=>?_) fun h=>?_
 ·try simp only[BS]at h
  refine wT 1 [] 2 4 [] [(2,(iI 13)),(3,(iI 5)),(4,(.bool false))] rfl fun _=>aj ⟨.inr rfl,_,rfl,13,5,false,rfl,rfl,(by(simp_all[opT,opA,opL,dB,List.find?];done)),(by(simp_all[opT,opA,opL,dB,List.find?];done)),(by(simp_all[opT,opA,opL,dB,List.find?];done))⟩
 try simp only[BS]at h
 refine wU 1 [(1,.o (.tuple ⟨[(iI ((opA s).1)),(iI ((opA s).2.1)),(.bool ((opA s).2.2))]⟩))] 30 34 [2,3,4] [(2,(iI ((opA s).1))),(3,(iI ((opA s).2.1))),(4,(.bool ((opA s).2.2)))] (arith_c_q ex s H) rfl fun _=>aj ⟨.inr rfl,_,rfl,(opA s).1,(opA s).2.1,(opA s).2.2,rfl,rfl,(by(simp_all[opT,opA,opL,dB,List.find?];done)),(by(simp_all[opT,opA,opL,dB,List.find?];done)),(by(simp_all[opT,opA,opL,dB,List.find?];done))⟩
theorem operator_c_q(ex:FuncId)(s:List UInt8)(H:Heap):kKt ex 100 [(tX s)] H fun v H'=>v=(.tuple ⟨[(iI ((opT s).1)),(iI ((opT s).2.1)),(.bool ((opT s).2.2))]⟩)/\H'=H:=
 cq (operator_c ex s H) (by rintro _ _ ⟨_,_,_,rfl,rfl,rfl,rfl,rfl⟩;exact⟨rfl,rfl⟩)
variable (ts:List Token)
variable (ex:FuncId) {F:Fz} {H:Heap} {R:List Fp}
theorem nxT_tok{ts:List Token}{r:RdrT}(E:r.l=ts)(h:(nxT r).kind≠0):r.bad=false/\r.at_<(ts.length:Int)/\nxT r=ts.getD r.at_.toNat default:=by
 unfold nxT at h⊢;by_cases k:r.bad=true\/(r.l.length:Int)<=r.at_
 ·rw[if_pos k]at h;exact absurd rfl h
 rw[if_neg k,E];rw[E]at k;exact⟨by cases e:r.bad with|false=>rfl|true=>exact absurd (.inl e) k,by omega,rfl⟩
theorem nm_y{ts:List Token}{r:RdrT}(U:r.l=ts)(h:(nxT r).kind=2):r.bad=false/\r.at_<(ts.length:Int)/\nxT r=ts.getD r.at_.toNat default/\isM ts r.at_.toNat=true:=by obtain⟨O,T,E⟩:=nxT_tok U (by rw[h];decide);exact⟨O,T,E,by unfold isM;rw[←E];exact decide_eq_true h⟩
theorem nm_n{ts:List Token}{r:RdrT}(E:r.l=ts)(h:(nxT r).kind≠2)(hb:r.bad=false): ¬isM ts r.at_.toNat=true:=fun k=>by unfold isM at k;rw[decide_eq_true_eq]at k;refine h ?_;rw[kW,if_neg (by rw[hb];decide),E];exact k
def tx(ts:List Token)(i:Nat):List UInt8:=(ts.getD i default).text.b
theorem sma_n{ts:List Token}{r:RdrT}{x:Int}(O:r.l=ts)(E:0<=r.at_)(h:((nxT r).kind≠2\/(aV (nxT r).text.b).isSome=false)\/1000000<(aV (nxT r).text.b).getD 0):Oc (fun _=>fS ts r.at_.toNat) r.bad r.at_ x r.at_ true:=⟨fun _=>⟨rfl,rfl⟩,fun hb=>by
 have e:nxT r=ts.getD r.at_.toNat default:=by rw[kW,if_neg (by rw[hb];decide),O]
 rw[e]at h;unfold fS;rw[if_neg (fun k=>?_)]
 ·exact .fail (by omega)
 rw[a04,a04,decide_eq_true_eq]at k;rcases h with(h|h)|h
 ·exact h (of_decide_eq_true k.1.1)
 ·exact absurd (k.1.2.symm.trans h) (by decide)
 exact absurd k.2 (by show ¬(aV _).getD 0<=_;omega)⟩
theorem sma_y{ts:List Token}{r:RdrT}(Z:r.l=ts)(U:0<=r.at_)(h:((nxT r).kind=2/\(aV (nxT r).text.b).isSome=true)/\¬1000000<(aV (nxT r).text.b).getD 0):Oc (fun _=>fS ts r.at_.toNat) r.bad r.at_ ((aV (nxT r).text.b).getD 0) (r.at_+1) r.bad:=by obtain⟨E,Y,O,T⟩:=nm_y Z h.1.1;refine Oc.of E ?_;unfold fS;rw[O]at h⊢;rw[if_pos (by rw[a04,a04,decide_eq_true_eq];exact⟨⟨T,h.1.2⟩,Int.not_lt.1 h.2⟩),E];exact .val (by omega)
theorem sm_lt{ts:List Token}{r:RdrT}(E:r.l=ts)(h:((nxT r).kind=2/\(aV (nxT r).text.b).isSome=true)/\¬1000000<(aV (nxT r).text.b).getD 0):r.at_<(ts.length:Int):=(nm_y E h.1.1).2.1
theorem ej{s:List UInt8}:in64 ((aV s).getD 0):=by
 unfold aV posS;split
 ·split
  ·decide
  ·next h=>split at h<;>simp_all;constructor<;>omega
  decide
 split
 ·next h=>split at h<;>simp_all;constructor<;>omega
 decide
def acB(ts:List Token)(r:RdrT):Bool:=anB r&&isS ts (r.at_.toNat+1) [40]
theorem ac_n{ts:List Token}{r:RdrT}(E:r.l=ts)(ha:0<=r.at_/\r.at_<=(ts.length:Int))(h:anB r=false\/(r.l.length:Int)<=r.at_+1):acB ts r=false:=by
 unfold acB;rcases h with h|h
 ·rw[h];rfl
 unfold isS;rw[E]at h;rw[bY (show ts.length<=r.at_.toNat+1 by omega)];cases anB r<;>rfl
theorem acx{ts:List Token}{r:RdrT}(E:r.l=ts)(h:anB r=true/\¬(r.l.length:Int)<=r.at_+1):r.at_+1<(ts.length:Int):=by have:=h.2;rw[E]at this;omega
theorem ac_y{ts:List Token}{r:RdrT}(O:r.l=ts)(E:0<=r.at_)(h:anB r=true/\¬(r.l.length:Int)<=r.at_+1):((r.l.getD (r.at_+1).toNat default).kind==3&&(r.l.getD (r.at_+1).toNat default).text.b==[40])=acB ts r:=by unfold acB isS;rw[h.1,O,show(r.at_+1).toNat=r.at_.toNat+1 by omega,a1j,a1v];simp
theorem negative_c(s:List UInt8)(H:Heap)(h:s.length<=1000000):kKt ex 106 [(tX s)] H fun v H'=> ∃(o:Int),H'=H/\v=iI o/\o=(aV (45::s)).getD 0:=by refine aB Try.func106 rfl rfl (ak 1 rfl (wT 2 [] 2 2 [] [(2,(iI 0))] rfl fun _=>wR 2 [(2,.o (.tuple ⟨[(iI ((aV ([45]++s)).getD 0)),(.bool (aV ([45]++s)).isSome)]⟩))] 5 10 [3,4] [(3,(iI ((aV ([45]++s)).getD 0)))] (vA (show([45]:List UInt8).length+(s:List UInt8).length<=1099511627776 from by(have:([45]:List UInt8).length=1:=rfl;omega)) (vA (w3.jV ex ([45]++s) H) trivial)) rfl fun _=>wT 1 [] 2 2 [11] [(2,(iI ((aV ([45]++s)).getD 0)))] rfl fun _=>aj ⟨.inr rfl,_,rfl,(aV ([45]++s)).getD 0,rfl,rfl,(by rfl)⟩))
theorem negative_c_q(s:List UInt8)(H:Heap)(h:s.length<=1000000):kKt ex 106 [(tX s)] H fun v H'=>v=(iI ((aV (45::s)).getD 0))/\H'=H:=
 cq (negative_c ex s H h) (by rintro _ _ ⟨_,rfl,rfl,rfl⟩;exact⟨rfl,rfl⟩)
theorem atCall_c{Z:Option Addr}{an:Nat}{h:Nat}(r:RdrT)(hs:HS (.of H [h]) F H [(rZ h r Z an)] R)(T:SR F (sL Z r.l.length an) r.l)(ch:in64 r.at_)(ci:in64 r.fin)(c8:tQ ts)(b7:r.l=ts)(cl:0<=r.at_/\r.at_<=(ts.length:Int))(c7:ts.length<=1000000):kKt ex 97 [(pT h 0)] H fun v H'=> ∃(o:Bool) (F':Fz),Fz.le F F'/\HS (.of H [h]) F' H' [(rZ h r Z an)] R/\v= .bool o/\o=acB ts r:=by
 let a5:Fp:=(rZ h r Z an)
 refine aB Try.func97 rfl rfl (ak 1 rfl (wT 3 [] 2 2 [] [(2,(.bool false))] rfl fun _=>cX 4 19 [] [(19,(.bool ((!(anB r))||(decide ((r.l.length:Int)<=r.at_+1)))))] (fun H'=> ∃F',Fz.le F F'/\HS (Base.of H [h]) F' H' [a5] R) ?_ ?_))
 ·refine aI rfl (zfm (pT h 0) (aX (W:=[h]) (aU rfl rfl rfl) rfl rfl rfl (pa.atName_c ts ex r (HS.callOwn hs.log0 (i:=0) rfl) T (by omega) (by omega) (by omega) (by omega) (by omega) (by omega)) (kb rfl) ?_));rintro _ H4 ⟨o4,F4,a3,O,rfl,rfl⟩;refine⟨HS.didW O,fun b4 a8=>?_⟩;replace O:=HS.backOwn hs.log0 (i:=0) rfl rfl (fun _ hb=>hb) O;replace O:=HS.lg O hs a8;generalize ({H4 with log:=b4}:Heap)=co at O⊢;have O:HS _ _ _ [a5] _:=O;replace T:=T.mono a3;refine wfv (v:=(.bool (!(anB r)))) (bN rfl) (zfm (.bool (!(anB r))) (wf_gsF (v:=(!(anB r))) rfl rfl (fun E=>?_) (fun E=>?_)))
  ·have a4:=E;try simp only[BS]at a4
   refine zfm (pT h 0) (dC rfl E (wfv (v:=(pT h 0)) (eE rfl) (dC rfl E (zp 1 (dC rfl E ?_)))));refine zl 1 (HS.hc O.log0 (i:=0) rfl) (dC rfl E (wfv (v:=(iI (r.at_+1))) (fc rfl rfl (kC (n:=r.at_+1) (by omega))) (dC rfl E (zfm (pT h 0) (dC rfl E ?_)))));refine wfv (v:=(pT h 0)) (eE rfl) (dC rfl E (zp 0 (dC rfl E (zl 0 (HS.hc O.log0 (i:=0) rfl) (dC rfl E ?_)))));refine aL (v:=(iI (r.l.length:Int))) (id:= .v) (fG (α:=Token) rfl rfl (SR.sv T O.log0)) rfl rfl (j9 rfl) (jg _) (dC rfl E (wfv (v:=(.bool (decide ((r.l.length:Int)<=r.at_+1)))) (br rfl rfl rfl rfl) (wfv (v:=(.bool (decide ((r.l.length:Int)<=r.at_+1)))) (aK rfl E rfl) (bh ?_))));exact aw ⟨rfl,⟨_,(fT fR a3),HS.sub O (List.Sublist.refl _)⟩,(by repeat' first|exact Lr|refine Lu rfl ?_),(agC (congrArg Value.bool (show(decide ((r.l.length:Int)<=r.at_+1))=((!(anB r))||(decide ((r.l.length:Int)<=r.at_+1))) by simp only[↓E,BT])) agN)⟩
  have a4:=E;try simp only[BS]at a4
  refine dD rfl E rfl (dD rfl E rfl (dD rfl E rfl (dD rfl E rfl (dD rfl E rfl (dD rfl E rfl ?_)))));refine dD rfl E rfl (dD rfl E rfl (dD rfl E rfl (dD rfl E rfl (wfv (v:=(.bool true)) (au rfl E rfl) (bh ?_)))));exact aw ⟨rfl,⟨_,(fT fR a3),HS.sub O (List.Sublist.refl _)⟩,(by repeat' first|exact Lr|refine Lu rfl ?_),(agC (congrArg Value.bool (show true=((!(anB r))||(decide ((r.l.length:Int)<=r.at_+1))) by simp only[↓E,BT])) agN)⟩
 skip;rintro g3 H3 ⟨F3,a2,al⟩;replace T:=T.mono a2;refine ak 1 rfl (zi 1 2 (fun c6=>?_) fun c6=>?_)
 ·try simp only[BS]at c6
  have c1:=c6;refine wT 1 [] 2 2 [] [(2,(.bool false))] rfl fun _=>aj ⟨.inr rfl,_,rfl,false,_,(a2),(HS.first al),rfl,(ac_n b7 cl c1).symm⟩
 try simp only[BS]at c6
 have c1:=c6;have c2:=acx b7 c1;refine aI rfl (zfm (pT h 0) (wfv (v:=(pT h 0)) (eE rfl) (zp 0 (zl 0 (HS.hc al.log0 (i:=0) rfl) (zfm (pT h 0) ?_)))));refine wfv (v:=(pT h 0)) (eE rfl) (zp 1 (zl 1 (HS.hc al.log0 (i:=0) rfl) (wfv (v:=(iI (r.at_+1))) (fc rfl rfl (kC (n:=r.at_+1) (by omega))) (zy Token (r.at_+1) (SR.sv T al.log0) ?_))));obtain⟨cL,b3,b2⟩:=Sv.at (SR.sv T al.log0) (aS (x:=default) (show(r.at_+1).toNat<r.l.length from by omega));obtain⟨rfl,b8,b9⟩:=b3;refine aL (v:=(aG [(iI (r.l.getD (r.at_+1).toNat default).kind),(tX (r.l.getD (r.at_+1).toNat default).text.b),(iI (r.l.getD (r.at_+1).toNat default).at_)])) (id:= .l (sB (sL Z r.l.length an))) (bf (i:=0) rfl rfl rfl b2 rfl rfl rfl) rfl rfl (bW rfl) (kb rfl) (cu (id:= .a) (aR al.log0 rfl) rfl rfl (fun _ _ _ _=>gi rfl rfl rfl) (kb rfl) ?_);rintro _ b0 _ ⟨ax,rfl,Y,_⟩ a9 a6;replace Y:=HS.lg Y al a6;generalize ({b0 with log:=a9}:Heap)=b5 at Y⊢;have Y:HS _ _ _ [a5,(fP ax [(iI 0),(tX []),(iI 0)])] _:=Y;refine dN (id:= .x [ax]) (aq (q:=1) Y.log0 rfl rfl rfl rfl rfl rfl rfl rfl rfl) rfl (by rintro _ _ _ ⟨_,hwr⟩;exact bP rfl rfl (Wr.did hwr)) (kb rfl) ?_;rintro _ b1 _ ⟨U,_⟩ bb a7;replace U:=HS.lg U Y a7;generalize ({b1 with log:=bb}:Heap)=b6 at U⊢;have U:HS _ _ _ [_,(fP ax [(iI (r.l.getD (r.at_+1).toNat default).kind),(tX (r.l.getD (r.at_+1).toNat default).text.b),(iI (r.l.getD (r.at_+1).toNat default).at_)])] _:=U;refine bh (ak 2 rfl (wR 1 [(1,.o (iI (r.l.getD (r.at_+1).toNat default).kind)),(5,.o (tX (r.l.getD (r.at_+1).toNat default).text.b))] 31 38 [2] [(2,(.bool (((r.l.getD (r.at_+1).toNat default).kind==3)&&((r.l.getD (r.at_+1).toNat default).text.b==([40]:List UInt8)))))] (vA (ql 3 0 (HS.hc U (i:=1) rfl) rfl rfl) (vA (fun(g1:((r.l.getD (r.at_+1).toNat default).kind==3)=true)=>(ql 9 1 (HS.hc U (i:=1) rfl) rfl rfl)) trivial)) rfl fun _=>aj ⟨.inr rfl,_,rfl,(((r.l.getD (r.at_+1).toNat default).kind==3)&&((r.l.getD (r.at_+1).toNat default).text.b==([40]:List UInt8))),_,(a2),(HS.first U),rfl,(ac_y b7 cl.1 c1)⟩))
theorem small_c{E:Option Addr}{O:Nat}{h:Nat}(r:RdrT)(hs:HS (.of H [h]) F H [(rZ h r E O)] R)(T:SR F (sL E r.l.length O) r.l)(a8:in64 r.at_)(a9:in64 r.fin)(b4:tQ ts)(a3:r.l=ts)(a7:0<=r.at_/\r.at_<=(ts.length:Int))(b2:ts.length<=1000000):kKt ex 30 [(pT h 0)] H fun v H'=> ∃(x:Int) (r':RdrT) (Y:Option Addr) (ax:Nat) (F':Fz),Fz.le F F'/\HS (.of H [h]) F' H' [(rZ h r' Y ax)] R/\v=iI x/\in64 r'.at_/\in64 r'.fin/\SR F' (sL Y r'.l.length ax) r'.l/\(in64 x)/\(r'.l=ts)/\(r.at_<=r'.at_/\r'.at_<=(ts.length:Int))/\(r'.fin=r.fin)/\(Oc (fun n=>fS ts r.at_.toNat) r.bad r.at_ x r'.at_ r'.bad):=by
 refine aB Try.func30 rfl rfl (ak 1 rfl (wT 2 [] 2 2 [] [(2,(iI 0))] rfl fun _=>ab (zm (pT h 0) (zc (pa.jZ ts ex r (HS.callOwn hs (i:=0) rfl) T (by omega) (by omega) (by omega) (by omega) (by omega) (by omega)) ?_))));rintro _ H2 ⟨t2,F2,al,an,rfl,a4,a5,rfl⟩;replace an:HS _ _ _ [_] _:=HS.backOwn hs (i:=0) rfl rfl (fun _ hb=>hb) an;replace T:=T.mono al;refine aJ (aR an rfl) rfl rfl ?_;rintro _ H4 _ ⟨b3,rfl,(a6:HS _ _ _ [_,(fP b3 [(iI 0),(tX []),(iI 0)])] _),_⟩;refine aH (aq (q:=1) a6 rfl rfl rfl rfl rfl rfl rfl rfl rfl) rfl ?_;rintro _ H5 _ ⟨(U:HS _ _ _ [_,(fP b3 [(iI (nxT r).kind),(tX (nxT r).text.b),(iI (nxT r).at_)])] _),_⟩;refine ai 2 rfl (wR 3 [(1,.o (tX (nxT r).text.b)),(2,.o (.tuple ⟨[(iI ((aV (nxT r).text.b).getD 0)),(.bool (aV (nxT r).text.b).isSome)]⟩))] 8 13 [4,5] [(4,(iI ((aV (nxT r).text.b).getD 0))),(5,(.bool (aV (nxT r).text.b).isSome))] (vA (ql 9 1 (HS.hc U (i:=1) rfl) rfl rfl) (vA (w3.jV ex (nxT r).text.b H5) trivial)) rfl fun _=>wU 1 [(1,.o (iI (nxT r).kind))] 14 24 [] [(24,(.bool ((((nxT r).kind !=2)||(!(aV (nxT r).text.b).isSome))||(decide ((1000000:Int)<(aV (nxT r).text.b).getD 0)))))] (ql 3 0 (HS.hc U (i:=1) rfl) rfl rfl) rfl fun _=>zi 1 2 (fun Z=>?_) fun Z=>?_)
 ·try simp only[BS]at Z
  have c1:=Z;refine ab (wTo 3 0 [] 25 27 [] [(27,(pT h 3))] rfl fun _=>aH (aq (q:=0) U rfl rfl rfl rfl rfl rfl rfl rfl rfl) rfl ?_);rintro _ bb _ ⟨(a1:HS _ _ _ [(fP h [(sL E r.l.length O),(iI r.at_),(iI r.fin),(.bool true)]),_] _),_⟩;refine ai 2 rfl (wT 1 [] 2 2 [] [(2,(iI 0))] rfl fun _=>aj ⟨.inr rfl,_,rfl,0,(⟨r.l,r.at_,r.fin,true⟩:RdrT),E,O,_,(al),(HS.first a1),rfl,(by(dsimp only;omega)),(by(dsimp only;omega)),T,(by decide),(by assumption),(by(dsimp only;omega)),(by rfl),(sma_n a3 a7.1 c1)⟩)
 try simp only[BS]at Z
 have c1:=Z;have c2:=sm_lt a3 c1;refine ab (wRo 7 0 [(3,.o (iI r.at_))] 28 34 [] [(32,(iI (r.at_+1))),(34,(pT h 1))] (vA (ql 3 1 (HS.hc U (i:=0) rfl) rfl rfl) (vA (vi (n:=r.at_+1)) trivial)) rfl fun _=>aH (aq (q:=0) U rfl rfl rfl rfl rfl rfl rfl rfl rfl) rfl ?_);rintro _ b0 _ ⟨(a2:HS _ _ _ [(fP h [(sL E r.l.length O),(iI (r.at_+1)),(iI r.fin),(.bool r.bad)]),_] _),_⟩;refine ai 2 rfl (wT 1 [] 2 2 [35] [(2,(iI ((aV (nxT r).text.b).getD 0)))] rfl fun _=>aj ⟨.inr rfl,_,rfl,(aV (nxT r).text.b).getD 0,(⟨r.l,r.at_+1,r.fin,r.bad⟩:RdrT),E,O,_,(al),(HS.first a2),rfl,(by(dsimp only;omega)),(by(dsimp only;omega)),T,(ej),(by assumption),(by(dsimp only;omega)),(by rfl),(sma_y a3 a7.1 c1)⟩)
theorem names_c{b5:Option Addr}{c4:Nat}{h:Nat}(r:RdrT)(hs:HS (.of H [h]) F H [(rZ h r b5 c4)] R)(em:SR F (sL b5 r.l.length c4) r.l)(f3:in64 r.at_)(f4:in64 r.fin)(hr:tQ ts)(hq:r.l=ts)(ho:0<=r.at_/\r.at_<=(ts.length:Int))(hp:ts.length<=1000000):kKt ex 60 [(pT h 0)] H fun v H'=> ∃(ax:Option Addr) (kx:Nat) (x:List Str) (r':RdrT) (b4:Option Addr) (c3:Nat) (F':Fz),Fz.le F F'/\HS (.of H [h]) F' H' [(rZ h r' b4 c3)] R/\v=sL ax x.length kx/\SR F' (sL ax x.length kx) x/\in64 r'.at_/\in64 r'.fin/\SR F' (sL b4 r'.l.length c3) r'.l/\(r'.l=ts)/\(r.at_<=r'.at_/\r'.at_<=(ts.length:Int))/\(r'.fin=r.fin)/\(Oc (fun n=>namM ts n r.at_.toNat) r.bad r.at_ x r'.at_ r'.bad):=by
 refine aB Try.func60 rfl rfl (ak 1 rfl (wT 2 [] 2 2 [] [(2,(sL none 0 0))] rfl fun _=>ab (zm (pT h 0) (zc (pa.j0 ts ex r (HS.callOwn hs (i:=0) rfl) em (by omega) (by omega) (by omega) (by omega) (by omega) (by omega)) ?_))));rintro _ H2 ⟨x2,a2,a8,b0,F2,e2,cL,rfl,fb,fd,c9,g6,go,g3,g8,b7⟩;replace cL:HS _ _ _ [_] _:=HS.backOwn hs (i:=0) rfl rfl (fun _ hb=>hb) cL;refine aJ (ba (α:=Str) (ps:=[(0,(tX x2))]) (cells:=[(tX x2)]) ([⟨x2⟩]:List Str) cL rfl rfl rfl (by kernel_rfl) ⟨[(tX x2)],[],rfl,rfl,rfl⟩ rfl) rfl rfl ?_;rintro _ H4 p3 ⟨a3,k3,rfl,e3,(e4:HS _ _ _ [_,p3] _),_⟩;refine za (sL a3 ([⟨x2⟩]:List Str).length k3) (ai 3 rfl (av (fun(mm:Nat) f H'=> ∃(l:List Str) (rr:RdrT) (E:Option Addr) (T:Nat) (Z:Fp) (U:Option Addr) (Y:Nat) (F':Fz),Fz.le F2 F'/\HS (Base.of H [h]) F' H' [(rZ h rr U Y),Z] R/\OS F' (sL E l.length T) l Z/\SR F' (sL U rr.l.length Y) rr.l/\aQ f [(0,(pT h 0)),(3,(sL E l.length T))]/\mm=ts.length-rr.at_.toNat/\(rr.l=ts)/\(r.at_<=rr.at_/\rr.at_<=(ts.length:Int))/\(rr.fin=r.fin)/\((l.length:Int)<=rr.at_+1)/\(∀x i9 b9,Oc (fun n=>namL ts n l rr.at_.toNat) rr.bad rr.at_ x i9 b9->Oc (fun n=>namM ts n r.at_.toNat) r.bad r.at_ x i9 b9)) _ ⟨([⟨x2⟩]:List Str),a2,a3,k3,p3,a8,b0,_,fR,e4,e3,c9,⟨rfl,rfl,trivial⟩,rfl,(by omega),(by omega),(by omega),(by(have:([(⟨x2⟩:Str)]:List Str).length=1:=rfl);omega),(by intro x9 i9 b9 h9;unfold namM;(try dsimp only at b7);first|exact b7|(refine Oc.seq b7 ?_;exact h9))⟩ ?_));rintro hl f5 H5 ⟨l,rr,E,T,Z,U,Y,F5,dt,d3,O,b3,d2,rfl,hf,hg,hh,hj,hw⟩ e5;refine aE _ d2 (fun _=>?_);clear d2;refine ak 2 rfl (ab (zm (pT h 0) (zc (pa.dM ts ex rr [44] (HS.callOwn d3 (i:=0) rfl) b3 (by omega) (by omega) (by omega) (by omega) (by omega) (by omega)) ?_)));rintro _ H6 ⟨o6,an,a9,b1,F6,ci,a1,rfl,fi,fk,al,rfl,e1,e0,g1,g4,g9⟩;replace a1:HS _ _ _ [_,_] _:=HS.backOwn d3 (i:=0) rfl rfl (fun _ hb=>hb) a1;replace O:=O.mono ci;refine ai 1 rfl (zi 2 5 (fun c7=>?_) fun c7=>?_)
 ·try simp only[BS]at c7
  have d5:=e1 c7;refine ab (wTo 2 0 [] 9 10 [] [(9,(sL E l.length T)),(10,(pT h 0))] rfl fun _=>zc (pa.j0 ts ex an (HS.callOwn a1 (i:=0) rfl) al (by omega) (by omega) (by omega) (by omega) (by omega) (by omega)) ?_);rintro _ H9 ⟨x9,a4,bb,b2,F9,d1,c0,rfl,fl,fu,dd,g7,g2,g5,he,b8⟩;replace c0:HS _ _ _ [_,_] _:=HS.backOwn a1 (i:=0) rfl rfl (fun _ hb=>hb) c0;replace O:=O.mono d1;refine aJ (ba (α:=Str) (ps:=[(0,(tX x9))]) (cells:=[(tX x9)]) ([⟨x9⟩]:List Str) c0 rfl rfl rfl (by kernel_rfl) ⟨[(tX x9)],[],rfl,rfl,rfl⟩ rfl) rfl rfl ?_;rintro _ f7 e7 ⟨gm,hk,rfl,d8,(co:HS _ _ _ [_,_,e7] _),_⟩;refine aJ (bS (α:=Str) (q:=1) O co rfl rfl rfl (OS.sv d8 co (i:=2) rfl) rfl rfl rfl rfl rfl rfl rfl (by(simp only[a00,a01,a03];omega))) rfl rfl ?_;rintro _ f9 d6 ⟨dn,d4,rfl,d9,(et:HS _ _ _ [_,d6,_] _),_⟩;refine za (sL dn (l++([⟨x9⟩]:List Str)).length d4) (ai 2 rfl ?_);refine e5 _ _ _ ?_ ⟨l++([⟨x9⟩]:List Str),a4,dn,d4,d6,bb,b2,_,(fT (fT (dt) ci) d1),(HS.sub et (a08 _ _)),d9,dd,⟨rfl,rfl,trivial⟩,rfl,(by omega),(by omega),(by omega),(by(try rw[a00,a0r]);omega),(by intro x9 i9 b9 h9;refine hw _ _ _ ?_;refine Oc.succ ?_ (fun _=>namL.eq_2 ..);refine Oc.yes d5 ?_;rw[bH d5 (by omega)];(try dsimp only at b8);first|exact b8|(refine Oc.seq b8 ?_;exact h9))⟩;omega
 try simp only[BS]at c7
 have c5:=e0 c7;refine wT 1 [] 2 2 [14] [(2,(sL E l.length T))] rfl fun _=>?_
 obtain⟨f6,ch,a6,ea,f2⟩:=OS.frz O a1 (i:=1) rfl;have a6:HS _ _ _ [_,[]] _:=a6;replace al:=al.mono ch;refine aj ⟨.inr rfl,_,rfl,E,T,l,an,a9,b1,_,(fT (fT (fT (e2) dt) ci) ch),(HS.first a6),rfl,ea,(by omega),(by omega),al,(by omega),(by omega),(by omega),(by(refine hw _ _ _ ?_;refine Oc.succ ?_ (fun _=>namL.eq_2 ..);refine Oc.no c5 ?_;rw[←c5.1,←c5.2.1];exact Oc.val (by omega) (fun _=>by rfl)))⟩
end Go.Proofs.Ytapgbjedgcpffaa.pb
