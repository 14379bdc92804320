/-
The parser: numbers, operators, names. No condition but that its place lies in the list.
-/
import Derived.Test.YtkpgbdkkgcdhmaaGreatZPL1
import Derived.Test.YtkpgbdkkgcdhmaaGreatZPPA
noncomputable section
namespace Go.Proofs.YtkpgbdkkgcdhmaaGreat.pb
open Go.R
set_option maxRecDepth 10000
set_option linter.unusedVariables false
set_option linter.unusedSimpArgs false
open w1 w3 l1 pt pa
theorem bE{b c:Bool}{p:Prop}{i j:Int}(q:b=false/\p/\j=i+1/\c=false)(h:0<=i):i.toNat+1=j.toNat:=by have:=q.2.2.1;omega
theorem Oc.yes{α:Type}{f g:Nat->Rs α}{p:Prop} [Decidable p]{b c A:Bool}{i j E:Int}{x:α}(q:b=false/\p/\j=i+1/\c=false)(h:Oc f c j x E A):Oc (fun n=>if p then f n else g n) b i x E A:=Oc.of q.1 ((h.out q.2.2.2).iteT q.2.1)
theorem Oc.no{α:Type}{f g:Nat->Rs α}{p:Prop} [Decidable p]{b c A:Bool}{i j E:Int}{x:α}(q:j=i/\c=b/\(b=false->¬p))(h:Oc g b i x E A):Oc (fun n=>if p then f n else g n) b i x E A:=Oc.iteF q.2.2 h
def dw:List (List UInt8×Int×Int×Bool):=[([43],4,6,false),([45],5,6,false),([42],6,7,false),([47],7,7,false),([37],8,7,false)]
def opA(s:List UInt8):Int×Int×Bool:=((dw.find? fun q=>decide (s=q.1)).map (·.2)).getD (0,0,false)
theorem arith_c(ex:FuncId)(s:List UInt8)(H:Heap):kKt ex 142 [(.string ⟨⟨s⟩⟩)] H fun v H'=> ∃(o:Int) (l:Int) (t:Bool),H'=H/\v= .tuple ⟨[.int .i64 o,.int .i64 l,.bool t]⟩/\o=(opA s).1/\l=(opA s).2.1/\t=(opA s).2.2:=by
 refine av Tryz.func142 rfl rfl (aj 1 rfl (wT 3 [] 2 4 [] [(2,(iI 0)),(3,(iI 0)),(4,(.bool false))] rfl fun _=>wT 3 [] 5 5 [] [(5,(.string ⟨⟨s⟩⟩))] rfl fun _=>wT 1 [] 6 7 [] [(6,(.bool (s==([43]:List UInt8))))] rfl fun _=>zi 1 1 (fun T=>?_) fun T=>?_))
 ·try simp only[BS]at T
  refine wT 1 [] 2 4 [] [(2,(iI 4)),(3,(iI 6)),(4,(.bool false))] rfl fun _=>ae ⟨.inr rfl,_,rfl,4,6,false,rfl,rfl,(by(simp_all[opT,opA,opL,dw,List.find?];done)),(by(simp_all[opT,opA,opL,dw,List.find?];done)),(by(simp_all[opT,opA,opL,dw,List.find?];done))⟩
 try simp only[BS]at T
 refine wT 1 [] 8 9 [] [(8,(.bool (s==([45]:List UInt8))))] rfl fun _=>zi 1 1 (fun U=>?_) fun U=>?_
 ·try simp only[BS]at U
  refine wT 1 [] 2 4 [] [(2,(iI 5)),(3,(iI 6)),(4,(.bool false))] rfl fun _=>ae ⟨.inr rfl,_,rfl,5,6,false,rfl,rfl,(by(simp_all[opT,opA,opL,dw,List.find?];done)),(by(simp_all[opT,opA,opL,dw,List.find?];done)),(by(simp_all[opT,opA,opL,dw,List.find?];done))⟩
 try simp only[BS]at U
 refine wT 1 [] 10 11 [] [(10,(.bool (s==([42]:List UInt8))))] rfl fun _=>zi 1 1 (fun A=>?_) fun A=>?_
 ·try simp only[BS]at A
  refine wT 1 [] 2 4 [] [(2,(iI 6)),(3,(iI 7)),(4,(.bool false))] rfl fun _=>ae ⟨.inr rfl,_,rfl,6,7,false,rfl,rfl,(by(simp_all[opT,opA,opL,dw,List.find?];done)),(by(simp_all[opT,opA,opL,dw,List.find?];done)),(by(simp_all[opT,opA,opL,dw,List.find?];done))⟩
 try simp only[BS]at A
 refine wT 1 [] 12 13 [] [(12,(.bool (s==([47]:List UInt8))))] rfl fun _=>zi 1 1 (fun E=>?_) fun E=>?_
 ·try simp only[BS]at E
  refine wT 1 [] 2 4 [] [(2,(iI 7)),(3,(iI 7)),(4,(.bool false))] rfl fun _=>ae ⟨.inr rfl,_,rfl,7,7,false,rfl,rfl,(by(simp_all[opT,opA,opL,dw,List.find?];done)),(by(simp_all[opT,opA,opL,dw,List.find?];done)),(by(simp_all[opT,opA,opL,dw,List.find?];done))⟩
 try simp only[BS]at E
 refine wT 1 [] 14 15 [] [(14,(.bool (s==([37]:List UInt8))))] rfl fun _=>zi 1 3 (fun O=>?_) fun O=>?_
 ·try simp only[BS]at O
  refine wT 1 [] 2 4 [] [(2,(iI 8)),(3,(iI 7)),(4,(.bool false))] rfl fun _=>ae ⟨.inr rfl,_,rfl,8,7,false,rfl,rfl,(by(simp_all[opT,opA,opL,dw,List.find?];done)),(by(simp_all[opT,opA,opL,dw,List.find?];done)),(by(simp_all[opT,opA,opL,dw,List.find?];done))⟩
 try simp only[BS]at O
 refine wT 1 [] 2 4 [] [(2,(iI 0)),(3,(iI 0)),(4,(.bool false))] rfl fun _=>ae ⟨.inr rfl,_,rfl,0,0,false,rfl,rfl,(by(simp_all[opT,opA,opL,dw,List.find?];done)),(by(simp_all[opT,opA,opL,dw,List.find?];done)),(by(simp_all[opT,opA,opL,dw,List.find?];done))⟩
theorem arith_c_q(ex:FuncId)(s:List UInt8)(H:Heap):kKt ex 142 [(.string ⟨⟨s⟩⟩)] H fun v H'=>v=(.tuple ⟨[(iI ((opA s).1)),(iI ((opA s).2.1)),(.bool ((opA s).2.2))]⟩)/\H'=H:=
 cq (arith_c ex s H) (by rintro _ _ ⟨_,_,_,rfl,rfl,rfl,rfl,rfl⟩;exact⟨rfl,rfl⟩)
theorem operator_c(ex:FuncId)(s:List UInt8)(H:Heap):kKt ex 136 [(.string ⟨⟨s⟩⟩)] H fun v H'=> ∃(o:Int) (l:Int) (t:Bool),H'=H/\v= .tuple ⟨[.int .i64 o,.int .i64 l,.bool t]⟩/\o=(opT s).1/\l=(opT s).2.1/\t=(opT s).2.2:=by
 refine av Tryz.func136 rfl rfl (aj 1 rfl (wT 3 [] 2 4 [] [(2,(iI 0)),(3,(iI 0)),(4,(.bool false))] rfl fun _=>wT 3 [] 5 5 [] [(5,(.string ⟨⟨s⟩⟩))] rfl fun _=>wT 1 [] 6 7 [] [(6,(.bool (s==([124]:List UInt8))))] rfl fun _=>zi 1 1 (fun c4=>?_) fun c4=>?_))
 ·try simp only[BS]at c4
  refine wT 1 [] 2 4 [] [(2,(iI 10)),(3,(iI 0)),(4,(.bool false))] rfl fun _=>ae ⟨.inr rfl,_,rfl,10,0,false,rfl,rfl,(by(simp_all[opT,opA,opL,dw,List.find?];done)),(by(simp_all[opT,opA,opL,dw,List.find?];done)),(by(simp_all[opT,opA,opL,dw,List.find?];done))⟩
 try simp only[BS]at c4
 refine wT 1 [] 8 9 [] [(8,(.bool (s==([94]:List UInt8))))] rfl fun _=>zi 1 1 (fun c7=>?_) fun c7=>?_
 ·try simp only[BS]at c7
  refine wT 1 [] 2 4 [] [(2,(iI 11)),(3,(iI 1)),(4,(.bool false))] rfl fun _=>ae ⟨.inr rfl,_,rfl,11,1,false,rfl,rfl,(by(simp_all[opT,opA,opL,dw,List.find?];done)),(by(simp_all[opT,opA,opL,dw,List.find?];done)),(by(simp_all[opT,opA,opL,dw,List.find?];done))⟩
 try simp only[BS]at c7
 refine wT 1 [] 10 11 [] [(10,(.bool (s==([38]:List UInt8))))] rfl fun _=>zi 1 1 (fun A=>?_) fun A=>?_
 ·try simp only[BS]at A
  refine wT 1 [] 2 4 [] [(2,(iI 9)),(3,(iI 2)),(4,(.bool false))] rfl fun _=>ae ⟨.inr rfl,_,rfl,9,2,false,rfl,rfl,(by(simp_all[opT,opA,opL,dw,List.find?];done)),(by(simp_all[opT,opA,opL,dw,List.find?];done)),(by(simp_all[opT,opA,opL,dw,List.find?];done))⟩
 try simp only[BS]at A
 refine wT 1 [] 12 13 [] [(12,(.bool (s==([61,61]:List UInt8))))] rfl fun _=>zi 1 1 (fun E=>?_) fun E=>?_
 ·try simp only[BS]at E
  refine wT 1 [] 2 4 [] [(2,(iI 15)),(3,(iI 3)),(4,(.bool false))] rfl fun _=>ae ⟨.inr rfl,_,rfl,15,3,false,rfl,rfl,(by(simp_all[opT,opA,opL,dw,List.find?];done)),(by(simp_all[opT,opA,opL,dw,List.find?];done)),(by(simp_all[opT,opA,opL,dw,List.find?];done))⟩
 try simp only[BS]at E
 refine wT 1 [] 14 15 [] [(14,(.bool (s==([33,61]:List UInt8))))] rfl fun _=>zi 1 1 (fun O=>?_) fun O=>?_
 ·try simp only[BS]at O
  refine wT 1 [] 2 4 [] [(2,(iI 16)),(3,(iI 3)),(4,(.bool false))] rfl fun _=>ae ⟨.inr rfl,_,rfl,16,3,false,rfl,rfl,(by(simp_all[opT,opA,opL,dw,List.find?];done)),(by(simp_all[opT,opA,opL,dw,List.find?];done)),(by(simp_all[opT,opA,opL,dw,List.find?];done))⟩
 try simp only[BS]at O
 refine wT 1 [] 16 17 [] [(16,(.bool (s==([60]:List UInt8))))] rfl fun _=>zi 1 1 (fun T=>?_) fun T=>?_
 ·try simp only[BS]at T
  refine wT 1 [] 2 4 [] [(2,(iI 17)),(3,(iI 4)),(4,(.bool false))] rfl fun _=>ae ⟨.inr rfl,_,rfl,17,4,false,rfl,rfl,(by(simp_all[opT,opA,opL,dw,List.find?];done)),(by(simp_all[opT,opA,opL,dw,List.find?];done)),(by(simp_all[opT,opA,opL,dw,List.find?];done))⟩
 try simp only[BS]at T
 refine wT 1 [] 18 19 [] [(18,(.bool (s==([60,61]:List UInt8))))] rfl fun _=>zi 1 1 (fun U=>?_) fun U=>?_
 ·try simp only[BS]at U
  refine wT 1 [] 2 4 [] [(2,(iI 18)),(3,(iI 4)),(4,(.bool false))] rfl fun _=>ae ⟨.inr rfl,_,rfl,18,4,false,rfl,rfl,(by(simp_all[opT,opA,opL,dw,List.find?];done)),(by(simp_all[opT,opA,opL,dw,List.find?];done)),(by(simp_all[opT,opA,opL,dw,List.find?];done))⟩
 try simp only[BS]at U
 refine wT 1 [] 20 21 [] [(20,(.bool (s==([62]:List UInt8))))] rfl fun _=>zi 1 1 (fun V=>?_) fun V=>?_
 ·try simp only[BS]at V
  refine wT 1 [] 2 4 [] [(2,(iI 17)),(3,(iI 4)),(4,(.bool true))] rfl fun _=>ae ⟨.inr rfl,_,rfl,17,4,true,rfl,rfl,(by(simp_all[opT,opA,opL,dw,List.find?];done)),(by(simp_all[opT,opA,opL,dw,List.find?];done)),(by(simp_all[opT,opA,opL,dw,List.find?];done))⟩
 try simp only[BS]at V
 refine wT 1 [] 22 23 [] [(22,(.bool (s==([62,61]:List UInt8))))] rfl fun _=>zi 1 1 (fun Y=>?_) fun Y=>?_
 ·try simp only[BS]at Y
  refine wT 1 [] 2 4 [] [(2,(iI 18)),(3,(iI 4)),(4,(.bool true))] rfl fun _=>ae ⟨.inr rfl,_,rfl,18,4,true,rfl,rfl,(by(simp_all[opT,opA,opL,dw,List.find?];done)),(by(simp_all[opT,opA,opL,dw,List.find?];done)),(by(simp_all[opT,opA,opL,dw,List.find?];done))⟩
 try simp only[BS]at Y
 refine wT 1 [] 24 25 [] [(24,(.bool (s==([60,60]:List UInt8))))] rfl fun _=>zi 1 1 (fun Z=>?_) fun Z=>?_
 ·try simp only[BS]at Z
  refine wT 1 [] 2 4 [] [(2,(iI 12)),(3,(iI 5)),(4,(.bool false))] rfl fun _=>ae ⟨.inr rfl,_,rfl,12,5,false,rfl,rfl,(by(simp_all[opT,opA,opL,dw,List.find?];done)),(by(simp_all[opT,opA,opL,dw,List.find?];done)),(by(simp_all[opT,opA,opL,dw,List.find?];done))⟩
 try simp only[BS]at Z
 refine wT 1 [] 26 27 [] [(26,(.bool (s==([62,62]:List UInt8))))] rfl fun _=>zi 1 1 (fun al=>?_) fun al=>?_
 ·try simp only[BS]at al
  refine wT 1 [] 2 4 [] [(2,(iI 14)),(3,(iI 5)),(4,(.bool false))] rfl fun _=>ae ⟨.inr rfl,_,rfl,14,5,false,rfl,rfl,(by(simp_all[opT,opA,opL,dw,List.find?];done)),(by(simp_all[opT,opA,opL,dw,List.find?];done)),(by(simp_all[opT,opA,opL,dw,List.find?];done))⟩
 try simp only[BS]at al
 refine wT 1 [] 28 29 [] [(28,(.bool (s==([62,62,62]:List UInt8))))] rfl fun _=>zi 1 3 (fun an=>?_) fun an=>?_
 ·try simp only[BS]at an
  refine wT 1 [] 2 4 [] [(2,(iI 13)),(3,(iI 5)),(4,(.bool false))] rfl fun _=>ae ⟨.inr rfl,_,rfl,13,5,false,rfl,rfl,(by(simp_all[opT,opA,opL,dw,List.find?];done)),(by(simp_all[opT,opA,opL,dw,List.find?];done)),(by(simp_all[opT,opA,opL,dw,List.find?];done))⟩
 try simp only[BS]at an
 refine wU 1 [(1,.o (.tuple ⟨[(iI ((opA s).1)),(iI ((opA s).2.1)),(.bool ((opA s).2.2))]⟩))] 30 34 [2,3,4] [(2,(iI ((opA s).1))),(3,(iI ((opA s).2.1))),(4,(.bool ((opA s).2.2)))] (arith_c_q ex s H) rfl fun _=>ae ⟨.inr rfl,_,rfl,(opA s).1,(opA s).2.1,(opA s).2.2,rfl,rfl,(by(simp_all[opT,opA,opL,dw,List.find?];done)),(by(simp_all[opT,opA,opL,dw,List.find?];done)),(by(simp_all[opT,opA,opL,dw,List.find?];done))⟩
theorem operator_c_q(ex:FuncId)(s:List UInt8)(H:Heap):kKt ex 136 [(.string ⟨⟨s⟩⟩)] H fun v H'=>v=(.tuple ⟨[(iI ((opT s).1)),(iI ((opT s).2.1)),(.bool ((opT s).2.2))]⟩)/\H'=H:=
 cq (operator_c ex s H) (by rintro _ _ ⟨_,_,_,rfl,rfl,rfl,rfl,rfl⟩;exact⟨rfl,rfl⟩)
variable (ts:List Token)
variable (ex:FuncId) {F:Fz} {H:Heap} {R:List Fp}
theorem nxT_tok{ts:List Token}{r:RdrT}(A:r.l=ts)(h:(nxT r).kind≠0):r.bad=false/\r.at_<(ts.length:Int)/\nxT r=ts.getD r.at_.toNat default:=by
 unfold nxT at h⊢;by_cases k:r.bad=true\/(r.l.length:Int)<=r.at_
 ·rw[if_pos k]at h;exact absurd rfl h
 rw[if_neg k,A];rw[A]at k;exact⟨by cases e:r.bad with|false=>rfl|true=>exact absurd (.inl e) k,by omega,rfl⟩
theorem nm_y{ts:List Token}{r:RdrT}(T:r.l=ts)(h:(nxT r).kind=2):r.bad=false/\r.at_<(ts.length:Int)/\nxT r=ts.getD r.at_.toNat default/\isM ts r.at_.toNat=true:=by obtain⟨E,O,A⟩:=nxT_tok T (by rw[h];decide);exact⟨E,O,A,by unfold isM;rw[←A];exact decide_eq_true h⟩
theorem nm_n{ts:List Token}{r:RdrT}(A:r.l=ts)(h:(nxT r).kind≠2)(hb:r.bad=false): ¬isM ts r.at_.toNat=true:=fun k=>by unfold isM at k;rw[decide_eq_true_eq]at k;refine h ?_;rw[kW,if_neg (by rw[hb];decide),A];exact k
def tx(ts:List Token)(i:Nat):List UInt8:=(ts.getD i default).text.b
theorem sma_n{ts:List Token}{r:RdrT}{x:Int}(E:r.l=ts)(A:0<=r.at_)(h:((nxT r).kind≠2\/(aL (nxT r).text.b).isSome=false)\/1000000<(aL (nxT r).text.b).getD 0):Oc (fun _=>fQ ts r.at_.toNat) r.bad r.at_ x r.at_ true:=⟨fun _=>⟨rfl,rfl⟩,fun hb=>by
 have e:nxT r=ts.getD r.at_.toNat default:=by rw[kW,if_neg (by rw[hb];decide),E]
 rw[e]at h;unfold fQ;rw[if_neg (fun k=>?_)]
 ·exact .fail (by omega)
 rw[a02,a02,decide_eq_true_eq]at k;rcases h with(h|h)|h
 ·exact h (of_decide_eq_true k.1.1)
 ·exact absurd (k.1.2.symm.trans h) (by decide)
 exact absurd k.2 (by show ¬(aL _).getD 0<=_;omega)⟩
theorem sma_y{ts:List Token}{r:RdrT}(V:r.l=ts)(T:0<=r.at_)(h:((nxT r).kind=2/\(aL (nxT r).text.b).isSome=true)/\¬1000000<(aL (nxT r).text.b).getD 0):Oc (fun _=>fQ ts r.at_.toNat) r.bad r.at_ ((aL (nxT r).text.b).getD 0) (r.at_+1) r.bad:=by obtain⟨A,U,E,O⟩:=nm_y V h.1.1;refine Oc.of A ?_;unfold fQ;rw[E]at h⊢;rw[if_pos (by rw[a02,a02,decide_eq_true_eq];exact⟨⟨O,h.1.2⟩,Int.not_lt.1 h.2⟩),A];exact .val (by omega)
theorem sm_lt{ts:List Token}{r:RdrT}(A:r.l=ts)(h:((nxT r).kind=2/\(aL (nxT r).text.b).isSome=true)/\¬1000000<(aL (nxT r).text.b).getD 0):r.at_<(ts.length:Int):=(nm_y A h.1.1).2.1
theorem eh{s:List UInt8}:in64 ((aL s).getD 0):=by
 unfold aL posS;split
 ·split
  ·decide
  ·next h=>split at h<;>simp_all;constructor<;>omega
  decide
 split
 ·next h=>split at h<;>simp_all;constructor<;>omega
 decide
def acB(ts:List Token)(r:RdrT):Bool:=anB r&&isS ts (r.at_.toNat+1) [40]
theorem ac_n{ts:List Token}{r:RdrT}(A:r.l=ts)(ha:0<=r.at_/\r.at_<=(ts.length:Int))(h:anB r=false\/(r.l.length:Int)<=r.at_+1):acB ts r=false:=by
 unfold acB;rcases h with h|h
 ·rw[h];rfl
 unfold isS;rw[A]at h;rw[bM (show ts.length<=r.at_.toNat+1 by omega)];cases anB r<;>rfl
theorem acx{ts:List Token}{r:RdrT}(A:r.l=ts)(h:anB r=true/\¬(r.l.length:Int)<=r.at_+1):r.at_+1<(ts.length:Int):=by have:=h.2;rw[A]at this;omega
theorem ac_y{ts:List Token}{r:RdrT}(E:r.l=ts)(A:0<=r.at_)(h:anB r=true/\¬(r.l.length:Int)<=r.at_+1):((r.l.getD (r.at_+1).toNat default).kind==3&&(r.l.getD (r.at_+1).toNat default).text.b==[40])=acB ts r:=by unfold acB isS;rw[h.1,E,show(r.at_+1).toNat=r.at_.toNat+1 by omega,a17,a0J];simp
theorem negative_c(s:List UInt8)(H:Heap)(A:s.length<=1000000):kKt ex 140 [(.string ⟨⟨s⟩⟩)] H fun v H'=> ∃(o:Int),H'=H/\v= .int .i64 o/\o=(aL (45::s)).getD 0:=by refine av Tryz.func140 rfl rfl (aj 1 rfl (wT 2 [] 2 2 [] [(2,(iI 0))] rfl fun _=>wR 2 [(2,.o (.tuple ⟨[(iI ((aL ([45]++s)).getD 0)),(.bool (aL ([45]++s)).isSome)]⟩))] 5 10 [3,4] [(3,(iI ((aL ([45]++s)).getD 0)))] (vA (show([45]:List UInt8).length+(s:List UInt8).length<=1099511627776 from by(have:([45]:List UInt8).length=1:=rfl;omega)) (vA (w3.jY ex ([45]++s) H) trivial)) rfl fun _=>wT 1 [] 2 2 [11] [(2,(iI ((aL ([45]++s)).getD 0)))] rfl fun _=>ae ⟨.inr rfl,_,rfl,(aL ([45]++s)).getD 0,rfl,rfl,(by rfl)⟩))
theorem negative_c_q(s:List UInt8)(H:Heap)(A:s.length<=1000000):kKt ex 140 [(.string ⟨⟨s⟩⟩)] H fun v H'=>v=(iI ((aL (45::s)).getD 0))/\H'=H:=
 cq (negative_c ex s H A) (by rintro _ _ ⟨_,rfl,rfl,rfl⟩;exact⟨rfl,rfl⟩)
theorem atCall_c{V:Option Addr}{Z:Nat}{an:Nat}(r:RdrT)(hs:HS (.of H [an]) F H [(fP an [(sL V r.l.length Z),(iI r.at_),(iI r.fin),(.bool r.bad)])] R)(O:SR F (sL V r.l.length Z) r.l)(b0:in64 r.at_)(b1:in64 r.fin)(cl: ∀i,(ts.getD i default).text.b.length<=1000000)(b4:r.l=ts)(b5:0<=r.at_/\r.at_<=(ts.length:Int))(ci:ts.length<=1000000):kKt ex 133 [(pT an 0)] H fun v H'=> ∃(o:Bool) (F':Fz),Fz.le F F'/\HS (.of H [an]) F' H' [(fP an [(sL V r.l.length Z),(iI r.at_),(iI r.fin),(.bool r.bad)])] R/\v= .bool o/\o=acB ts r:=by
 let a2:Fp:=(fP an [(sL V r.l.length Z),(iI r.at_),(iI r.fin),(.bool r.bad)])
 refine av Tryz.func133 rfl rfl (aj 1 rfl (wT 3 [] 2 2 [] [(2,(.bool false))] rfl fun _=>ff 4 19 [] [(19,(.bool ((!(anB r))||(decide ((r.l.length:Int)<=r.at_+1)))))] (fun H'=> ∃F',Fz.le F F'/\HS (Base.of H [an]) F' H' [a2] R) ?_ ?_))
 ·refine aS rfl (zfm (pT an 0) (bc (W:=[an]) (aY rfl rfl rfl) rfl rfl rfl (pa.atName_c ts ex r (HS.callOwn hs.log0 (i:=0) rfl) O (by omega) (by omega) (by omega) (by omega) (by omega) (by omega)) (kb rfl) ?_));rintro _ H4 ⟨o4,F4,ax,E,rfl,rfl⟩;refine⟨HS.didW E,fun bf a5=>?_⟩;replace E:=HS.backOwn hs.log0 (i:=0) rfl rfl (fun _ hb=>hb) E;replace E:=HS.lg E hs a5;generalize ({H4 with log:=bf}:Heap)=b2 at E⊢;have E:HS _ _ _ [a2] _:=E;replace O:=O.mono ax;refine wfv (v:=(.bool (!(anB r)))) (eb rfl) (zfm (.bool (!(anB r))) (wf_gsF (v:=(!(anB r))) rfl rfl (fun A=>?_) (fun A=>?_)))
  ·have a1:=A;try simp only[BS]at a1
   refine zfm (pT an 0) (eu rfl A (wfv (v:=(pT an 0)) (eG rfl) (eu rfl A (zp 1 (eu rfl A ?_)))));refine zl 1 (HS.hc E.log0 (i:=0) rfl) (eu rfl A (wfv (v:=(iI (r.at_+1))) (fF rfl rfl (iD (n:=r.at_+1) (by omega))) (eu rfl A (zfm (pT an 0) (eu rfl A ?_)))));refine wfv (v:=(pT an 0)) (eG rfl) (eu rfl A (zp 0 (eu rfl A (zl 0 (HS.hc E.log0 (i:=0) rfl) (eu rfl A ?_)))));refine aV (v:=(iI (r.l.length:Int))) (id:= .v) (ap_lenV (α:=Token) rfl rfl (SR.sv O E.log0)) rfl rfl (did_len rfl) (kG _) (eu rfl A (wfv (v:=(.bool (decide ((r.l.length:Int)<=r.at_+1)))) (cz rfl rfl rfl rfl) (wfv (v:=(.bool (decide ((r.l.length:Int)<=r.at_+1)))) (aO rfl A rfl) (bR ?_))));exact az ⟨rfl,⟨_,(fT fR ax),HS.sub E (List.Sublist.refl _)⟩,(by repeat' first|exact Lr|refine Lu rfl ?_),(agC (congrArg Value.bool (show(decide ((r.l.length:Int)<=r.at_+1))=((!(anB r))||(decide ((r.l.length:Int)<=r.at_+1))) by simp only[↓A,BT])) agN)⟩
  have a1:=A;try simp only[BS]at a1
  refine cH rfl A rfl (cH rfl A rfl (cH rfl A rfl (cH rfl A rfl (cH rfl A rfl (cH rfl A rfl ?_)))));refine cH rfl A rfl (cH rfl A rfl (cH rfl A rfl (cH rfl A rfl (wfv (v:=(.bool true)) (aP rfl A rfl) (bR ?_)))));exact az ⟨rfl,⟨_,(fT fR ax),HS.sub E (List.Sublist.refl _)⟩,(by repeat' first|exact Lr|refine Lu rfl ?_),(agC (congrArg Value.bool (show true=((!(anB r))||(decide ((r.l.length:Int)<=r.at_+1))) by simp only[↓A,BT])) agN)⟩
 skip;rintro g3 H3 ⟨F3,ar,Y⟩;replace O:=O.mono ar;refine aj 1 rfl (zi 1 2 (fun c6=>?_) fun c6=>?_)
 ·try simp only[BS]at c6
  have c1:=c6;refine wT 1 [] 2 2 [] [(2,(.bool false))] rfl fun _=>ae ⟨.inr rfl,_,rfl,false,_,(ar),(HS.first Y),rfl,(ac_n b4 b5 c1).symm⟩
 try simp only[BS]at c6
 have c1:=c6;have c2:=acx b4 c1;refine aS rfl (zfm (pT an 0) (wfv (v:=(pT an 0)) (eG rfl) (zp 0 (zl 0 (HS.hc Y.log0 (i:=0) rfl) (zfm (pT an 0) ?_)))));refine wfv (v:=(pT an 0)) (eG rfl) (zp 1 (zl 1 (HS.hc Y.log0 (i:=0) rfl) (wfv (v:=(iI (r.at_+1))) (fF rfl rfl (iD (n:=r.at_+1) (by omega))) (zy Token (r.at_+1) (SR.sv O Y.log0) ?_))));obtain⟨b3,bb,ba⟩:=Sv.at (SR.sv O Y.log0) (bo (x:=default) (show(r.at_+1).toNat<r.l.length from by omega));obtain⟨rfl,bt,bw⟩:=bb;refine aV (v:=(aG [(iI (r.l.getD (r.at_+1).toNat default).kind),(.string ⟨⟨(r.l.getD (r.at_+1).toNat default).text.b⟩⟩),(iI (r.l.getD (r.at_+1).toNat default).at_)])) (id:= .l (sB (sL V r.l.length Z))) (cV (i:=0) rfl rfl rfl ba rfl rfl rfl) rfl rfl (ej rfl) (kb rfl) (eR (id:= .a) (aH Y.log0 rfl) rfl rfl (fun _ _ _ _=>jp rfl rfl rfl) (kb rfl) ?_);rintro _ a8 _ ⟨al,rfl,U,_⟩ a6 a3;replace U:=HS.lg U Y a3;generalize ({a8 with log:=a6}:Heap)=bk at U⊢;have U:HS _ _ _ [a2,(fP al [(iI 0),(.string ⟨⟨[]⟩⟩),(iI 0)])] _:=U;refine iC (id:= .x [al]) (am (q:=1) U.log0 rfl rfl rfl rfl rfl rfl rfl rfl rfl) rfl (by rintro _ _ _ ⟨_,hwr⟩;exact e8 rfl rfl (Wr.did hwr)) (kb rfl) ?_;rintro _ a9 _ ⟨T,_⟩ a7 a4;replace T:=HS.lg T U a4;generalize ({a9 with log:=a7}:Heap)=bl at T⊢;have T:HS _ _ _ [_,(fP al [(iI (r.l.getD (r.at_+1).toNat default).kind),(.string ⟨⟨(r.l.getD (r.at_+1).toNat default).text.b⟩⟩),(iI (r.l.getD (r.at_+1).toNat default).at_)])] _:=T;refine bR (aj 2 rfl (wR 1 [(1,.o (iI (r.l.getD (r.at_+1).toNat default).kind)),(5,.o (.string ⟨⟨(r.l.getD (r.at_+1).toNat default).text.b⟩⟩))] 31 38 [2] [(2,(.bool (((r.l.getD (r.at_+1).toNat default).kind==3)&&((r.l.getD (r.at_+1).toNat default).text.b==([40]:List UInt8)))))] (vA (ql 3 0 (HS.hc T (i:=1) rfl) rfl rfl) (vA (fun(g1:((r.l.getD (r.at_+1).toNat default).kind==3)=true)=>(ql 9 1 (HS.hc T (i:=1) rfl) rfl rfl)) trivial)) rfl fun _=>ae ⟨.inr rfl,_,rfl,(((r.l.getD (r.at_+1).toNat default).kind==3)&&((r.l.getD (r.at_+1).toNat default).text.b==([40]:List UInt8))),_,(ar),(HS.first T),rfl,(ac_y b4 b5.1 c1)⟩))
theorem small_c{A:Option Addr}{E:Nat}{ax:Nat}(r:RdrT)(hs:HS (.of H [ax]) F H [(fP ax [(sL A r.l.length E),(iI r.at_),(iI r.fin),(.bool r.bad)])] R)(O:SR F (sL A r.l.length E) r.l)(a5:in64 r.at_)(a6:in64 r.fin)(bk: ∀i,(ts.getD i default).text.b.length<=1000000)(a9:r.l=ts)(ba:0<=r.at_/\r.at_<=(ts.length:Int))(bf:ts.length<=1000000):kKt ex 40 [(pT ax 0)] H fun v H'=> ∃(x:Int) (r':RdrT) (U:Option Addr) (al:Nat) (F':Fz),Fz.le F F'/\HS (.of H [ax]) F' H' [(fP ax [(sL U r'.l.length al),(iI r'.at_),(iI r'.fin),(.bool r'.bad)])] R/\v= .int .i64 x/\in64 r'.at_/\in64 r'.fin/\SR F' (sL U r'.l.length al) r'.l/\(in64 x)/\(r'.l=ts)/\(r.at_<=r'.at_/\r'.at_<=(ts.length:Int))/\(r'.fin=r.fin)/\(Oc (fun n=>fQ ts r.at_.toNat) r.bad r.at_ x r'.at_ r'.bad):=by
 refine av Tryz.func40 rfl rfl (aj 1 rfl (wT 2 [] 2 2 [] [(2,(iI 0))] rfl fun _=>ab (zm (pT ax 0) (zc (pa.j6 ts ex r (HS.callOwn hs (i:=0) rfl) O (by omega) (by omega) (by omega) (by omega) (by omega) (by omega)) ?_))));rintro _ H2 ⟨t2,F2,Y,Z,rfl,a1,a2,rfl⟩;replace Z:HS _ _ _ [(fP ax [(sL A r.l.length E),(iI r.at_),(iI r.fin),(.bool r.bad)])] _:=HS.backOwn hs (i:=0) rfl rfl (fun _ hb=>hb) Z;replace O:=O.mono Y;refine aw (aH Z rfl) rfl rfl ?_;rintro _ H4 _ ⟨b3,rfl,(a3:HS _ _ _ [_,(fP b3 [(iI 0),(.string ⟨⟨[]⟩⟩),(iI 0)])] _),_⟩;refine ay (am (q:=1) a3 rfl rfl rfl rfl rfl rfl rfl rfl rfl) rfl ?_;rintro _ H5 _ ⟨(T:HS _ _ _ [_,(fP b3 [(iI (nxT r).kind),(.string ⟨⟨(nxT r).text.b⟩⟩),(iI (nxT r).at_)])] _),_⟩;refine ad 2 rfl (wR 3 [(1,.o (.string ⟨⟨(nxT r).text.b⟩⟩)),(2,.o (.tuple ⟨[(iI ((aL (nxT r).text.b).getD 0)),(.bool (aL (nxT r).text.b).isSome)]⟩))] 8 13 [4,5] [(4,(iI ((aL (nxT r).text.b).getD 0))),(5,(.bool (aL (nxT r).text.b).isSome))] (vA (ql 9 1 (HS.hc T (i:=1) rfl) rfl rfl) (vA (w3.jY ex (nxT r).text.b H5) trivial)) rfl fun _=>wU 1 [(1,.o (iI (nxT r).kind))] 14 24 [] [(24,(.bool ((((nxT r).kind !=2)||(!(aL (nxT r).text.b).isSome))||(decide ((1000000:Int)<(aL (nxT r).text.b).getD 0)))))] (ql 3 0 (HS.hc T (i:=1) rfl) rfl rfl) rfl fun _=>zi 1 2 (fun V=>?_) fun V=>?_)
 ·try simp only[BS]at V
  have c1:=V;refine ab (wTo 3 0 [] 25 27 [] [(27,(pT ax 3))] rfl fun _=>ay (am (q:=0) T rfl rfl rfl rfl rfl rfl rfl rfl rfl) rfl ?_);rintro _ a7 _ ⟨(an:HS _ _ _ [(fP ax [(sL A r.l.length E),(iI r.at_),(iI r.fin),(.bool true)]),_] _),_⟩;refine ad 2 rfl (wT 1 [] 2 2 [] [(2,(iI 0))] rfl fun _=>ae ⟨.inr rfl,_,rfl,0,(⟨r.l,r.at_,r.fin,true⟩:RdrT),A,E,_,(Y),(HS.first an),rfl,(by(dsimp only;omega)),(by(dsimp only;omega)),O,(by decide),(by assumption),(by(dsimp only;omega)),(by rfl),(sma_n a9 ba.1 c1)⟩)
 try simp only[BS]at V
 have c1:=V;have c2:=sm_lt a9 c1;refine ab (wRo 7 0 [(3,.o (iI r.at_))] 28 34 [] [(32,(iI (r.at_+1))),(34,(pT ax 1))] (vA (ql 3 1 (HS.hc T (i:=0) rfl) rfl rfl) (vA (vi (n:=r.at_+1)) trivial)) rfl fun _=>ay (am (q:=0) T rfl rfl rfl rfl rfl rfl rfl rfl rfl) rfl ?_);rintro _ a8 _ ⟨(ar:HS _ _ _ [(fP ax [(sL A r.l.length E),(iI (r.at_+1)),(iI r.fin),(.bool r.bad)]),_] _),_⟩;refine ad 2 rfl (wT 1 [] 2 2 [35] [(2,(iI ((aL (nxT r).text.b).getD 0)))] rfl fun _=>ae ⟨.inr rfl,_,rfl,(aL (nxT r).text.b).getD 0,(⟨r.l,r.at_+1,r.fin,r.bad⟩:RdrT),A,E,_,(Y),(HS.first ar),rfl,(by(dsimp only;omega)),(by(dsimp only;omega)),O,(eh),(by assumption),(by(dsimp only;omega)),(by rfl),(sma_y a9 ba.1 c1)⟩)
theorem names_c{bk:Option Addr}{b5:Nat}{a1:Nat}(r:RdrT)(hs:HS (.of H [a1]) F H [(fP a1 [(sL bk r.l.length b5),(iI r.at_),(iI r.fin),(.bool r.bad)])] R)(d1:SR F (sL bk r.l.length b5) r.l)(fb:in64 r.at_)(fd:in64 r.fin)(hn: ∀i,(ts.getD i default).text.b.length<=1000000)(hm:r.l=ts)(hk:0<=r.at_/\r.at_<=(ts.length:Int))(hl:ts.length<=1000000):kKt ex 83 [(pT a1 0)] H fun v H'=> ∃(ax:Option Addr) (kx:Nat) (x:List Str) (r':RdrT) (bf:Option Addr) (b4:Nat) (F':Fz),Fz.le F F'/\HS (.of H [a1]) F' H' [(fP a1 [(sL bf r'.l.length b4),(iI r'.at_),(iI r'.fin),(.bool r'.bad)])] R/\v=sL ax x.length kx/\SR F' (sL ax x.length kx) x/\in64 r'.at_/\in64 r'.fin/\SR F' (sL bf r'.l.length b4) r'.l/\(r'.l=ts)/\(r.at_<=r'.at_/\r'.at_<=(ts.length:Int))/\(r'.fin=r.fin)/\(Oc (fun n=>namM ts n r.at_.toNat) r.bad r.at_ x r'.at_ r'.bad):=by
 refine av Tryz.func83 rfl rfl (aj 1 rfl (wT 2 [] 2 2 [] [(2,(sL none 0 0))] rfl fun _=>ab (zm (pT a1 0) (zc (pa.j7 ts ex r (HS.callOwn hs (i:=0) rfl) d1 (by omega) (by omega) (by omega) (by omega) (by omega) (by omega)) ?_))));rintro _ H2 ⟨x2,an,a5,a8,F2,d6,b2,rfl,ez,e0,ch,gm,f2,f6,g0,bn⟩;replace b2:HS _ _ _ [(fP a1 [(sL a5 an.l.length a8),(iI an.at_),(iI an.fin),(.bool an.bad)])] _:=HS.backOwn hs (i:=0) rfl rfl (fun _ hb=>hb) b2;refine aw (aM (α:=Str) (ps:=[(0,(.string ⟨⟨x2⟩⟩))]) (cells:=[(.string ⟨⟨x2⟩⟩)]) ([⟨x2⟩]:List Str) b2 rfl rfl rfl (by kernel_rfl) ⟨[(.string ⟨⟨x2⟩⟩)],[],rfl,rfl,rfl⟩ rfl) rfl rfl ?_;rintro _ H4 p3 ⟨a3,k3,rfl,d7,(d8:HS _ _ _ [_,p3] _),_⟩;refine za (sL a3 ([⟨x2⟩]:List Str).length k3) (ad 3 rfl (aq (fun(mm:Nat) f H'=> ∃(l:List Str) (rr:RdrT) (A:Option Addr) (O:Nat) (V:Fp) (T:Option Addr) (U:Nat) (F':Fz),Fz.le F2 F'/\HS (Base.of H [a1]) F' H' [(fP a1 [(sL T rr.l.length U),(iI rr.at_),(iI rr.fin),(.bool rr.bad)]),V] R/\OS F' (sL A l.length O) l V/\SR F' (sL T rr.l.length U) rr.l/\aN f [(0,(pT a1 0)),(3,(sL A l.length O))]/\mm=ts.length-rr.at_.toNat/\(rr.l=ts)/\(r.at_<=rr.at_/\rr.at_<=(ts.length:Int))/\(rr.fin=r.fin)/\((l.length:Int)<=rr.at_+1)/\(∀x i9 b9,Oc (fun n=>namL ts n l rr.at_.toNat) rr.bad rr.at_ x i9 b9->Oc (fun n=>namM ts n r.at_.toNat) r.bad r.at_ x i9 b9)) _ ⟨([⟨x2⟩]:List Str),an,a3,k3,p3,a5,a8,_,fR,d8,d7,ch,⟨rfl,rfl,trivial⟩,rfl,(by omega),(by omega),(by omega),(by(have:([(⟨x2⟩:Str)]:List Str).length=1:=rfl);omega),(by intro x9 i9 b9 h9;unfold namM;(try dsimp only at bn);first|exact bn|(refine Oc.seq bn ?_;exact h9))⟩ ?_));rintro g8 f5 H5 ⟨l,rr,A,O,V,T,U,F5,c0,c5,E,bb,c4,rfl,g3,g4,g5,g6,hw⟩ d9;refine aC _ c4 (fun _=>?_);clear c4;refine aj 2 rfl (ab (zm (pT a1 0) (zc (pa.dL ts ex rr [44] (HS.callOwn c5 (i:=0) rfl) bb (by omega) (by omega) (by omega) (by omega) (by omega) (by omega)) ?_)));rintro _ H6 ⟨o6,Z,a6,a9,F6,b0,al,rfl,e1,e2,Y,rfl,d5,d4,f3,f7,g1⟩;replace al:HS _ _ _ [(fP a1 [(sL a6 Z.l.length a9),(iI Z.at_),(iI Z.fin),(.bool Z.bad)]),V] _:=HS.backOwn c5 (i:=0) rfl rfl (fun _ hb=>hb) al;replace E:=E.mono b0;refine ad 1 rfl (zi 2 5 (fun c7=>?_) fun c7=>?_)
 ·try simp only[BS]at c7
  have c8:=d5 c7;refine ab (wTo 2 0 [] 9 10 [] [(9,(sL A l.length O)),(10,(pT a1 0))] rfl fun _=>zc (pa.j7 ts ex Z (HS.callOwn al (i:=0) rfl) Y (by omega) (by omega) (by omega) (by omega) (by omega) (by omega)) ?_);rintro _ H9 ⟨x9,ar,a7,ba,F9,c3,b3,rfl,e3,e4,ci,go,f4,f9,g2,bt⟩;replace b3:HS _ _ _ [(fP a1 [(sL a7 ar.l.length ba),(iI ar.at_),(iI ar.fin),(.bool ar.bad)]),_] _:=HS.backOwn al (i:=0) rfl rfl (fun _ hb=>hb) b3;replace E:=E.mono c3;refine aw (aM (α:=Str) (ps:=[(0,(.string ⟨⟨x9⟩⟩))]) (cells:=[(.string ⟨⟨x9⟩⟩)]) ([⟨x9⟩]:List Str) b3 rfl rfl rfl (by kernel_rfl) ⟨[(.string ⟨⟨x9⟩⟩)],[],rfl,rfl,rfl⟩ rfl) rfl rfl ?_;rintro _ fq em ⟨f1,g7,rfl,dn,(b1:HS _ _ _ [_,_,em] _),_⟩;refine aw (dX (α:=Str) (q:=1) E b1 rfl rfl rfl (OS.sv dn b1 (i:=2) rfl) rfl rfl rfl rfl rfl rfl rfl (by(simp only[a01,a03,a05];omega))) rfl rfl ?_;rintro _ fu c9 ⟨co,c6,rfl,ds,(d2:HS _ _ _ [_,c9,_] _),_⟩;refine za (sL co (l++([⟨x9⟩]:List Str)).length c6) (ad 2 rfl ?_);refine d9 _ _ _ ?_ ⟨l++([⟨x9⟩]:List Str),ar,co,c6,c9,a7,ba,_,(fT (fT (c0) b0) c3),(HS.sub d2 (a0b _ _)),ds,ci,⟨rfl,rfl,trivial⟩,rfl,(by omega),(by omega),(by omega),(by(try rw[a01,a0u]);omega),(by intro x9 i9 b9 h9;refine hw _ _ _ ?_;refine Oc.succ ?_ (fun _=>namL.eq_2 ..);refine Oc.yes c8 ?_;rw[bE c8 (by omega)];(try dsimp only at bt);first|exact bt|(refine Oc.seq bt ?_;exact h9))⟩;omega
 try simp only[BS]at c7
 have b6:=d4 c7;refine wT 1 [] 2 2 [14] [(2,(sL A l.length O))] rfl fun _=>?_
 obtain⟨fi,bw,a2,dt,e6⟩:=OS.frz E al (i:=1) rfl;have a2:HS _ _ _ [_,[]] _:=a2;replace Y:=Y.mono bw;refine ae ⟨.inr rfl,_,rfl,A,O,l,Z,a6,a9,_,(fT (fT (fT (d6) c0) b0) bw),(HS.first a2),rfl,dt,(by omega),(by omega),Y,(by omega),(by omega),(by omega),(by(refine hw _ _ _ ?_;refine Oc.succ ?_ (fun _=>namL.eq_2 ..);refine Oc.no b6 ?_;rw[←b6.1,←b6.2.1];exact Oc.val (by omega) (fun _=>by rfl)))⟩
end Go.Proofs.YtkpgbdkkgcdhmaaGreat.pb
