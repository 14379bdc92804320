/-
The parser: numbers, operators, names. No condition but that its place lies in the list.
-/
import Derived.Test.YtapgbjedgcpffaaZXL1
import Derived.Test.YtapgbjedgcpffaaZXPA
noncomputable section
namespace Go.Proofs.Ytapgbjedgcpffaa.pb
open Go.R
set_option maxRecDepth 10000
set_option linter.unusedVariables false
set_option linter.unusedSimpArgs false
open w1 w3 l1 pt pa
theorem aR{b c:Bool}{p:Prop}{i j:Int}(q:b=false/\p/\j=i+1/\c=false)(h:0<=i):i.toNat+1=j.toNat:=by have:=q.2.2.1;omega
theorem Oc.yes{α:Type}{f g:Nat->Rs α}{p:Prop} [Decidable p]{b c z:Bool}{i j A:Int}{x:α}(q:b=false/\p/\j=i+1/\c=false)(h:Oc f c j x A z):Oc (fun n=>if p then f n else g n) b i x A z:=Oc.of q.1 ((h.out q.2.2.2).iteT q.2.1)
theorem Oc.no{α:Type}{f g:Nat->Rs α}{p:Prop} [Decidable p]{b c z:Bool}{i j A:Int}{x:α}(q:j=i/\c=b/\(b=false->¬p))(h:Oc g b i x A z):Oc (fun n=>if p then f n else g n) b i x A z:=Oc.iteF q.2.2 h
def df:List (List UInt8×Int×Int×Bool):=[([43],4,6,false),([45],5,6,false),([42],6,7,false),([47],7,7,false),([37],8,7,false)]
def opA(s:List UInt8):Int×Int×Bool:=((df.find? fun q=>decide (s=q.1)).map (·.2)).getD (0,0,false)
theorem arith_c(ex:FuncId)(s:List UInt8)(H:Heap):kKt ex 108 [(.string ⟨⟨s⟩⟩)] H fun v H'=> ∃(o:Int) (l:Int) (t:Bool),H'=H/\v= .tuple ⟨[.int .i64 o,.int .i64 l,.bool t]⟩/\o=(opA s).1/\l=(opA s).2.1/\t=(opA s).2.2:=by
 refine aD Try.func108 rfl rfl (am 1 rfl (wT 3 [] 2 4 [] [(2,(iI 0)),(3,(iI 0)),(4,(.bool false))] rfl fun _=>wT 3 [] 5 5 [] [(5,(.string ⟨⟨s⟩⟩))] rfl fun _=>wT 1 [] 6 7 [] [(6,(.bool (s==([43]:List UInt8))))] rfl fun _=>zi 1 1 (fun O=>?_) fun O=>?_))
 ·try simp only[BS]at O
  refine wT 1 [] 2 4 [] [(2,(iI 4)),(3,(iI 6)),(4,(.bool false))] rfl fun _=>ah ⟨.inr rfl,_,rfl,4,6,false,rfl,rfl,(by(simp_all[opT,opA,opL,df,List.find?];done)),(by(simp_all[opT,opA,opL,df,List.find?];done)),(by(simp_all[opT,opA,opL,df,List.find?];done))⟩
 try simp only[BS]at O
 refine wT 1 [] 8 9 [] [(8,(.bool (s==([45]:List UInt8))))] rfl fun _=>zi 1 1 (fun T=>?_) fun T=>?_
 ·try simp only[BS]at T
  refine wT 1 [] 2 4 [] [(2,(iI 5)),(3,(iI 6)),(4,(.bool false))] rfl fun _=>ah ⟨.inr rfl,_,rfl,5,6,false,rfl,rfl,(by(simp_all[opT,opA,opL,df,List.find?];done)),(by(simp_all[opT,opA,opL,df,List.find?];done)),(by(simp_all[opT,opA,opL,df,List.find?];done))⟩
 try simp only[BS]at T
 refine wT 1 [] 10 11 [] [(10,(.bool (s==([42]:List UInt8))))] rfl fun _=>zi 1 1 (fun z=>?_) fun z=>?_
 ·try simp only[BS]at z
  refine wT 1 [] 2 4 [] [(2,(iI 6)),(3,(iI 7)),(4,(.bool false))] rfl fun _=>ah ⟨.inr rfl,_,rfl,6,7,false,rfl,rfl,(by(simp_all[opT,opA,opL,df,List.find?];done)),(by(simp_all[opT,opA,opL,df,List.find?];done)),(by(simp_all[opT,opA,opL,df,List.find?];done))⟩
 try simp only[BS]at z
 refine wT 1 [] 12 13 [] [(12,(.bool (s==([47]:List UInt8))))] rfl fun _=>zi 1 1 (fun A=>?_) fun A=>?_
 ·try simp only[BS]at A
  refine wT 1 [] 2 4 [] [(2,(iI 7)),(3,(iI 7)),(4,(.bool false))] rfl fun _=>ah ⟨.inr rfl,_,rfl,7,7,false,rfl,rfl,(by(simp_all[opT,opA,opL,df,List.find?];done)),(by(simp_all[opT,opA,opL,df,List.find?];done)),(by(simp_all[opT,opA,opL,df,List.find?];done))⟩
 try simp only[BS]at A
 refine wT 1 [] 14 15 [] [(14,(.bool (s==([37]:List UInt8))))] rfl fun _=>zi 1 3 (fun E=>?_) fun E=>?_
 ·try simp only[BS]at E
  refine wT 1 [] 2 4 [] [(2,(iI 8)),(3,(iI 7)),(4,(.bool false))] rfl fun _=>ah ⟨.inr rfl,_,rfl,8,7,false,rfl,rfl,(by(simp_all[opT,opA,opL,df,List.find?];done)),(by(simp_all[opT,opA,opL,df,List.find?];done)),(by(simp_all[opT,opA,opL,df,List.find?];done))⟩
 try simp only[BS]at E
 refine wT 1 [] 2 4 [] [(2,(iI 0)),(3,(iI 0)),(4,(.bool false))] rfl fun _=>ah ⟨.inr rfl,_,rfl,0,0,false,rfl,rfl,(by(simp_all[opT,opA,opL,df,List.find?];done)),(by(simp_all[opT,opA,opL,df,List.find?];done)),(by(simp_all[opT,opA,opL,df,List.find?];done))⟩
theorem arith_c_q(ex:FuncId)(s:List UInt8)(H:Heap):kKt ex 108 [(.string ⟨⟨s⟩⟩)] H fun v H'=>v=(.tuple ⟨[(iI ((opA s).1)),(iI ((opA s).2.1)),(.bool ((opA s).2.2))]⟩)/\H'=H:=
 cq (arith_c ex s H) (by rintro _ _ ⟨_,_,_,rfl,rfl,rfl,rfl,rfl⟩;exact⟨rfl,rfl⟩)
theorem operator_c(ex:FuncId)(s:List UInt8)(H:Heap):kKt ex 100 [(.string ⟨⟨s⟩⟩)] H fun v H'=> ∃(o:Int) (l:Int) (t:Bool),H'=H/\v= .tuple ⟨[.int .i64 o,.int .i64 l,.bool t]⟩/\o=(opT s).1/\l=(opT s).2.1/\t=(opT s).2.2:=by
 refine aD Try.func100 rfl rfl (am 1 rfl (wT 3 [] 2 4 [] [(2,(iI 0)),(3,(iI 0)),(4,(.bool false))] rfl fun _=>wT 3 [] 5 5 [] [(5,(.string ⟨⟨s⟩⟩))] rfl fun _=>wT 1 [] 6 7 [] [(6,(.bool (s==([124]:List UInt8))))] rfl fun _=>zi 1 1 (fun c4=>?_) fun c4=>?_))
 ·try simp only[BS]at c4
  refine wT 1 [] 2 4 [] [(2,(iI 10)),(3,(iI 0)),(4,(.bool false))] rfl fun _=>ah ⟨.inr rfl,_,rfl,10,0,false,rfl,rfl,(by(simp_all[opT,opA,opL,df,List.find?];done)),(by(simp_all[opT,opA,opL,df,List.find?];done)),(by(simp_all[opT,opA,opL,df,List.find?];done))⟩
 try simp only[BS]at c4
 refine wT 1 [] 8 9 [] [(8,(.bool (s==([94]:List UInt8))))] rfl fun _=>zi 1 1 (fun c7=>?_) fun c7=>?_
 ·try simp only[BS]at c7
  refine wT 1 [] 2 4 [] [(2,(iI 11)),(3,(iI 1)),(4,(.bool false))] rfl fun _=>ah ⟨.inr rfl,_,rfl,11,1,false,rfl,rfl,(by(simp_all[opT,opA,opL,df,List.find?];done)),(by(simp_all[opT,opA,opL,df,List.find?];done)),(by(simp_all[opT,opA,opL,df,List.find?];done))⟩
 try simp only[BS]at c7
 refine wT 1 [] 10 11 [] [(10,(.bool (s==([38]:List UInt8))))] rfl fun _=>zi 1 1 (fun z=>?_) fun z=>?_
 ·try simp only[BS]at z
  refine wT 1 [] 2 4 [] [(2,(iI 9)),(3,(iI 2)),(4,(.bool false))] rfl fun _=>ah ⟨.inr rfl,_,rfl,9,2,false,rfl,rfl,(by(simp_all[opT,opA,opL,df,List.find?];done)),(by(simp_all[opT,opA,opL,df,List.find?];done)),(by(simp_all[opT,opA,opL,df,List.find?];done))⟩
 try simp only[BS]at z
 refine wT 1 [] 12 13 [] [(12,(.bool (s==([61,61]:List UInt8))))] rfl fun _=>zi 1 1 (fun A=>?_) fun A=>?_
 ·try simp only[BS]at A
  refine wT 1 [] 2 4 [] [(2,(iI 15)),(3,(iI 3)),(4,(.bool false))] rfl fun _=>ah ⟨.inr rfl,_,rfl,15,3,false,rfl,rfl,(by(simp_all[opT,opA,opL,df,List.find?];done)),(by(simp_all[opT,opA,opL,df,List.find?];done)),(by(simp_all[opT,opA,opL,df,List.find?];done))⟩
 try simp only[BS]at A
 refine wT 1 [] 14 15 [] [(14,(.bool (s==([33,61]:List UInt8))))] rfl fun _=>zi 1 1 (fun E=>?_) fun E=>?_
 ·try simp only[BS]at E
  refine wT 1 [] 2 4 [] [(2,(iI 16)),(3,(iI 3)),(4,(.bool false))] rfl fun _=>ah ⟨.inr rfl,_,rfl,16,3,false,rfl,rfl,(by(simp_all[opT,opA,opL,df,List.find?];done)),(by(simp_all[opT,opA,opL,df,List.find?];done)),(by(simp_all[opT,opA,opL,df,List.find?];done))⟩
 try simp only[BS]at E
 refine wT 1 [] 16 17 [] [(16,(.bool (s==([60]:List UInt8))))] rfl fun _=>zi 1 1 (fun O=>?_) fun O=>?_
 ·try simp only[BS]at O
  refine wT 1 [] 2 4 [] [(2,(iI 17)),(3,(iI 4)),(4,(.bool false))] rfl fun _=>ah ⟨.inr rfl,_,rfl,17,4,false,rfl,rfl,(by(simp_all[opT,opA,opL,df,List.find?];done)),(by(simp_all[opT,opA,opL,df,List.find?];done)),(by(simp_all[opT,opA,opL,df,List.find?];done))⟩
 try simp only[BS]at O
 refine wT 1 [] 18 19 [] [(18,(.bool (s==([60,61]:List UInt8))))] rfl fun _=>zi 1 1 (fun T=>?_) fun T=>?_
 ·try simp only[BS]at T
  refine wT 1 [] 2 4 [] [(2,(iI 18)),(3,(iI 4)),(4,(.bool false))] rfl fun _=>ah ⟨.inr rfl,_,rfl,18,4,false,rfl,rfl,(by(simp_all[opT,opA,opL,df,List.find?];done)),(by(simp_all[opT,opA,opL,df,List.find?];done)),(by(simp_all[opT,opA,opL,df,List.find?];done))⟩
 try simp only[BS]at T
 refine wT 1 [] 20 21 [] [(20,(.bool (s==([62]:List UInt8))))] rfl fun _=>zi 1 1 (fun U=>?_) fun U=>?_
 ·try simp only[BS]at U
  refine wT 1 [] 2 4 [] [(2,(iI 17)),(3,(iI 4)),(4,(.bool true))] rfl fun _=>ah ⟨.inr rfl,_,rfl,17,4,true,rfl,rfl,(by(simp_all[opT,opA,opL,df,List.find?];done)),(by(simp_all[opT,opA,opL,df,List.find?];done)),(by(simp_all[opT,opA,opL,df,List.find?];done))⟩
 try simp only[BS]at U
 refine wT 1 [] 22 23 [] [(22,(.bool (s==([62,61]:List UInt8))))] rfl fun _=>zi 1 1 (fun V=>?_) fun V=>?_
 ·try simp only[BS]at V
  refine wT 1 [] 2 4 [] [(2,(iI 18)),(3,(iI 4)),(4,(.bool true))] rfl fun _=>ah ⟨.inr rfl,_,rfl,18,4,true,rfl,rfl,(by(simp_all[opT,opA,opL,df,List.find?];done)),(by(simp_all[opT,opA,opL,df,List.find?];done)),(by(simp_all[opT,opA,opL,df,List.find?];done))⟩
 try simp only[BS]at V
 refine wT 1 [] 24 25 [] [(24,(.bool (s==([60,60]:List UInt8))))] rfl fun _=>zi 1 1 (fun Y=>?_) fun Y=>?_
 ·try simp only[BS]at Y
  refine wT 1 [] 2 4 [] [(2,(iI 12)),(3,(iI 5)),(4,(.bool false))] rfl fun _=>ah ⟨.inr rfl,_,rfl,12,5,false,rfl,rfl,(by(simp_all[opT,opA,opL,df,List.find?];done)),(by(simp_all[opT,opA,opL,df,List.find?];done)),(by(simp_all[opT,opA,opL,df,List.find?];done))⟩
 try simp only[BS]at Y
 refine wT 1 [] 26 27 [] [(26,(.bool (s==([62,62]:List UInt8))))] rfl fun _=>zi 1 1 (fun Z=>?_) fun Z=>?_
 ·try simp only[BS]at Z
  refine wT 1 [] 2 4 [] [(2,(iI 14)),(3,(iI 5)),(4,(.bool false))] rfl fun _=>ah ⟨.inr rfl,_,rfl,14,5,false,rfl,rfl,(by(simp_all[opT,opA,opL,df,List.find?];done)),(by(simp_all[opT,opA,opL,df,List.find?];done)),(by(simp_all[opT,opA,opL,df,List.find?];done))⟩
 try simp only[BS]at Z
 refine wT 1 [] 28 29 [] [(28,(.bool (s==([62,62,62]:List UInt8))))] rfl fun _=>zi 1 3 (fun h=>?_) fun h=>?_
 ·try simp only[BS]at h
  refine wT 1 [] 2 4 [] [(2,(iI 13)),(3,(iI 5)),(4,(.bool false))] rfl fun _=>ah ⟨.inr rfl,_,rfl,13,5,false,rfl,rfl,(by(simp_all[opT,opA,opL,df,List.find?];done)),(by(simp_all[opT,opA,opL,df,List.find?];done)),(by(simp_all[opT,opA,opL,df,List.find?];done))⟩
 try simp only[BS]at h
 refine wU 1 [(1,.o (.tuple ⟨[(iI ((opA s).1)),(iI ((opA s).2.1)),(.bool ((opA s).2.2))]⟩))] 30 34 [2,3,4] [(2,(iI ((opA s).1))),(3,(iI ((opA s).2.1))),(4,(.bool ((opA s).2.2)))] (arith_c_q ex s H) rfl fun _=>ah ⟨.inr rfl,_,rfl,(opA s).1,(opA s).2.1,(opA s).2.2,rfl,rfl,(by(simp_all[opT,opA,opL,df,List.find?];done)),(by(simp_all[opT,opA,opL,df,List.find?];done)),(by(simp_all[opT,opA,opL,df,List.find?];done))⟩
theorem operator_c_q(ex:FuncId)(s:List UInt8)(H:Heap):kKt ex 100 [(.string ⟨⟨s⟩⟩)] H fun v H'=>v=(.tuple ⟨[(iI ((opT s).1)),(iI ((opT s).2.1)),(.bool ((opT s).2.2))]⟩)/\H'=H:=
 cq (operator_c ex s H) (by rintro _ _ ⟨_,_,_,rfl,rfl,rfl,rfl,rfl⟩;exact⟨rfl,rfl⟩)
variable (ts:List Token)
variable (ex:FuncId) {F:Fz} {H:Heap} {R:List Fp}
theorem nxT_tok{ts:List Token}{r:RdrT}(z:r.l=ts)(h:(nxT r).kind≠0):r.bad=false/\r.at_<(ts.length:Int)/\nxT r=ts.getD r.at_.toNat default:=by
 unfold nxT at h⊢;by_cases k:r.bad=true\/(r.l.length:Int)<=r.at_
 ·rw[if_pos k]at h;exact absurd rfl h
 rw[if_neg k,z];rw[z]at k;exact⟨by cases e:r.bad with|false=>rfl|true=>exact absurd (.inl e) k,by omega,rfl⟩
theorem nm_y{ts:List Token}{r:RdrT}(O:r.l=ts)(h:(nxT r).kind=2):r.bad=false/\r.at_<(ts.length:Int)/\nxT r=ts.getD r.at_.toNat default/\isM ts r.at_.toNat=true:=by obtain⟨A,E,z⟩:=nxT_tok O (by rw[h];decide);exact⟨A,E,z,by unfold isM;rw[←z];exact decide_eq_true h⟩
theorem nm_n{ts:List Token}{r:RdrT}(A:r.l=ts)(h:(nxT r).kind≠2)(z:r.bad=false): ¬isM ts r.at_.toNat=true:=fun k=>by unfold isM at k;rw[decide_eq_true_eq]at k;refine h ?_;rw[jB,if_neg (by rw[z];decide),A];exact k
def tx(ts:List Token)(i:Nat):List UInt8:=(ts.getD i default).text.b
theorem sma_n{ts:List Token}{r:RdrT}{x:Int}(E:r.l=ts)(z:0<=r.at_)(h:((nxT r).kind≠2\/(aE (nxT r).text.b).isSome=false)\/1000000<(aE (nxT r).text.b).getD 0):Oc (fun _=>dh ts r.at_.toNat) r.bad r.at_ x r.at_ true:=⟨fun _=>⟨rfl,rfl⟩,fun A=>by
 have e:nxT r=ts.getD r.at_.toNat default:=by rw[jB,if_neg (by rw[A];decide),E]
 rw[e]at h;unfold dh;rw[if_neg (fun k=>?_)]
 ·exact .fail (by omega)
 rw[a03,a03,decide_eq_true_eq]at k;rcases h with(h|h)|h
 ·exact h (of_decide_eq_true k.1.1)
 ·exact absurd (k.1.2.symm.trans h) (by decide)
 exact absurd k.2 (by show ¬(aE _).getD 0<=_;omega)⟩
theorem sma_y{ts:List Token}{r:RdrT}(U:r.l=ts)(O:0<=r.at_)(h:((nxT r).kind=2/\(aE (nxT r).text.b).isSome=true)/\¬1000000<(aE (nxT r).text.b).getD 0):Oc (fun _=>dh ts r.at_.toNat) r.bad r.at_ ((aE (nxT r).text.b).getD 0) (r.at_+1) r.bad:=by obtain⟨z,T,A,E⟩:=nm_y U h.1.1;refine Oc.of z ?_;unfold dh;rw[A]at h⊢;rw[if_pos (by rw[a03,a03,decide_eq_true_eq];exact⟨⟨E,h.1.2⟩,Int.not_lt.1 h.2⟩),z];exact .val (by omega)
theorem sm_lt{ts:List Token}{r:RdrT}(z:r.l=ts)(h:((nxT r).kind=2/\(aE (nxT r).text.b).isSome=true)/\¬1000000<(aE (nxT r).text.b).getD 0):r.at_<(ts.length:Int):=(nm_y z h.1.1).2.1
theorem db{s:List UInt8}:in64 ((aE s).getD 0):=by
 unfold aE bz;split
 ·split
  ·decide
  ·next h=>split at h<;>simp_all;constructor<;>omega
  decide
 split
 ·next h=>split at h<;>simp_all;constructor<;>omega
 decide
def acB(ts:List Token)(r:RdrT):Bool:=anB r&&isS ts (r.at_.toNat+1) [40]
theorem ac_n{ts:List Token}{r:RdrT}(z:r.l=ts)(A:0<=r.at_/\r.at_<=(ts.length:Int))(h:anB r=false\/(r.l.length:Int)<=r.at_+1):acB ts r=false:=by
 unfold acB;rcases h with h|h
 ·rw[h];rfl
 unfold isS;rw[z]at h;rw[bF (show ts.length<=r.at_.toNat+1 by omega)];cases anB r<;>rfl
theorem acx{ts:List Token}{r:RdrT}(z:r.l=ts)(h:anB r=true/\¬(r.l.length:Int)<=r.at_+1):r.at_+1<(ts.length:Int):=by have:=h.2;rw[z]at this;omega
theorem ac_y{ts:List Token}{r:RdrT}(A:r.l=ts)(z:0<=r.at_)(h:anB r=true/\¬(r.l.length:Int)<=r.at_+1):((r.l.getD (r.at_+1).toNat default).kind==3&&(r.l.getD (r.at_+1).toNat default).text.b==[40])=acB ts r:=by unfold acB isS;rw[h.1,A,show(r.at_+1).toNat=r.at_.toNat+1 by omega,a1l,a0x];simp
theorem negative_c(s:List UInt8)(H:Heap)(h:s.length<=1000000):kKt ex 106 [(.string ⟨⟨s⟩⟩)] H fun v H'=> ∃(o:Int),H'=H/\v= .int .i64 o/\o=(aE (45::s)).getD 0:=by refine aD Try.func106 rfl rfl (am 1 rfl (wT 2 [] 2 2 [] [(2,(iI 0))] rfl fun _=>wR 2 [(2,.o (.tuple ⟨[(iI ((aE ([45]++s)).getD 0)),(.bool (aE ([45]++s)).isSome)]⟩))] 5 10 [3,4] [(3,(iI ((aE ([45]++s)).getD 0)))] (vA (show([45]:List UInt8).length+(s:List UInt8).length<=1099511627776 from by(have:([45]:List UInt8).length=1:=rfl;omega)) (vA (w3.iS ex ([45]++s) H) trivial)) rfl fun _=>wT 1 [] 2 2 [11] [(2,(iI ((aE ([45]++s)).getD 0)))] rfl fun _=>ah ⟨.inr rfl,_,rfl,(aE ([45]++s)).getD 0,rfl,rfl,(by rfl)⟩))
theorem negative_c_q(s:List UInt8)(H:Heap)(h:s.length<=1000000):kKt ex 106 [(.string ⟨⟨s⟩⟩)] H fun v H'=>v=(iI ((aE (45::s)).getD 0))/\H'=H:=
 cq (negative_c ex s H h) (by rintro _ _ ⟨_,rfl,rfl,rfl⟩;exact⟨rfl,rfl⟩)
theorem atCall_c{U:Option Addr}{Y:Nat}{h:Nat}(r:RdrT)(hs:HS (.of H [h]) F H [(fP h [(sL U r.l.length Y),(iI r.at_),(iI r.fin),(.bool r.bad)])] R)(E:SR F (sL U r.l.length Y) r.l)(b7:in64 r.at_)(b8:in64 r.fin)(cw: ∀i,(ts.getD i default).text.b.length<=1000000)(b4:r.l=ts)(cc:0<=r.at_/\r.at_<=(ts.length:Int))(co:ts.length<=1000000):kKt ex 97 [(pT h 0)] H fun v H'=> ∃(o:Bool) (F':Fz),Fz.le F F'/\HS (.of H [h]) F' H' [(fP h [(sL U r.l.length Y),(iI r.at_),(iI r.fin),(.bool r.bad)])] R/\v= .bool o/\o=acB ts r:=by
 let a1:Fp:=(fP h [(sL U r.l.length Y),(iI r.at_),(iI r.fin),(.bool r.bad)])
 refine aD Try.func97 rfl rfl (am 1 rfl (wT 3 [] 2 2 [] [(2,(.bool false))] rfl fun _=>bn 4 19 [] [(19,(.bool ((!(anB r))||(decide ((r.l.length:Int)<=r.at_+1)))))] (fun H'=> ∃F',Fz.le F F'/\HS (Base.of H [h]) F' H' [a1] R) ?_ ?_))
 ·refine aK rfl (zfm (pT h 0) (bo (W:=[h]) (bk rfl rfl rfl) rfl rfl rfl (pa.atName_c ts ex r (HS.callOwn hs.log0 (i:=0) rfl) E (by omega) (by omega) (by omega) (by omega) (by omega) (by omega)) (kb rfl) ?_));rintro _ H4 ⟨o4,F4,ax,A,rfl,rfl⟩;refine⟨HS.didW A,fun b1 a4=>?_⟩;replace A:=HS.backOwn hs.log0 (i:=0) rfl rfl (fun _ hb=>hb) A;replace A:=HS.lg A hs a4;generalize ({H4 with log:=b1}:Heap)=b9 at A⊢;have A:HS _ _ _ [a1] _:=A;replace E:=E.mono ax;refine wfv (v:=(.bool (!(anB r)))) (bH rfl) (zfm (.bool (!(anB r))) (wf_gsF (v:=(!(anB r))) rfl rfl (fun z=>?_) (fun z=>?_)))
  ·have a0:=z;try simp only[BS]at a0
   refine zfm (pT h 0) (az rfl z (wfv (v:=(pT h 0)) (aS rfl) (az rfl z (zp 1 (az rfl z ?_)))));refine zl 1 (HS.hc A.log0 (i:=0) rfl) (az rfl z (wfv (v:=(iI (r.at_+1))) (dE rfl rfl (eu (n:=r.at_+1) (by omega))) (az rfl z (zfm (pT h 0) (az rfl z ?_)))));refine wfv (v:=(pT h 0)) (aS rfl) (az rfl z (zp 0 (az rfl z (zl 0 (HS.hc A.log0 (i:=0) rfl) (az rfl z ?_)))));refine a6 (v:=(iI (r.l.length:Int))) (id:= .v) (ed (α:=Token) rfl rfl (SR.sv E A.log0)) rfl rfl (eL rfl) (fA _) (az rfl z (wfv (v:=(.bool (decide ((r.l.length:Int)<=r.at_+1)))) (a7 rfl rfl rfl rfl) (wfv (v:=(.bool (decide ((r.l.length:Int)<=r.at_+1)))) (au rfl z rfl) (aW ?_))));exact ai ⟨rfl,⟨_,(fT fR ax),HS.sub A (List.Sublist.refl _)⟩,(by repeat' first|exact Lr|refine Lu rfl ?_),(agC (congrArg Value.bool (show(decide ((r.l.length:Int)<=r.at_+1))=((!(anB r))||(decide ((r.l.length:Int)<=r.at_+1))) by simp only[↓z,BT])) agN)⟩
  have a0:=z;try simp only[BS]at a0
  refine ak rfl z rfl (ak rfl z rfl (ak rfl z rfl (ak rfl z rfl (ak rfl z rfl (ak rfl z rfl ?_)))));refine ak rfl z rfl (ak rfl z rfl (ak rfl z rfl (ak rfl z rfl (wfv (v:=(.bool true)) (ao rfl z rfl) (aW ?_)))));exact ai ⟨rfl,⟨_,(fT fR ax),HS.sub A (List.Sublist.refl _)⟩,(by repeat' first|exact Lr|refine Lu rfl ?_),(agC (congrArg Value.bool (show true=((!(anB r))||(decide ((r.l.length:Int)<=r.at_+1))) by simp only[↓z,BT])) agN)⟩
 skip;rintro g3 H3 ⟨F3,an,V⟩;replace E:=E.mono an;refine am 1 rfl (zi 1 2 (fun c6=>?_) fun c6=>?_)
 ·try simp only[BS]at c6
  have c1:=c6;refine wT 1 [] 2 2 [] [(2,(.bool false))] rfl fun _=>ah ⟨.inr rfl,_,rfl,false,_,(an),(HS.first V),rfl,(ac_n b4 cc c1).symm⟩
 try simp only[BS]at c6
 have c1:=c6;have c2:=acx b4 c1;refine aK rfl (zfm (pT h 0) (wfv (v:=(pT h 0)) (aS rfl) (zp 0 (zl 0 (HS.hc V.log0 (i:=0) rfl) (zfm (pT h 0) ?_)))));refine wfv (v:=(pT h 0)) (aS rfl) (zp 1 (zl 1 (HS.hc V.log0 (i:=0) rfl) (wfv (v:=(iI (r.at_+1))) (dE rfl rfl (eu (n:=r.at_+1) (by omega))) (zy Token (r.at_+1) (SR.sv E V.log0) ?_))));obtain⟨cb,b0,bl⟩:=Sv.at (SR.sv E V.log0) (aU (x:=default) (show(r.at_+1).toNat<r.l.length from by omega));obtain⟨rfl,b5,b6⟩:=b0;refine a6 (v:=(aG [(iI (r.l.getD (r.at_+1).toNat default).kind),(.string ⟨⟨(r.l.getD (r.at_+1).toNat default).text.b⟩⟩),(iI (r.l.getD (r.at_+1).toNat default).at_)])) (id:= .l (sB (sL U r.l.length Y))) (cp (i:=0) rfl rfl rfl bl rfl rfl rfl) rfl rfl (fB rfl) (kb rfl) (ct (id:= .a) (aJ V.log0 rfl) rfl rfl (fun _ _ _ _=>eo rfl rfl rfl) (kb rfl) ?_);rintro _ ba _ ⟨Z,rfl,T,_⟩ a8 a2;replace T:=HS.lg T V a2;generalize ({ba with log:=a8}:Heap)=b2 at T⊢;have T:HS _ _ _ [a1,(fP Z [(iI 0),(.string ⟨⟨[]⟩⟩),(iI 0)])] _:=T;refine dH (id:= .x [Z]) (ae (q:=1) T.log0 rfl rfl rfl rfl rfl rfl rfl rfl rfl) rfl (by rintro _ _ _ ⟨_,hwr⟩;exact bP rfl rfl (Wr.did hwr)) (kb rfl) ?_;rintro _ bb _ ⟨O,_⟩ a9 a3;replace O:=HS.lg O T a3;generalize ({bb with log:=a9}:Heap)=b3 at O⊢;have O:HS _ _ _ [_,(fP Z [(iI (r.l.getD (r.at_+1).toNat default).kind),(.string ⟨⟨(r.l.getD (r.at_+1).toNat default).text.b⟩⟩),(iI (r.l.getD (r.at_+1).toNat default).at_)])] _:=O;refine aW (am 2 rfl (wR 1 [(1,.o (iI (r.l.getD (r.at_+1).toNat default).kind)),(5,.o (.string ⟨⟨(r.l.getD (r.at_+1).toNat default).text.b⟩⟩))] 31 38 [2] [(2,(.bool (((r.l.getD (r.at_+1).toNat default).kind==3)&&((r.l.getD (r.at_+1).toNat default).text.b==([40]:List UInt8)))))] (vA (ql 3 0 (HS.hc O (i:=1) rfl) rfl rfl) (vA (fun(g1:((r.l.getD (r.at_+1).toNat default).kind==3)=true)=>(ql 9 1 (HS.hc O (i:=1) rfl) rfl rfl)) trivial)) rfl fun _=>ah ⟨.inr rfl,_,rfl,(((r.l.getD (r.at_+1).toNat default).kind==3)&&((r.l.getD (r.at_+1).toNat default).text.b==([40]:List UInt8))),_,(an),(HS.first O),rfl,(ac_y b4 cc.1 c1)⟩))
theorem small_c{z:Option Addr}{A:Nat}{h:Nat}(r:RdrT)(hs:HS (.of H [h]) F H [(fP h [(sL z r.l.length A),(iI r.at_),(iI r.fin),(.bool r.bad)])] R)(E:SR F (sL z r.l.length A) r.l)(a4:in64 r.at_)(a8:in64 r.fin)(b1: ∀i,(ts.getD i default).text.b.length<=1000000)(a3:r.l=ts)(bb:0<=r.at_/\r.at_<=(ts.length:Int))(b0:ts.length<=1000000):kKt ex 30 [(pT h 0)] H fun v H'=> ∃(x:Int) (r':RdrT) (T:Option Addr) (Z:Nat) (F':Fz),Fz.le F F'/\HS (.of H [h]) F' H' [(fP h [(sL T r'.l.length Z),(iI r'.at_),(iI r'.fin),(.bool r'.bad)])] R/\v= .int .i64 x/\in64 r'.at_/\in64 r'.fin/\SR F' (sL T r'.l.length Z) r'.l/\(in64 x)/\(r'.l=ts)/\(r.at_<=r'.at_/\r'.at_<=(ts.length:Int))/\(r'.fin=r.fin)/\(Oc (fun n=>dh ts r.at_.toNat) r.bad r.at_ x r'.at_ r'.bad):=by
 refine aD Try.func30 rfl rfl (am 1 rfl (wT 2 [] 2 2 [] [(2,(iI 0))] rfl fun _=>aa (zm (pT h 0) (zc (pa.iV ts ex r (HS.callOwn hs (i:=0) rfl) E (by omega) (by omega) (by omega) (by omega) (by omega) (by omega)) ?_))));rintro _ H2 ⟨t2,F2,V,Y,rfl,a0,a1,rfl⟩;replace Y:HS _ _ _ [(fP h [(sL z r.l.length A),(iI r.at_),(iI r.fin),(.bool r.bad)])] _:=HS.backOwn hs (i:=0) rfl rfl (fun _ hb=>hb) Y;replace E:=E.mono V;refine aI (aJ Y rfl) rfl rfl ?_;rintro _ H4 _ ⟨b3,rfl,(a2:HS _ _ _ [_,(fP b3 [(iI 0),(.string ⟨⟨[]⟩⟩),(iI 0)])] _),_⟩;refine aq (ae (q:=1) a2 rfl rfl rfl rfl rfl rfl rfl rfl rfl) rfl ?_;rintro _ H5 _ ⟨(O:HS _ _ _ [_,(fP b3 [(iI (nxT r).kind),(.string ⟨⟨(nxT r).text.b⟩⟩),(iI (nxT r).at_)])] _),_⟩;refine ab 2 rfl (wR 3 [(1,.o (.string ⟨⟨(nxT r).text.b⟩⟩)),(2,.o (.tuple ⟨[(iI ((aE (nxT r).text.b).getD 0)),(.bool (aE (nxT r).text.b).isSome)]⟩))] 8 13 [4,5] [(4,(iI ((aE (nxT r).text.b).getD 0))),(5,(.bool (aE (nxT r).text.b).isSome))] (vA (ql 9 1 (HS.hc O (i:=1) rfl) rfl rfl) (vA (w3.iS ex (nxT r).text.b H5) trivial)) rfl fun _=>wU 1 [(1,.o (iI (nxT r).kind))] 14 24 [] [(24,(.bool ((((nxT r).kind !=2)||(!(aE (nxT r).text.b).isSome))||(decide ((1000000:Int)<(aE (nxT r).text.b).getD 0)))))] (ql 3 0 (HS.hc O (i:=1) rfl) rfl rfl) rfl fun _=>zi 1 2 (fun U=>?_) fun U=>?_)
 ·try simp only[BS]at U
  have c1:=U;refine aa (wTo 3 0 [] 25 27 [] [(27,(pT h 3))] rfl fun _=>aq (ae (q:=0) O rfl rfl rfl rfl rfl rfl rfl rfl rfl) rfl ?_);rintro _ a9 _ ⟨(al:HS _ _ _ [(fP h [(sL z r.l.length A),(iI r.at_),(iI r.fin),(.bool true)]),_] _),_⟩;refine ab 2 rfl (wT 1 [] 2 2 [] [(2,(iI 0))] rfl fun _=>ah ⟨.inr rfl,_,rfl,0,(⟨r.l,r.at_,r.fin,true⟩:RdrT),z,A,_,(V),(HS.first al),rfl,(by(dsimp only;omega)),(by(dsimp only;omega)),E,(by decide),(by assumption),(by(dsimp only;omega)),(by rfl),(sma_n a3 bb.1 c1)⟩)
 try simp only[BS]at U
 have c1:=U;have c2:=sm_lt a3 c1;refine aa (wRo 7 0 [(3,.o (iI r.at_))] 28 34 [] [(32,(iI (r.at_+1))),(34,(pT h 1))] (vA (ql 3 1 (HS.hc O (i:=0) rfl) rfl rfl) (vA (vi (n:=r.at_+1)) trivial)) rfl fun _=>aq (ae (q:=0) O rfl rfl rfl rfl rfl rfl rfl rfl rfl) rfl ?_);rintro _ ba _ ⟨(an:HS _ _ _ [(fP h [(sL z r.l.length A),(iI (r.at_+1)),(iI r.fin),(.bool r.bad)]),_] _),_⟩;refine ab 2 rfl (wT 1 [] 2 2 [35] [(2,(iI ((aE (nxT r).text.b).getD 0)))] rfl fun _=>ah ⟨.inr rfl,_,rfl,(aE (nxT r).text.b).getD 0,(⟨r.l,r.at_+1,r.fin,r.bad⟩:RdrT),z,A,_,(V),(HS.first an),rfl,(by(dsimp only;omega)),(by(dsimp only;omega)),E,(db),(by assumption),(by(dsimp only;omega)),(by rfl),(sma_y a3 bb.1 c1)⟩)
theorem names_c{b2:Option Addr}{ch:Nat}{h:Nat}(r:RdrT)(hs:HS (.of H [h]) F H [(fP h [(sL b2 r.l.length ch),(iI r.at_),(iI r.fin),(.bool r.bad)])] R)(dt:SR F (sL b2 r.l.length ch) r.l)(f4:in64 r.at_)(f6:in64 r.fin)(hA: ∀i,(ts.getD i default).text.b.length<=1000000)(hz:r.l=ts)(hx:0<=r.at_/\r.at_<=(ts.length:Int))(hy:ts.length<=1000000):kKt ex 60 [(pT h 0)] H fun v H'=> ∃(ax:Option Addr) (kx:Nat) (x:List Str) (r':RdrT) (b1:Option Addr) (cd:Nat) (F':Fz),Fz.le F F'/\HS (.of H [h]) F' H' [(fP h [(sL b1 r'.l.length cd),(iI r'.at_),(iI r'.fin),(.bool r'.bad)])] R/\v=sL ax x.length kx/\SR F' (sL ax x.length kx) x/\in64 r'.at_/\in64 r'.fin/\SR F' (sL b1 r'.l.length cd) r'.l/\(r'.l=ts)/\(r.at_<=r'.at_/\r'.at_<=(ts.length:Int))/\(r'.fin=r.fin)/\(Oc (fun n=>namM ts n r.at_.toNat) r.bad r.at_ x r'.at_ r'.bad):=by
 refine aD Try.func60 rfl rfl (am 1 rfl (wT 2 [] 2 2 [] [(2,(sL none 0 0))] rfl fun _=>aa (zm (pT h 0) (zc (pa.iW ts ex r (HS.callOwn hs (i:=0) rfl) dt (by omega) (by omega) (by omega) (by omega) (by omega) (by omega)) ?_))));rintro _ H2 ⟨x2,al,a4,ba,F2,ez,cb,rfl,e6,fd,cm,g8,g2,g5,ha,b4⟩;replace cb:HS _ _ _ [(fP h [(sL a4 al.l.length ba),(iI al.at_),(iI al.fin),(.bool al.bad)])] _:=HS.backOwn hs (i:=0) rfl rfl (fun _ hb=>hb) cb;refine aI (a5 (α:=Str) (ps:=[(0,(.string ⟨⟨x2⟩⟩))]) (cells:=[(.string ⟨⟨x2⟩⟩)]) ([⟨x2⟩]:List Str) cb rfl rfl rfl (by kernel_rfl) ⟨[(.string ⟨⟨x2⟩⟩)],[],rfl,rfl,rfl⟩ rfl) rfl rfl ?_;rintro _ H4 p3 ⟨a3,k3,rfl,e0,(e1:HS _ _ _ [_,p3] _),_⟩;refine za (sL a3 ([⟨x2⟩]:List Str).length k3) (ab 3 rfl (aA (fun(mm:Nat) f H'=> ∃(l:List Str) (rr:RdrT) (z:Option Addr) (E:Nat) (U:Fp) (O:Option Addr) (T:Nat) (F':Fz),Fz.le F2 F'/\HS (Base.of H [h]) F' H' [(fP h [(sL O rr.l.length T),(iI rr.at_),(iI rr.fin),(.bool rr.bad)]),U] R/\OS F' (sL z l.length E) l U/\SR F' (sL O rr.l.length T) rr.l/\aX f [(0,(pT h 0)),(3,(sL z l.length E))]/\mm=ts.length-rr.at_.toNat/\(rr.l=ts)/\(r.at_<=rr.at_/\rr.at_<=(ts.length:Int))/\(rr.fin=r.fin)/\((l.length:Int)<=rr.at_+1)/\(∀x i9 b9,Oc (fun n=>namL ts n l rr.at_.toNat) rr.bad rr.at_ x i9 b9->Oc (fun n=>namM ts n r.at_.toNat) r.bad r.at_ x i9 b9)) _ ⟨([⟨x2⟩]:List Str),al,a3,k3,p3,a4,ba,_,fR,e1,e0,cm,⟨rfl,rfl,trivial⟩,rfl,(by omega),(by omega),(by omega),(by(have:([(⟨x2⟩:Str)]:List Str).length=1:=rfl);omega),(by intro x9 i9 b9 h9;unfold namM;(try dsimp only at b4);first|exact b4|(refine Oc.seq b4 ?_;exact h9))⟩ ?_));rintro hm f5 H5 ⟨l,rr,z,E,U,O,T,F5,c0,c5,A,b0,c4,rfl,hg,hh,hj,hk,hw⟩ e2;refine aN _ c4 (fun _=>?_);clear c4;refine am 2 rfl (aa (zm (pT h 0) (zc (pa.dy ts ex rr [44] (HS.callOwn c5 (i:=0) rfl) b0 (by omega) (by omega) (by omega) (by omega) (by omega) (by omega)) ?_)));rintro _ H6 ⟨o6,Y,a8,bb,F6,b7,Z,rfl,fi,fl,V,rfl,et,em,g3,g6,he⟩;replace Z:HS _ _ _ [(fP h [(sL a8 Y.l.length bb),(iI Y.at_),(iI Y.fin),(.bool Y.bad)]),U] _:=HS.backOwn c5 (i:=0) rfl rfl (fun _ hb=>hb) Z;replace A:=A.mono b7;refine ab 1 rfl (zi 2 5 (fun c7=>?_) fun c7=>?_)
 ·try simp only[BS]at c7
  have c8:=et c7;refine aa (wTo 2 0 [] 9 10 [] [(9,(sL z l.length E)),(10,(pT h 0))] rfl fun _=>zc (pa.iW ts ex Y (HS.callOwn Z (i:=0) rfl) V (by omega) (by omega) (by omega) (by omega) (by omega) (by omega)) ?_);rintro _ H9 ⟨x9,an,a9,bl,F9,c3,cc,rfl,fu,f1,co,g9,g4,g7,hf,b5⟩;replace cc:HS _ _ _ [(fP h [(sL a9 an.l.length bl),(iI an.at_),(iI an.fin),(.bool an.bad)]),_] _:=HS.backOwn Z (i:=0) rfl rfl (fun _ hb=>hb) cc;replace A:=A.mono c3;refine aI (a5 (α:=Str) (ps:=[(0,(.string ⟨⟨x9⟩⟩))]) (cells:=[(.string ⟨⟨x9⟩⟩)]) ([⟨x9⟩]:List Str) cc rfl rfl rfl (by kernel_rfl) ⟨[(.string ⟨⟨x9⟩⟩)],[],rfl,rfl,rfl⟩ rfl) rfl rfl ?_;rintro _ gm e4 ⟨g1,hl,rfl,dk,(b8:HS _ _ _ [_,_,e4] _),_⟩;refine aI (bX (α:=Str) (q:=1) A b8 rfl rfl rfl (OS.sv dk b8 (i:=2) rfl) rfl rfl rfl rfl rfl rfl rfl (by(simp only[a01,a07,List.length_nil];omega))) rfl rfl ?_;rintro _ go c9 ⟨cw,c6,rfl,dn,(d1:HS _ _ _ [_,c9,_] _),_⟩;refine za (sL cw (l++([⟨x9⟩]:List Str)).length c6) (ab 2 rfl ?_);refine e2 _ _ _ ?_ ⟨l++([⟨x9⟩]:List Str),an,cw,c6,c9,a9,bl,_,(fT (fT (c0) b7) c3),(HS.sub d1 (a06 _ _)),dn,co,⟨rfl,rfl,trivial⟩,rfl,(by omega),(by omega),(by omega),(by(try rw[a01,List.length_singleton]);omega),(by intro x9 i9 b9 h9;refine hw _ _ _ ?_;refine Oc.succ ?_ (fun _=>namL.eq_2 ..);refine Oc.yes c8 ?_;rw[aR c8 (by omega)];(try dsimp only at b5);first|exact b5|(refine Oc.seq b5 ?_;exact h9))⟩;omega
 try simp only[BS]at c7
 have ci:=em c7;refine wT 1 [] 2 2 [14] [(2,(sL z l.length E))] rfl fun _=>?_
 obtain⟨f9,b6,a1,ds,f3⟩:=OS.frz A Z (i:=1) rfl;have a1:HS _ _ _ [_,[]] _:=a1;replace V:=V.mono b6;refine ah ⟨.inr rfl,_,rfl,z,E,l,Y,a8,bb,_,(fT (fT (fT (ez) c0) b7) b6),(HS.first a1),rfl,ds,(by omega),(by omega),V,(by omega),(by omega),(by omega),(by(refine hw _ _ _ ?_;refine Oc.succ ?_ (fun _=>namL.eq_2 ..);refine Oc.no ci ?_;rw[←ci.1,←ci.2.1];exact Oc.val (by omega) (fun _=>by rfl)))⟩
end Go.Proofs.Ytapgbjedgcpffaa.pb
