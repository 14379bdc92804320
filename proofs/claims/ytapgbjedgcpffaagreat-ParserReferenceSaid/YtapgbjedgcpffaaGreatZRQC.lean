/-
The parser of the reference: expressions. No condition but that its place lies in the list.
-/
import Derived.Test.YtapgbjedgcpffaaGreatZRL1
import Derived.Test.YtapgbjedgcpffaaGreatZRQB
noncomputable section
namespace Go.Proofs.YtapgbjedgcpffaaGreat.qc
open Go.R
set_option maxRecDepth 10000
set_option linter.unusedVariables false
set_option linter.unusedSimpArgs false
open w1 w3 l1 pt pa pb pc pd pe pf pg ph pi_ qa qb
def opQ(k:Nat)(s:List UInt8):Int×Bool:=if(opT s).2.1=(k:Int) then((opT s).1,(opT s).2.2) else(0,false)
theorem kR{k:Nat}{s:List UInt8}(h: ∀q∈opL,s=q.1->q.2.2.1≠(k:Int)):opQ k s=(0,false):=by
 unfold opQ opT;cases e:opL.find? fun q=>decide (s=q.1) with
 |none=>show(if(0:Int)=(k:Int) then((0:Int),false) else(0,false))=(0,false);split<;>rfl
 |some q=>
  have E:=a1x e
  have O:=List.find?_some e
  exact if_neg (h q E (of_decide_eq_true O))
theorem opQ_in(k:Nat)(s:List UInt8):in64 (opQ k s).1:=by
 unfold opQ;split
 ·exact op_in s
 decide
theorem amQ_t{ts:List Token}{r:PrsT}{k:Nat}(h:amQ ts r k=true):bE r.e=false/\isM ts (r.i.toNat+k)=true:=by unfold amQ at h;rw[a03,a0u]at h;exact h
theorem amQ_n{ts:List Token}{r:PrsT}{k:Nat}(h:amQ ts r k=false)(hb:bE r.e=false): ¬isM ts (r.i.toNat+k)=true:=fun q=>by unfold amQ at h;rw[hb,q]at h;cases h
theorem isM_nS{ts:List Token}{i:Nat}{w:List UInt8}(h:isM ts i=true): ¬isS ts i w=true:=fun k=>by unfold isM at h;unfold isS at k;rw[a03,decide_eq_true_eq]at k;rw[decide_eq_true_eq]at h;rw[k.1]at h;cases h
theorem um_n{ts:List Token}{r:PrsT}(E:0<=r.i)(h:amQ ts r 1=false)(hb:bE r.e=false): ¬isM ts (r.i+1).toNat=true:=by rw[show(r.i+1).toNat=r.i.toNat+1 by omega];exact amQ_n h hb
theorem opK_Q{ts:List Token}{i k:Nat}(h:(ts.getD i default).kind=3):opK ts k i=(opQ k (ts.getD i default).text.b).1:=by
 unfold opK opQ;rw[decide_eq_true h,a1o];by_cases e:(opT (ts.getD i default).text.b).2.1=(k:Int)
 ·rw[if_pos (decide_eq_true e),if_pos e]
 rw[if_neg (by rw[decide_eq_false e];decide),if_neg e]
theorem opQ_n1{ts:List Token}{r:PrsT}{k:Nat}{i:Int}(U:r.l=ts)(O:0<=i)(T:i<=r.i)(h:bE r.e=false/\r.i<(r.l.length:Int)->(r.l.getD r.i.toNat default).kind≠3)(hb:bE r.e=false):opK ts k r.i.toNat=0:=by
 rw[U]at h;unfold opK;refine if_neg (fun q=>?_);rw[a03,decide_eq_true_eq]at q;rcases a0c r.i.toNat ts.length with E|E
 ·exact h ⟨hb,by omega⟩ q.1
 rw[bh E]at q;exact absurd q.1 e_
theorem opQ_n2{ts:List Token}{r:PrsT}{k:Nat}(E:r.l=ts)(h:(r.l.getD r.i.toNat default).kind=3)(c:(opQ k (r.l.getD r.i.toNat default).text.b).1=0):opK ts k r.i.toNat=0:=by rw[E]at h c;rw[opK_Q h];exact c
theorem opQ_y{ts:List Token}{r:PrsT}{k:Nat}(E:r.l=ts)(h:(r.l.getD r.i.toNat default).kind=3)(c:(opQ k (r.l.getD r.i.toNat default).text.b).1≠0): ¬opK ts k r.i.toNat=0:=by rw[E]at h c;rw[opK_Q h];exact c
theorem opQ_eq{ts:List Token}{i k:Nat}(h: ¬opK ts k i=0):opQ k (ts.getD i default).text.b=((opT (ts.getD i default).text.b).1,(opT (ts.getD i default).text.b).2.2):=by
 unfold opK at h;unfold opQ;split at h
 ·next q=>rw[a03,decide_eq_true_eq,decide_eq_true_eq]at q;exact if_pos q.2
 exact absurd V h
theorem mkQ_f{ts:List Token}{r:PrsT}{k:Nat}{a b:ExpT}(E:r.l=ts)(h: ¬opK ts k r.i.toNat=0)(c:(opQ k (r.l.getD r.i.toNat default).text.b).2=false):mkB ts r.i.toNat a b=⟨4,0,⟨[]⟩,(opQ k (r.l.getD r.i.toNat default).text.b).1,[a,b]⟩:=by rw[E]at c⊢;rw[opQ_eq h]at c⊢;unfold mkB;rw[c];rfl
theorem mkQ_t{ts:List Token}{r:PrsT}{k:Nat}{a b:ExpT}(E:r.l=ts)(h: ¬opK ts k r.i.toNat=0)(c:(opQ k (r.l.getD r.i.toNat default).text.b).2=true):mkB ts r.i.toNat a b=⟨4,0,⟨[]⟩,(opQ k (r.l.getD r.i.toNat default).text.b).1,[b,a]⟩:=by rw[E]at c⊢;rw[opQ_eq h]at c⊢;unfold mkB;rw[c];rfl
theorem nuF{ts:List Token}{i O:Int}{b E:Bool}{x:ExpT}(f:Oc (fun _=>numQ ts false i.toNat) b i x O E):Oc (fun _=>if(numV ts i.toNat).isSome=true then .ok (numE ((numV ts i.toNat).getD 0),i.toNat+1) else .error i.toNat) b i x O E:=f.eqf (fun _=>rfl)
theorem nuT{ts:List Token}{i T:Int}{b O:Bool}{x:ExpT}(E:0<=i)(f:Oc (fun _=>numQ ts true (i+1).toNat) b (i+1) x T O):Oc (fun _=> .ok (numE ((aQ (45::(ts.getD (i+1).toNat default).text.b)).getD 0),i.toNat+2)) b (i+1) x T O:=f.eqf (fun _=>funext fun _=>by unfold numQ;rw[if_pos V,show(i+1).toNat+1=i.toNat+2 by omega])
theorem roperator_c(ex:FuncId)(k:Nat)(s:List UInt8)(H:Heap)(hk:k<=8):kKt ex 96 [(iI (k:Int)),(tX s)] H fun v H'=> ∃(o:Int) (t:Bool),H'=H/\v= .tuple ⟨[iI o,.bool t]⟩/\o=(opQ k s).1/\t=(opQ k s).2:=by
 refine av Tryz.func96 V V (ai 1 V (wr 4 [] 4 5 [] [(4,(.int _ 0)),(5,(.bool false))] trivial V V fun _=>wr 1 [] 6 12 [] [(6,(.bool (((k:Int)==0)&&(s==([124]:List UInt8)))))] trivial V V fun _=>zi 1 1 (fun c3=>?_) fun c3=>?_))
 ·try simp only[BS]at c3
  refine wr 1 [] 4 5 [] [(4,(.int _ 10)),(5,(.bool false))] trivial V V fun _=>ae ⟨.inr V,_,V,10,_,V,V,(by(simp_all[opQ,opT,opL,List.find?];done)),(by(simp_all[opQ,opT,opL,List.find?];done))⟩
 try simp only[BS]at c3
 refine wr 1 [] 13 19 [] [(13,(.bool (((k:Int)==1)&&(s==([94]:List UInt8)))))] trivial V V fun _=>zi 1 1 (fun c6=>?_) fun c6=>?_
 ·try simp only[BS]at c6
  refine wr 1 [] 4 5 [] [(4,(.int _ 11)),(5,(.bool false))] trivial V V fun _=>ae ⟨.inr V,_,V,11,_,V,V,(by(simp_all[opQ,opT,opL,List.find?];done)),(by(simp_all[opQ,opT,opL,List.find?];done))⟩
 try simp only[BS]at c6
 refine wr 1 [] 20 26 [] [(20,(.bool (((k:Int)==2)&&(s==([38]:List UInt8)))))] trivial V V fun _=>zi 1 1 (fun c9=>?_) fun c9=>?_
 ·try simp only[BS]at c9
  refine wr 1 [] 4 5 [] [(4,(.int _ 9)),(5,(.bool false))] trivial V V fun _=>ae ⟨.inr V,_,V,9,_,V,V,(by(simp_all[opQ,opT,opL,List.find?];done)),(by(simp_all[opQ,opT,opL,List.find?];done))⟩
 try simp only[BS]at c9
 refine wr 1 [] 27 33 [] [(27,(.bool (((k:Int)==3)&&(s==([61,61]:List UInt8)))))] trivial V V fun _=>zi 1 1 (fun E=>?_) fun E=>?_
 ·try simp only[BS]at E
  refine wr 1 [] 4 5 [] [(4,(.int _ 15)),(5,(.bool false))] trivial V V fun _=>ae ⟨.inr V,_,V,15,_,V,V,(by(simp_all[opQ,opT,opL,List.find?];done)),(by(simp_all[opQ,opT,opL,List.find?];done))⟩
 try simp only[BS]at E
 refine wr 1 [] 34 40 [] [(34,(.bool (((k:Int)==3)&&(s==([33,61]:List UInt8)))))] trivial V V fun _=>zi 1 1 (fun O=>?_) fun O=>?_
 ·try simp only[BS]at O
  refine wr 1 [] 4 5 [] [(4,(.int _ 16)),(5,(.bool false))] trivial V V fun _=>ae ⟨.inr V,_,V,16,_,V,V,(by(simp_all[opQ,opT,opL,List.find?];done)),(by(simp_all[opQ,opT,opL,List.find?];done))⟩
 try simp only[BS]at O
 refine wr 1 [] 41 47 [] [(41,(.bool (((k:Int)==4)&&(s==([60]:List UInt8)))))] trivial V V fun _=>zi 1 1 (fun T=>?_) fun T=>?_
 ·try simp only[BS]at T
  refine wr 1 [] 4 5 [] [(4,(.int _ 17)),(5,(.bool false))] trivial V V fun _=>ae ⟨.inr V,_,V,17,_,V,V,(by(simp_all[opQ,opT,opL,List.find?];done)),(by(simp_all[opQ,opT,opL,List.find?];done))⟩
 try simp only[BS]at T
 refine wr 1 [] 48 54 [] [(48,(.bool (((k:Int)==4)&&(s==([60,61]:List UInt8)))))] trivial V V fun _=>zi 1 1 (fun U=>?_) fun U=>?_
 ·try simp only[BS]at U
  refine wr 1 [] 4 5 [] [(4,(.int _ 18)),(5,(.bool false))] trivial V V fun _=>ae ⟨.inr V,_,V,18,_,V,V,(by(simp_all[opQ,opT,opL,List.find?];done)),(by(simp_all[opQ,opT,opL,List.find?];done))⟩
 try simp only[BS]at U
 refine wr 1 [] 55 61 [] [(55,(.bool (((k:Int)==4)&&(s==([62]:List UInt8)))))] trivial V V fun _=>zi 1 1 (fun Y=>?_) fun Y=>?_
 ·try simp only[BS]at Y
  refine wr 1 [] 4 5 [] [(4,(.int _ 17)),(5,(.bool true))] trivial V V fun _=>ae ⟨.inr V,_,V,17,_,V,V,(by(simp_all[opQ,opT,opL,List.find?];done)),(by(simp_all[opQ,opT,opL,List.find?];done))⟩
 try simp only[BS]at Y
 refine wr 1 [] 62 68 [] [(62,(.bool (((k:Int)==4)&&(s==([62,61]:List UInt8)))))] trivial V V fun _=>zi 1 5 (fun Z=>?_) fun Z=>?_
 ·try simp only[BS]at Z
  refine wr 1 [] 4 5 [] [(4,(.int _ 18)),(5,(.bool true))] trivial V V fun _=>ae ⟨.inr V,_,V,18,_,V,V,(by(simp_all[opQ,opT,opL,List.find?];done)),(by(simp_all[opQ,opT,opL,List.find?];done))⟩
 try simp only[BS]at Z
 refine wr 1 [] 69 75 [] [(69,(.bool (((k:Int)==5)&&(s==([60,60]:List UInt8)))))] trivial V V fun _=>zi 1 1 (fun al=>?_) fun al=>?_
 ·try simp only[BS]at al
  refine wr 1 [] 4 5 [] [(4,(.int _ 12)),(5,(.bool false))] trivial V V fun _=>ae ⟨.inr V,_,V,12,_,V,V,(by(simp_all[opQ,opT,opL,List.find?];done)),(by(simp_all[opQ,opT,opL,List.find?];done))⟩
 try simp only[BS]at al
 refine wr 1 [] 76 82 [] [(76,(.bool (((k:Int)==5)&&(s==([62,62]:List UInt8)))))] trivial V V fun _=>zi 1 1 (fun an=>?_) fun an=>?_
 ·try simp only[BS]at an
  refine wr 1 [] 4 5 [] [(4,(.int _ 14)),(5,(.bool false))] trivial V V fun _=>ae ⟨.inr V,_,V,14,_,V,V,(by(simp_all[opQ,opT,opL,List.find?];done)),(by(simp_all[opQ,opT,opL,List.find?];done))⟩
 try simp only[BS]at an
 refine wr 1 [] 83 89 [] [(83,(.bool (((k:Int)==5)&&(s==([62,62,62]:List UInt8)))))] trivial V V fun _=>zi 1 1 (fun ax=>?_) fun ax=>?_
 ·try simp only[BS]at ax
  refine wr 1 [] 4 5 [] [(4,(.int _ 13)),(5,(.bool false))] trivial V V fun _=>ae ⟨.inr V,_,V,13,_,V,V,(by(simp_all[opQ,opT,opL,List.find?];done)),(by(simp_all[opQ,opT,opL,List.find?];done))⟩
 try simp only[BS]at ax
 refine wr 1 [] 90 96 [] [(90,(.bool (((k:Int)==6)&&(s==([43]:List UInt8)))))] trivial V V fun _=>zi 1 1 (fun a0=>?_) fun a0=>?_
 ·try simp only[BS]at a0
  refine wr 1 [] 4 5 [] [(4,(.int _ 4)),(5,(.bool false))] trivial V V fun _=>ae ⟨.inr V,_,V,4,_,V,V,(by(simp_all[opQ,opT,opL,List.find?];done)),(by(simp_all[opQ,opT,opL,List.find?];done))⟩
 try simp only[BS]at a0
 refine wr 1 [] 97 103 [] [(97,(.bool (((k:Int)==6)&&(s==([45]:List UInt8)))))] trivial V V fun _=>zi 1 1 (fun a1=>?_) fun a1=>?_
 ·try simp only[BS]at a1
  refine wr 1 [] 4 5 [] [(4,(.int _ 5)),(5,(.bool false))] trivial V V fun _=>ae ⟨.inr V,_,V,5,_,V,V,(by(simp_all[opQ,opT,opL,List.find?];done)),(by(simp_all[opQ,opT,opL,List.find?];done))⟩
 try simp only[BS]at a1
 refine wT 1 [] 104 110 [] [(104,(.bool (((k:Int)==7)&&(s==([42]:List UInt8)))))] V fun _=>zi 1 1 (fun c45=>?_) fun c45=>?_
 ·try simp only[BS]at c45
  refine wT 1 [] 4 5 [] [(4,(iI 6)),(5,(.bool false))] V fun _=>ae ⟨.inr V,_,V,6,false,V,V,(by(simp_all[opQ,opT,opL,List.find?];done)),(by(simp_all[opQ,opT,opL,List.find?];done))⟩
 try simp only[BS]at c45
 refine wT 1 [] 111 117 [] [(111,(.bool (((k:Int)==7)&&(s==([47]:List UInt8)))))] V fun _=>zi 1 1 (fun c48=>?_) fun c48=>?_
 ·try simp only[BS]at c48
  refine wT 1 [] 4 5 [] [(4,(iI 7)),(5,(.bool false))] V fun _=>ae ⟨.inr V,_,V,7,false,V,V,(by(simp_all[opQ,opT,opL,List.find?];done)),(by(simp_all[opQ,opT,opL,List.find?];done))⟩
 try simp only[BS]at c48
 refine wT 1 [] 118 124 [] [(118,(.bool (((k:Int)==7)&&(s==([37]:List UInt8)))))] V fun _=>zi 1 3 (fun a2=>?_) fun a2=>?_
 ·try simp only[BS]at a2
  refine wT 1 [] 4 5 [] [(4,(iI 8)),(5,(.bool false))] V fun _=>ae ⟨.inr V,_,V,8,false,V,V,(by(simp_all[opQ,opT,opL,List.find?];done)),(by(simp_all[opQ,opT,opL,List.find?];done))⟩
 try simp only[BS]at a2
 refine wT 1 [] 4 5 [] [(4,(iI 0)),(5,(.bool false))] V fun _=>ae ⟨.inr V,_,V,0,false,V,V,(by(first|exact congrArg Prod.fst (kR (by intro q hq;simp only[opL,a0m,a0f,or_false]at hq;rcases hq with rfl|rfl|rfl|rfl|rfl|rfl|rfl|rfl|rfl|rfl|rfl|rfl|rfl|rfl|rfl|rfl|rfl<;>(intro e h;subst e;first|omega|simp_all))).symm|exact congrArg Prod.snd (kR (by intro q hq;simp only[opL,a0m,a0f,or_false]at hq;rcases hq with rfl|rfl|rfl|rfl|rfl|rfl|rfl|rfl|rfl|rfl|rfl|rfl|rfl|rfl|rfl|rfl|rfl<;>(intro e h;subst e;first|omega|simp_all))).symm)),(by(first|exact congrArg Prod.fst (kR (by intro q hq;simp only[opL,a0m,a0f,or_false]at hq;rcases hq with rfl|rfl|rfl|rfl|rfl|rfl|rfl|rfl|rfl|rfl|rfl|rfl|rfl|rfl|rfl|rfl|rfl<;>(intro e h;subst e;first|omega|simp_all))).symm|exact congrArg Prod.snd (kR (by intro q hq;simp only[opL,a0m,a0f,or_false]at hq;rcases hq with rfl|rfl|rfl|rfl|rfl|rfl|rfl|rfl|rfl|rfl|rfl|rfl|rfl|rfl|rfl|rfl|rfl<;>(intro e h;subst e;first|omega|simp_all))).symm))⟩
theorem ne(ex:FuncId)(k:Nat)(s:List UInt8)(H:Heap)(E:k<=8):kKt ex 96 [(iI (k:Int)),(tX s)] H fun v H'=>v=(.tuple ⟨[(iI ((opQ k s).1)),(.bool ((opQ k s).2))]⟩)/\H'=H:=
 cq (roperator_c ex k s H E) (by rintro _ _ ⟨_,_,rfl,rfl,rfl,rfl⟩;exact⟨V,V⟩)
variable (ts:List Token)
variable (ex:FuncId) {F:Fz} {H:Heap} {R:List Fp}
def l7(ex:FuncId)(N:Nat):Prop:=
 (∀{T:Option Addr} {U:Nat} {O:Nat} (r:PrsT) {F:Fz} {H:Heap} {R:List Fp} (Y:qa.Pr2 H O F T r U R ts) (Z:ErE ts r) (hm:12 *(ts.length-r.i.toNat)+11<N),C Tryz.prog 0 (KX ex) 55 [(pT O 0)] H (qb.Po4 F H O R fun x E=>(E.l=ts)/\(r.i<=E.i/\E.i<=(ts.length:Int))/\(E.fin=r.fin)/\(ErE ts E)/\(Oc (fun n=>cH ts n r.i.toNat) (bE r.e) r.i x E.i (bE E.e))))/\
 (∀{T:Option Addr} {U:Nat} {O:Nat} (r:PrsT) (k:Nat) {F:Fz} {H:Heap} {R:List Fp} (Y:qa.Pr2 H O F T r U R ts) (Z:ErE ts r) (hk:k<=8) (hm:12 *(ts.length-r.i.toNat)+(10-k)<N),C Tryz.prog 0 (KX ex) 80 [(pT O 0),(iI (k:Int))] H (qb.Po4 F H O R fun x E=>(E.l=ts)/\(r.i<=E.i/\E.i<=(ts.length:Int))/\(E.fin=r.fin)/\(ErE ts E)/\(Oc (fun n=>nO ts n k r.i.toNat) (bE r.e) r.i x E.i (bE E.e))))/\
 (∀{T:Option Addr} {U:Nat} {O:Nat} (r:PrsT) {F:Fz} {H:Heap} {R:List Fp} (Y:qa.Pr2 H O F T r U R ts) (Z:ErE ts r) (hm:12 *(ts.length-r.i.toNat)+1<N),C Tryz.prog 0 (KX ex) 95 [(pT O 0)] H (qb.Po4 F H O R fun x E=>(E.l=ts)/\(r.i<=E.i/\E.i<=(ts.length:Int))/\(E.fin=r.fin)/\(ErE ts E)/\(Oc (fun n=>kA ts n r.i.toNat) (bE r.e) r.i x E.i (bE E.e))))/\
 (∀{T:Option Addr} {U:Nat} {O:Nat} (r:PrsT) {F:Fz} {H:Heap} {R:List Fp} (Y:qa.Pr2 H O F T r U R ts) (Z:ErE ts r) (hm:12 *(ts.length-r.i.toNat)<N),C Tryz.prog 0 (KX ex) 105 [(pT O 0)] H (qb.Po4 F H O R fun x E=>(E.l=ts)/\(r.i<=E.i/\E.i<=(ts.length:Int))/\(E.fin=r.fin)/\(ErE ts E)/\(Oc (fun n=>(if isS ts r.i.toNat [40]=true then bnd (cH ts n (r.i.toNat+1)) (fun x i=>bnd (eS ts [41] i) fun _ i=> .ok (x,i)) else priM ts n r.i.toNat)) (bE r.e) r.i x E.i (bE E.e))))
theorem rexpr_c_s{ck:Option Addr}{c7:Nat}{ar:Nat}(r:PrsT)(h0:qa.Pr2 H ar F ck r c7 R ts)(hE:ErE ts r)(N:Nat)(ih:l7 ts ex N)(hm:12 *(ts.length-r.i.toNat)+11<N+1):kKt ex 55 [(pT ar 0)] H (qb.Po4 F H ar R fun x r'=>(r'.l=ts)/\(r.i<=r'.i/\r'.i<=(ts.length:Int))/\(r'.fin=r.fin)/\(ErE ts r')/\(Oc (fun n=>cH ts n r.i.toNat) (bE r.e) r.i x r'.i (bE r'.e))):=by
 obtain⟨hs,ds,ka,kc,kd,ki,cv,kl,hta,hts,hat,kk⟩:=h0;refine av Tryz.func55 V V (ai 1 V (ab (zn hs V fun b1 H2 ch=>ah 2 V (ab ?_))));refine zm (pT ar 0) (zc (ih.2.1 r 0 (.mk (g_ ch V) ds) M M M) ?_);rintro _ H3 ⟨x3,g2,g8,E,g1,g7,F3,b9,b5,rfl,fu,f1,f2,O,g3,g4,g5,g6,Z,h2,h3,h5,h4,a5⟩;replace b5:=ch.bO b5;refine zn b5 V fun b4 H5 f3=>sgo 1 3 1 0 [] [] (Hr_ 3 2 Hn_) f3 V V fun h6 H6 a6=>ah 3 V (wr 1 [(1,.o (.bool (atB ts E 0 _)))] 8 10 [] [(10,(.bool (!(atB ts E 0 _))))] (vA (qa.bZ ts ex E 0 _ (HS.call a6) (h_ a6 V) Z M M M M M M M M M M M) trivial) V V fun _=>zi 1 2 (fun c8=>?_) fun c8=>?_)
 ·try simp only[BS]at c8
  have c9:=jv (r:=E) cv V c8;refine sgr 1 11 11 [] [] (Hr_ 0 2 (Hr_ 1 1 Hn_)) a6 V V fun h7 H9 ci=>ae ⟨.inr V,_,(rC V (bS V V (i_ ci V) V) rN),x3,_,_,E,_,_,_,(b9),(HS.first ci),V,M,M,M,O,M,M,M,M,Z,M,M,M,M,(by(refine Oc.succ ?_ (fun _=>cH.eq_2 ..);(try dsimp only at a5);refine Oc.seq a5 ?_;refine Oc.iteF c9 ?_;exact Oc.val M (fun _=>by rfl)))⟩
 try simp only[BS]at c8
 have a4:=at_S (r:=E) cv V c8;have hx:=hO (r:=E) M c8;have hw:=a4.1;refine sgr 2 12 18 [] [] (Hr_ 3 0 (Ha_ (vi) (Hr_ 7 0 Hn_))) a6 V V fun hp hG bl=>ab (zm (pT ar 0) (zc (ih.1 (⟨E.l,E.i+1,E.fin,(⟨E.e.why,E.e.at_⟩:ErrT)⟩:PrsT) (.mk (g_ bl V) Z) (cp X X) M) ?_))
 rintro _ hH ⟨f9,e0,f7,hy,et,f5,hA,ba,a2,rfl,dk,dn,dt,T,e2,e3,e4,e5,b7,g9,cm,cw,co,al⟩;replace a2:=bl.bO a2;try dsimp only at cm
 try dsimp only at co
 try dsimp only at al
 try dsimp only at cw
 refine zn a2 V fun hX hI c3=>sgo 1 3 1 0 [] [] (Hr_ 3 3 Hn_) c3 V V fun hq hJ b0=>ah 2 V (ab (zm (pT ar 0) (zc (qb.aP ts ex _ _ (.mk (g_ b0 V) b7) M) ?_)))
 rintro _ hK ⟨hz,ez,f6,hB,a0,Y,rfl,e6,e7,e8,fb,b8,hl,he,hg,hn,hj,an⟩;replace Y:=b0.bO Y;rw[cI cv (w:=[58]) rfl]at an;refine ah 2 V (ab (zm (pT ar 0) (zc (ih.1 _ (.mk (g_ Y V) b8) M M) ?_)));rintro _ hQ ⟨gm,e1,f8,dd,a9,b6,hD,a1,a3,rfl,d1,d2,d3,a8,fd,fi,fk,fl,U,hf,hh,ho,hk,ax⟩;replace a3:=Y.bO a3;replace T:=(T.mono a0).mono a1;replace O:=((O.mono ba).mono a0).mono a1;refine zn a3 V fun h1 hS c4=>sgo 1 3 1 0 [] [] (Hr_ 3 4 Hn_) c4 V V fun hr hT b2=>ah 2 V (ab (fQ 3 0 25 27 [] [(25,(aG [_,_,_,_,_])),(26,(aG [_,_,_,_,_])),(27,(aG [_,_,_,_,_]))] (Hr_ 0 2 (Hr_ 1 3 (Hr_ 2 4 Hn_))) b2 V V fun _=>zlo _ b2 V (RL.cs (ExpT.mq O) (RL.cs (ExpT.mq T) (RL.cs (ExpT.mq a8) RL.nl))) V fun em f4 h8 hV cL c5=>?_))
 refine sgo 2 4 29 29 [] [] (Hr_ 5 1 Hn_) c5 V V fun ht hW b3=>ah 1 V ?_
 obtain⟨hF,bb,c6,c0,hv⟩:=OS.frz cL b3 (i:=5) V;replace U:=U.mono bb;refine ae ⟨.inr V,_,(rC V (bS V V (i_ b3 V) V) rN),(⟨5,0,⟨[]⟩,0,([x3,f9,gm]:List ExpT)⟩:ExpT),em,f4,dd,a9,b6,_,(fT (fT (fT (fT (b9) ba) a0) a1) bb),(HS.first c6),V,M,M,M,c0,M,M,M,M,U,M,M,M,M,(by(refine Oc.succ ?_ (fun _=>cH.eq_2 ..);(try dsimp only at a5);refine Oc.seq a5 ?_;refine Oc.yes a4 ?_;rw[aU a4 M];(try dsimp only at al);refine Oc.seq al ?_;(try dsimp only at an);refine Oc.seq an ?_;(try dsimp only at ax);first|exact ax|(refine Oc.seq ax ?_;exact Oc.val M (fun _=>by rfl))))⟩
theorem rbinary_c_s{e3:Option Addr}{f6:Nat}{a6:Nat}(r:PrsT)(k:Nat)(h0:qa.Pr2 H a6 F e3 r f6 R ts)(hE:ErE ts r)(hk:k<=8)(N:Nat)(ih:l7 ts ex N)(hm:12 *(ts.length-r.i.toNat)+(10-k)<N+1):kKt ex 80 [(pT a6 0),(iI (k:Int))] H (qb.Po4 F H a6 R fun x r'=>(r'.l=ts)/\(r.i<=r'.i/\r'.i<=(ts.length:Int))/\(r'.fin=r.fin)/\(ErE ts r')/\(Oc (fun n=>nO ts n k r.i.toNat) (bE r.e) r.i x r'.i (bE r'.e))):=by
 obtain⟨hs,df,oh,oi,oj,ol,oo,ot,hta,hts,hat,oq⟩:=h0;refine av Tryz.func80 V V (ai 1 V (ab (zn hs V fun b1 H2 b3=>ah 3 V (wr 1 [] 9 10 [] [(10,(.bool (decide ((7:Int)<(k:Int)))))] trivial V V fun _=>?_))));refine zd 1 2 (fun c4=>?_) fun c4=>?_
 ·refine ab (zm (pT a6 0) (zc (ih.2.2.1 r (.mk (g_ b3 V) df) M M) ?_));rintro _ H5 ⟨x5,ht,hK,ho,hr,hJ,F5,g7,c6,rfl,g8,g9,he,co,hz,hA,hB,hD,et,k4,k6,la,k8,b7⟩;replace c6:=b3.bO c6;refine sgo 1 2 1 0 [] [] (Hr_ 2 1 Hn_) c6 V V fun lr H6 e2=>ah 1 V (ae ⟨.inr V,_,(rC V (bS V V (i_ e2 V) V) rN),x5,_,_,ho,_,_,_,(g7),(HS.first e2),V,M,M,M,co,M,M,M,M,et,M,M,M,M,(by(refine Oc.succ ?_ (fun _=>nO.eq_2 ..);refine Oc.iteT (fun _=>show k=8 by omega) ?_;(try dsimp only at b7);first|exact b7|(refine Oc.seq b7 ?_;exact Oc.val M (fun _=>by rfl))))⟩)
 refine ab (dA 3 0 13 15 [] [(13,(pT a6 0)),(15,(.int _ _))] (Ha_ (vi) Hn_) V V fun _=>zc (ih.2.1 r (k+1) (.mk (g_ b3 V) df) M M M) ?_);rintro _ H8 ⟨x8,d1,d3,hp,dt,d2,F8,e1,c7,rfl,hf,hg,hh,cw,hF,hG,hH,hI,ez,k5,k7,ll,k9,b8⟩;replace c7:=b3.bO c7;refine zn c7 V fun b9 i7 fi=>sgo 1 5 1 0 [] [] (Hr_ 5 2 Hn_) fi V V fun hX i8 fk=>ah 3 V (aq (fun(mm:Nat) f H'=> ∃(a:ExpT) (rr:PrsT) (E:Option Addr) (T:Nat) (O:Option Addr) (U:Nat) (F':Fz),Fz.le F8 F'/\HS _ F' H' [[(a6,.cells [(sL E rr.l.length T),(.int _ rr.i),(.int _ rr.fin),(.int _ rr.e.why),(.int _ rr.e.at_)] _ _)],[(b1,.cells [_,_,(tX []),_,_] _ _)],[(b9,.cells [(.int _ a.kind),(.int _ a.n),(tX a.name.b),(.int _ a.op),(sL O a.kids.length U)] _ _)]] R/\SR F' (sL E rr.l.length T) rr.l/\SR F' (sL O a.kids.length U) a.kids/\aJ f [(0,(pT a6 0)),(1,(iI (k:Int))),(4,(pT b1 0)),(5,(pT b9 0))]/\mm=ts.length-rr.i.toNat/\(rr.l=ts)/\(r.i<=rr.i/\rr.i<=(ts.length:Int))/\(rr.fin=r.fin)/\(ErE ts rr)/\(in64 rr.e.why)/\(in64 rr.e.at_)/\(in64 a.kind)/\(in64 a.n)/\(in64 a.op)/\(∀x i9 b9,Oc (fun n=>gY ts n k a rr.i.toNat) (bE rr.e) rr.i x i9 b9->Oc (fun n=>nO ts n k r.i.toNat) (bE r.e) r.i x i9 b9)) _ ⟨x8,hp,dt,d2,d1,d3,_,fR,fk,ez,cw,⟨V,V,V,V,trivial⟩,V,M,M,M,M,M,M,X,X,X,(by intro x9 i9 b9 h9;refine Oc.succ ?_ (fun _=>nO.eq_2 ..);refine Oc.iteF (fun _=>show ¬k=8 by omega) ?_;(try dsimp only at b8);first|exact b8|(refine Oc.seq b8 ?_;exact h9))⟩ ?_)
 rintro it k3 e0 ⟨a,rr,E,T,O,U,i3,a3,Z,Y,al,cm,rfl,a1,hj,mp,hlE,l5,mg,l0,l2,l3,hw⟩ dk;refine az _ cm (fun _=>?_);clear cm;refine ai 2 V ?_;obtain⟨hT,c8⟩:=Sv.view (SR.sv Y Z);obtain⟨hu,hv⟩:=Token.fx (c8 rr.i.toNat);refine wrDp 1 17 44 [] [(44,(.bool ((!bE rr.e&&(decide (rr.i<(rr.l.length:Int))))&&((rr.l.getD rr.i.toNat default).kind==3))))] (Hc_ 1 (qa.fc ex rr {e0 with log:=[]} (hc0 (HS.hc Z (i:=0) rfl)) M M M M) (Ho_ 6 (.o (iI rr.i)) (fun(g1:(!bE rr.e)=true)=>(ql 3 1 (hc0 (HS.hc Z (i:=0) rfl)) rfl rfl)) (Ho_ 10 (.o (sL E rr.l.length T)) (fun(g1:(!bE rr.e)=true)=>(ql 48 0 (hc0 (HS.hc Z (i:=0) rfl)) rfl rfl)) (Ho_ 18 (.o (sL E rr.l.length T)) (fun(g1:(!bE rr.e&&(decide (rr.i<(rr.l.length:Int))))=true)=>(ql 48 0 (hc0 (HS.hc Z (i:=0) rfl)) rfl rfl)) (Ho_ 22 (.o (iI rr.i)) (fun(g1:(!bE rr.e&&(decide (rr.i<(rr.l.length:Int))))=true)=>(ql 3 1 (hc0 (HS.hc Z (i:=0) rfl)) rfl rfl)) (Ha_ (fun(g1:(!bE rr.e&&(decide (rr.i<(rr.l.length:Int))))=true)=>(Sv.ix (j:=rr.i) (SR.sv Y Z) (by(try simp only[BS]at g1);(first|(dsimp only;omega)|omega|(rw[hts];omega))) (by(try simp only[BS]at g1);(first|(dsimp only;omega)|omega|(rw[hts];omega))))) (Ho_ 25 (.o (iI (rr.l.getD rr.i.toNat default).kind)) (fun(g1:(!bE rr.e&&(decide (rr.i<(rr.l.length:Int))))=true)=>(ql 3 0 (hc0 (Token.vw (c8 rr.i.toNat) (by(try simp only[BS]at g1);(first|(dsimp only;omega)|omega|(rw[hts];omega))))) V V)) Hn_))))))) V (by kernel_rfl) V fun _=>zi 3 5 (fun a7=>?_) fun a7=>?_
 ·try simp only[BS]at a7
  have o0:=a7;have b4:=o0.1.1;have ms:rr.i<(ts.length:Int):=by have:=o0.1.2;rw[a1]at this;exact this
  obtain⟨hV,c9⟩:=Sv.view (SR.sv Y Z);obtain⟨hx,hy⟩:=Token.fx (c9 rr.i.toNat);refine sdr0 3 45 60 [6,7] [(6,(iI ((opQ k (rr.l.getD rr.i.toNat default).text.b).1))),(7,(.bool ((opQ k (rr.l.getD rr.i.toNat default).text.b).2)))] (Hr_ 4 0 (Hr_ 8 0 (Ha_ (Sv.ix (j:=rr.i) (SR.sv Y Z)) (Hl_ 11 (ql 9 1 (hc0 (Token.vw (c9 rr.i.toNat) M)) V V) (Hc_ 12 (ne ex k (rr.l.getD rr.i.toNat default).text.b {e0 with log:=[]} M) Hn_))))) Z rfl rfl rfl fun _=>wT 1 [] 61 62 [] [(62,(.bool ((opQ k (rr.l.getD rr.i.toNat default).text.b).1==0)))] rfl fun _=>zi 6 2 (fun a8=>?_) fun a8=>?_
  ·try simp only[BS]at a8
   refine sgr 1 82 82 [] [] (Hr_ 0 2 (Hr_ 1 1 Hn_)) Z V V fun h1 jw cL=>ae ⟨.inr V,_,(rC V (bS V V (i_ cL V) V) rN),a,O,U,rr,E,T,_,(fT (e1) a3),(HS.first cL),V,M,M,M,al,M,M,M,M,Y,M,M,M,M,(by(refine hw _ _ _ ?_;refine Oc.succ ?_ (fun _=>gY.eq_2 ..);refine Oc.iteT (fun _=>opQ_n2 a1 o0.2 a8) ?_;exact Oc.val M (fun _=>by rfl)))⟩
  try simp only[BS]at a8
  have o1:=opQ_y a1 o0.2 a8;refine sgr 2 63 69 [] [] (Hr_ 3 0 (Ha_ (vi (n:=rr.i+1)) (Hr_ 7 0 Hn_))) Z V V fun h2 j2 c0=>ab (dA 3 0 70 72 [] [(70,(pT a6 0)),(72,(iI ((k:Int)+1)))] (Ha_ (vi (n:=(k:Int)+1)) Hn_) (by kernel_rfl) V fun _=>zc (ih.2.1 (⟨rr.l,rr.i+1,rr.fin,(⟨rr.e.why,rr.e.at_⟩:ErrT)⟩:PrsT) (k+1) (.mk (g_ c0 V) Y) (cp X X) M M) ?_)
  rintro _ ka ⟨an,a5,bb,dn,a4,ba,i4,bl,b0,rfl,f7,f8,f9,a2,g3,g4,g5,g6,ax,hW,e4,e6,e5,a0⟩;replace b0:=c0.bO b0;replace al:=al.mono bl;try dsimp only at e4
  try dsimp only at e5
  try dsimp only at a0
  try dsimp only at e6
  refine zn b0 V fun k0 kc fl=>sgo 1 5 1 0 [] [] (Hr_ 5 3 Hn_) fl V V fun h3 kd b2=>ah 3 V (wT 1 [] 74 74 [] [(74,(.bool ((opQ k (rr.l.getD rr.i.toNat default).text.b).2)))] V fun _=>zi 0 1 (fun b6=>?_) fun b6=>?_)
  ·try simp only[BS]at b6
   refine sgr 1 75 76 [] [] (Hr_ 0 3 (Hr_ 1 2 (Hr_ 2 2 (Hr_ 3 3 Hn_)))) b2 V V fun h4 ki c3=>ab (fQ 3 0 77 79 [] [(77,(iI ((opQ k (rr.l.getD rr.i.toNat default).text.b).1))),(78,(aG [(iI an.kind),(iI an.n),(tX an.name.b),(iI an.op),(sL a5 an.kids.length bb)])),(79,(aG [(iI a.kind),(iI a.n),(tX a.name.b),(iI a.op),(sL O a.kids.length U)]))] (Hr_ 1 2 (Hr_ 2 3 Hn_)) c3 V V fun _=>zlo ([an,a]:List ExpT) c3 V (RL.cs (ExpT.mq a2) (RL.cs (ExpT.mq al) RL.nl)) V fun gm hl mx kk e7 fu=>sgo 2 4 81 81 [] [] (Hr_ 5 2 Hn_) fu V V fun h5 kl f1=>ah 2 V ?_)
   obtain⟨i5,ci,f2,fb,ib⟩:=OS.frz e7 f1 (i:=4) V;replace ax:=ax.mono ci;refine dk _ _ _ ?_ ⟨(⟨4,0,⟨[]⟩,(opQ k (rr.l.getD rr.i.toNat default).text.b).1,([an,a]:List ExpT)⟩:ExpT),dn,a4,ba,gm,hl,_,(fT (fT (a3) bl) ci),(HS.sub f2 (a05 _ _)),ax,fb,⟨V,V,V,V,trivial⟩,V,M,M,M,M,M,M,(by(show in64 4;decide)),(by(show in64 0;decide)),(opQ_in _ _),(by intro x9 i9 b9 h9;refine hw _ _ _ ?_;refine Oc.succ ?_ (fun _=>gY.eq_2 ..);refine Oc.yesF ⟨b4,o1,(rfl:rr.i+1=rr.i+1),b4⟩ ?_;rw[show rr.i.toNat+1=(rr.i+1).toNat by omega];(try dsimp only at a0);first|exact a0|(refine Oc.seq a0 ?_;(try rw[mkQ_f (k:=k) a1 o1 X]);(try rw[mkQ_t (k:=k) a1 o1 X]);exact h9))⟩;omega
  try simp only[BS]at b6
  refine ab (fQ 3 0 77 79 [] [(77,(iI ((opQ k (rr.l.getD rr.i.toNat default).text.b).1))),(78,(aG [(iI a.kind),(iI a.n),(tX a.name.b),(iI a.op),(sL O a.kids.length U)])),(79,(aG [(iI an.kind),(iI an.n),(tX an.name.b),(iI an.op),(sL a5 an.kids.length bb)]))] (Hr_ 1 2 (Hr_ 2 3 Hn_)) b2 V V fun _=>zlo ([a,an]:List ExpT) b2 V (RL.cs (ExpT.mq al) (RL.cs (ExpT.mq a2) RL.nl)) V fun go hn m0 kn e8 f3=>sgo 2 4 81 81 [] [] (Hr_ 5 2 Hn_) f3 V V fun h6 kt f4=>ah 2 V ?_);obtain⟨i6,ck,f5,fd,ik⟩:=OS.frz e8 f4 (i:=4) V;replace ax:=ax.mono ck;refine dk _ _ _ ?_ ⟨(⟨4,0,⟨[]⟩,(opQ k (rr.l.getD rr.i.toNat default).text.b).1,([a,an]:List ExpT)⟩:ExpT),dn,a4,ba,go,hn,_,(fT (fT (a3) bl) ck),(HS.sub f5 (a05 _ _)),ax,fd,⟨V,V,V,V,trivial⟩,V,M,M,M,M,M,M,(by(show in64 4;decide)),(by(show in64 0;decide)),(opQ_in _ _),(by intro x9 i9 b9 h9;refine hw _ _ _ ?_;refine Oc.succ ?_ (fun _=>gY.eq_2 ..);refine Oc.yesF ⟨b4,o1,(rfl:rr.i+1=rr.i+1),b4⟩ ?_;rw[show rr.i.toNat+1=(rr.i+1).toNat by omega];(try dsimp only at a0);first|exact a0|(refine Oc.seq a0 ?_;(try rw[mkQ_f (k:=k) a1 o1 X]);(try rw[mkQ_t (k:=k) a1 o1 X]);exact h9))⟩;omega
 try simp only[BS]at a7
 refine sgr 1 82 82 [] [] (Hr_ 0 2 (Hr_ 1 1 Hn_)) Z V V fun h7 kx c5=>ae ⟨.inr V,_,(rC V (bS V V (i_ c5 V) V) rN),a,O,U,rr,E,T,_,(fT (e1) a3),(HS.first c5),V,M,M,M,al,M,M,M,M,Y,M,M,M,M,(by(refine hw _ _ _ ?_;refine Oc.succ ?_ (fun _=>gY.eq_2 ..);refine Oc.iteT (fun hb=>opQ_n1 a1 hat.1 hj.1 a7 hb) ?_;exact Oc.val M (fun _=>by rfl)))⟩
theorem runary_c_s{em:Option Addr}{f9:Nat}{a2:Nat}(r:PrsT)(h0:qa.Pr2 H a2 F em r f9 R ts)(hE:ErE ts r)(N:Nat)(ih:l7 ts ex N)(hm:12 *(ts.length-r.i.toNat)+1<N+1):kKt ex 95 [(pT a2 0)] H (qb.Po4 F H a2 R fun x r'=>(r'.l=ts)/\(r.i<=r'.i/\r'.i<=(ts.length:Int))/\(r'.fin=r.fin)/\(ErE ts r')/\(Oc (fun n=>kA ts n r.i.toNat) (bE r.e) r.i x r'.i (bE r'.e))):=by
 obtain⟨hs,ar,oQ,oR,oS,oT,a3,oW,hta,hts,hat,oV⟩:=h0;refine av Tryz.func95 V V (ai 1 V (ab (zn hs V fun b1 H2 E=>ah 4 V (wr 1 [(1,.o (.bool (atB ts r 0 _))),(4,.o (.bool (amQ ts r 1)))] 3 9 [] [(3,(.bool (atB ts r 0 _&&amQ ts r 1)))] (vA (qa.bZ ts ex r 0 _ (HS.call E) (h_ E V) ar M M M M M M M M M M M) (vA (fun(g1:_)=>(qa.mv ts ex r 1 (HS.call E) (h_ E V) ar (by(try simp only[BS]at g1);(first|(dsimp only;omega)|omega|(rw[hts];omega))) (by(try simp only[BS]at g1);(first|(dsimp only;omega)|omega|(rw[hts];omega))) (by(try simp only[BS]at g1);(first|(dsimp only;omega)|omega|(rw[hts];omega))) (by(try simp only[BS]at g1);(first|(dsimp only;omega)|omega|(rw[hts];omega))) M M M M M M M)) trivial)) V V fun _=>?_))));refine zi 1 1 (fun c4=>?_) fun c4=>?_
 ·try simp only[BS]at c4
  have cl:=at_S a3 V (c4).1;have ot:=hO hat.1 (c4).1;have ib:=cl.1;have d2:isM ts (r.i+1).toNat=true:=by rw[show(r.i+1).toNat=r.i.toNat+1 by omega];exact(amQ_t (c4).2).2
  have oX:=isM_lt M d2;refine sgr 2 10 16 [] [] (Hr_ 3 0 (Ha_ (vi) (Hr_ 7 0 Hn_))) E V V fun oa H5 dt=>ab (zm (pT a2 0) (zc (qb.rnumber_c ts ex (⟨r.l,r.i+1,r.fin,(⟨r.e.why,r.e.at_⟩:ErrT)⟩:PrsT) _ (.mk (g_ dt V) ar) (cp X X) X X) ?_))
  rintro _ H6 ⟨x6,i2,i8,ik,i1,i7,F6,hV,c0,rfl,hW,hX,h1,b9,i3,i4,i5,i6,dk,n9,ht,hv,hu,dn⟩;replace c0:=dt.bO c0;try dsimp only at ht
  try dsimp only at hu
  try dsimp only at dn
  try dsimp only at hv
  refine sgo 1 2 1 0 [] [] (Hr_ 2 1 Hn_) c0 V V fun ob H7 d1=>ah 1 V (ae ⟨.inr V,_,(rC V (bS V V (i_ d1 V) V) rN),x6,_,_,ik,_,_,_,(hV),(HS.first d1),V,M,M,M,b9,M,M,M,M,dk,M,M,M,M,(by(refine Oc.succ ?_ (fun _=>kA.eq_2 ..);refine Oc.yes cl ?_;rw[aU cl M];refine Oc.iteT (fun _=>d2) ?_;exact nuT hat.1 dn))⟩)
 try simp only[BS]at c4
 have c1:=c4;refine wr 1 [(1,.o (.bool (atB ts r 0 _)))] 19 21 [] [(19,(.bool (atB ts r 0 _)))] (vA (qa.bZ ts ex r 0 _ (HS.call E) (h_ E V) ar M M M M M M M M M M M) trivial) V V fun _=>zi 1 1 (fun c9=>?_) fun c9=>?_
 ·try simp only[BS]at c9
  have cl:=at_S a3 V c9;have ot:=hO hat.1 c9;have ib:=cl.1;refine sgr 2 22 28 [] [] (Hr_ 3 0 (Ha_ (vi) (Hr_ 7 0 Hn_))) E V V fun kx m0 ch=>ab (zm (pT a2 0) (zc (ih.2.2.1 (⟨r.l,r.i+1,r.fin,(⟨r.e.why,r.e.at_⟩:ErrT)⟩:PrsT) (.mk (g_ ch V) ar) (cp X X) M) ?_))
  rintro _ m1 ⟨og,hp,h7,lr,hn,h5,l3,e7,a5,rfl,g2,g3,g4,bb,hw,hx,hy,hz,O,kc,et,e4,e1,al⟩;replace a5:=ch.bO a5;try dsimp only at et
  try dsimp only at e1
  try dsimp only at al
  try dsimp only at e4
  refine zlo _ a5 V (RL.cs (ExpT.mq bb) RL.nl) V fun hj h2 oc m2 fi f3=>sgo 2 3 32 32 [] [] (Hr_ 4 1 Hn_) f3 V V fun k0 m3 ci=>ah 1 V ?_
  obtain⟨l5,b6,f4,fu,k9⟩:=OS.frz fi ci (i:=2) V;replace O:=O.mono b6;refine ae ⟨.inr V,_,(rC V (bS V V (i_ ci V) V) rN),(⟨4,0,_,20,_⟩:ExpT),hj,h2,_,_,_,_,(fT (e7) b6),(HS.first f4),V,M,M,M,fu,M,M,M,M,O,M,M,M,M,(by(refine Oc.succ ?_ (fun _=>kA.eq_2 ..);refine Oc.yes cl ?_;rw[aU cl M];refine Oc.iteF (fun hb=>um_n hat.1 (c1 c9) hb) ?_;(try dsimp only at al);first|exact al|(refine Oc.seq al ?_;exact Oc.val M (fun _=>by rfl))))⟩
 try simp only[BS]at c9
 have a9:=jv (r:=r) a3 V c9;refine wr 1 [(1,.o (.bool (atB ts r 0 _)))] 33 35 [] [(33,(.bool (atB ts r 0 _)))] (vA (qa.bZ ts ex r 0 _ (HS.call E) (h_ E V) ar M M M M M M M M M M M) trivial) V V fun _=>zi 1 1 (fun Y=>?_) fun Y=>?_
 ·try simp only[BS]at Y
  have a0:=at_S (r:=r) a3 V Y;have j2:=hO (r:=r) M Y;have i9:=a0.1;refine sgr 2 36 42 [] [] (Hr_ 3 0 (Ha_ (vi) (Hr_ 7 0 Hn_))) E V V fun k3 nc ck=>ab (zm (pT a2 0) (zc (ih.2.2.1 (⟨r.l,r.i+1,r.fin,(⟨r.e.why,r.e.at_⟩:ErrT)⟩:PrsT) (.mk (g_ ck V) ar) (cp X X) M) ?_))
  rintro _ nm ⟨oh,hq,h8,l0,ho,h6,mg,e8,a6,rfl,g5,g6,g7,bl,hA,hB,hD,hF,T,kd,ez,e5,e2,an⟩;replace a6:=ck.bO a6;try dsimp only at ez
  try dsimp only at e2
  try dsimp only at an
  try dsimp only at e5
  refine zlo _ a6 V (RL.cs (ExpT.mq bl) RL.nl) V fun hk h3 od nn fk f5=>sgo 2 3 46 46 [] [] (Hr_ 4 1 Hn_) f5 V V fun k4 n1 cm=>ah 1 V ?_
  obtain⟨mm,b7,f6,f1,la⟩:=OS.frz fk cm (i:=2) V;replace T:=T.mono b7;refine ae ⟨.inr V,_,(rC V (bS V V (i_ cm V) V) rN),(⟨4,0,_,21,_⟩:ExpT),hk,h3,_,_,_,_,(fT (e8) b7),(HS.first f6),V,M,M,M,f1,M,M,M,M,T,M,M,M,M,(by(refine Oc.succ ?_ (fun _=>kA.eq_2 ..);refine Oc.iteF a9 ?_;refine Oc.yes a0 ?_;rw[aU a0 M];(try dsimp only at an);first|exact an|(refine Oc.seq an ?_;exact Oc.val M (fun _=>by rfl))))⟩
 try simp only[BS]at Y
 have ba:=jv (r:=r) a3 V Y;refine wU 1 [(1,.o (.bool (atB ts r 0 [33])))] 47 49 [] [(47,(.bool (atB ts r 0 [33])))] (qa.bZ ts ex r 0 [33] (HS.call E) (h_ E V) ar M M M M M M M M M M M) V fun _=>zi 1 3 (fun Z=>?_) fun Z=>?_
 ·try simp only[BS]at Z
  have a1:=at_S (r:=r) a3 V Z;have ka:=hO (r:=r) M Z;have jw:=a1.1;refine sgr 2 50 56 [] [] (Hr_ 3 0 (Ha_ (vi (n:=r.i+1)) (Hr_ 7 0 Hn_))) E V V fun k5 n2 co=>ab (zm (pT a2 0) (zc (ih.2.2.1 (⟨r.l,r.i+1,r.fin,(⟨r.e.why,r.e.at_⟩:ErrT)⟩:PrsT) (.mk (g_ co V) ar) (cp X X) M) ?_))
  rintro _ n3 ⟨d3,hr,h9,gm,b3,c3,mp,fb,a7,rfl,g8,g9,he,b0,hG,hH,hI,hJ,U,ki,e0,e6,e3,ax⟩;replace a7:=co.bO a7;try dsimp only at e0
  try dsimp only at e3
  try dsimp only at ax
  try dsimp only at e6
  refine dA 1 2 59 59 [] [(59,(aG [(iI 1),(iI 0),(tX []),(iI 0),(sL none 0 0)]))] Hn_ (by kernel_rfl) V fun _=>zlo ([d3,(⟨1,0,⟨[]⟩,0,([]:List ExpT)⟩:ExpT)]:List ExpT) a7 V (RL.cs (ExpT.mq b0) (RL.cs (ExpT.mq SR.nil) RL.nl)) V fun hl h4 oe n4 fl f7=>sgo 2 4 61 61 [] [] (Hr_ 5 1 Hn_) f7 V V fun k6 n5 cw=>ah 1 V ?_
  obtain⟨ms,b8,f8,f2,ll⟩:=OS.frz fl cw (i:=2) V;replace U:=U.mono b8;refine ae ⟨.inr V,_,(rC V (bS V V (i_ cw V) V) rN),(⟨4,0,⟨[]⟩,15,([d3,(⟨1,0,⟨[]⟩,0,([]:List ExpT)⟩:ExpT)]:List ExpT)⟩:ExpT),hl,h4,gm,b3,c3,_,(fT (fb) b8),(HS.first f8),V,M,M,M,f2,M,M,M,M,U,M,M,M,M,(by(refine Oc.succ ?_ (fun _=>kA.eq_2 ..);refine Oc.iteF a9 ?_;refine Oc.iteF ba ?_;refine Oc.yes a1 ?_;rw[aU a1 M];(try dsimp only at ax);first|exact ax|(refine Oc.seq ax ?_;exact Oc.val M (fun _=>by rfl))))⟩
 try simp only[BS]at Z
 have dd:=jv (r:=r) a3 V Z;refine ab (zm (pT a2 0) (zc (ih.2.2.2 r (.mk (g_ E V) ar) M M) ?_));rintro _ n6 ⟨it,b5,c6,go,b4,c5,mx,fd,a8,rfl,hf,hg,hh,b2,hK,hQ,hS,hT,c7,kk,kl,kt,kn,a4⟩;replace a8:=E.bO a8;refine sgo 1 2 1 0 [] [] (Hr_ 2 1 Hn_) a8 V V fun k7 n7 cL=>ah 1 V (ae ⟨.inr V,_,(rC V (bS V V (i_ cL V) V) rN),it,b5,c6,go,b4,c5,_,(fd),(HS.first cL),V,M,M,M,b2,M,M,M,M,c7,M,M,M,M,(by(refine Oc.succ ?_ (fun _=>kA.eq_2 ..);refine Oc.iteF a9 ?_;refine Oc.iteF ba ?_;refine Oc.iteF dd ?_;(try dsimp only at a4);first|exact a4|(refine Oc.seq a4 ?_;exact Oc.val M (fun _=>by rfl))))⟩)
theorem rprimary_c_s{d1:Option Addr}{fb:Nat}{ar:Nat}(r:PrsT)(h0:qa.Pr2 H ar F d1 r fb R ts)(hE:ErE ts r)(N:Nat)(ih:l7 ts ex N)(hm:12 *(ts.length-r.i.toNat)<N+1):kKt ex 105 [(pT ar 0)] H (qb.Po4 F H ar R fun x r'=>(r'.l=ts)/\(r.i<=r'.i/\r'.i<=(ts.length:Int))/\(r'.fin=r.fin)/\(ErE ts r')/\(Oc (fun n=>(if isS ts r.i.toNat [40]=true then bnd (cH ts n (r.i.toNat+1)) (fun x i=>bnd (eS ts [41] i) fun _ i=> .ok (x,i)) else priM ts n r.i.toNat)) (bE r.e) r.i x r'.i (bE r'.e))):=by
 obtain⟨hs,a5,oe,og,oh,oi,b2,om,hta,hts,hat,ol⟩:=h0;refine av Tryz.func105 V V (ai 1 V (ab (zn hs V fun b1 H2 O=>ah 4 V (wr 1 [(1,.o (.bool (amQ ts r 0)))] 6 8 [] [(6,(.bool (amQ ts r 0)))] (vA (qa.mv ts ex r 0 (HS.call O) (h_ O V) a5 M M M M M M M M M M M) trivial) V V fun _=>?_))));refine zi 1 1 (fun c4=>?_) fun c4=>?_
 ·try simp only[BS]at c4
  have c1:=amQ_t c4;have nm:=c1.1;have dt:isM ts r.i.toNat=true:=c1.2;refine ab (zm (pT ar 0) (zc (qb.rnumber_c ts ex r _ (.mk (g_ O V) a5) M M M) ?_));rintro _ H5 ⟨x5,hI,hV,hF,hH,hT,F5,ht,co,rfl,hu,hv,hw,b7,hJ,hK,hQ,hS,dd,mx,m0,m2,m1,g1⟩;replace co:=O.bO co;refine sgo 1 2 1 0 [] [] (Hr_ 2 1 Hn_) co V V fun m3 H6 dk=>ah 1 V (ae ⟨.inr V,_,(rC V (bS V V (i_ dk V) V) rN),x5,_,_,hF,_,_,_,(ht),(HS.first dk),V,M,M,M,b7,M,M,M,M,dd,M,M,M,M,(by(refine Oc.iteF (fun _=>isM_nS dt) ?_;refine Oc.succ ?_ (fun _=>priM.eq_2 ..);refine Oc.iteT (fun _=>dt) ?_;exact nuF g1))⟩)
 try simp only[BS]at c4
 have c0:=c4;refine wr 1 [(1,.o (.bool (atB ts r 0 _)))] 11 13 [] [(11,(.bool (atB ts r 0 _)))] (vA (qa.bZ ts ex r 0 _ (HS.call O) (h_ O V) a5 M M M M M M M M M M M) trivial) V V fun _=>zi 1 3 (fun c8=>?_) fun c8=>?_
 ·try simp only[BS]at c8
  have bb:=at_S (r:=r) b2 V c8;have ki:=hO (r:=r) M c8;have kd:=bb.1;refine sgr 2 14 20 [] [] (Hr_ 3 0 (Ha_ (vi) (Hr_ 7 0 Hn_))) O V V fun nc H9 dn=>ab (zm (pT ar 0) (zc (ih.1 (⟨r.l,r.i+1,r.fin,(⟨r.e.why,r.e.at_⟩:ErrT)⟩:PrsT) (.mk (g_ dn V) a5) (cp X X) M) ?_))
  rintro _ k5 ⟨hG,gm,hD,kk,f6,hy,kt,e1,a8,rfl,fk,fl,fu,T,g2,g3,g4,g5,c3,h1,d2,ez,em,a6⟩;replace a8:=dn.bO a8;try dsimp only at d2
  try dsimp only at em
  try dsimp only at a6
  try dsimp only at ez
  refine zn a8 V fun mp k6 e5=>sgo 1 3 1 0 [] [] (Hr_ 3 2 Hn_) e5 V V fun i6 k7 b8=>ah 2 V (ab (zm (pT ar 0) (zc (qb.aP ts ex _ _ (.mk (g_ b8 V) c3) M) ?_)))
  rintro _ k8 ⟨kl,f7,hz,kx,b3,a9,rfl,g6,g7,g8,g9,c5,it,h2,h6,i3,h9,a0⟩;replace a9:=b8.bO a9;replace T:=T.mono b3;rw[cI b2 (w:=[41]) rfl]at a0;refine ah 2 V (sgr 1 25 25 [] [] (Hr_ 0 2 (Hr_ 1 1 Hn_)) a9 V V fun i7 k9 b9=>ae ⟨.inr V,_,(rC V (bS V V (i_ b9 V) V) rN),hG,_,_,_,_,_,_,(fT (e1) b3),(HS.first b9),V,M,M,M,T,M,M,M,M,c5,M,M,M,M,(by(refine Oc.yes bb ?_;rw[aU bb M];(try dsimp only at a6);refine Oc.seq a6 ?_;(try dsimp only at a0);first|exact a0|(refine Oc.seq a0 ?_;exact Oc.val M (fun _=>by rfl))))⟩)
 try simp only[BS]at c8
 refine ab (zm (pT ar 0) (zc (qb.gj ts ex r (.mk (g_ O V) a5) M) ?_));rintro _ la ⟨c7,E,f8,hA,f4,b4,Y,rfl,he,hf,hg,hh,Z,i1,h3,h7,i4,ib,a1⟩;replace Y:=O.bO Y;refine za (tX c7) (ah 3 V (wr 1 [(1,.o (.bool (atB ts _ 0 _)))] 28 30 [] [(30,(.bool (!(atB ts _ 0 _))))] (vA (qa.bZ ts ex _ 0 _ (HS.call Y) (h_ Y V) Z M M M M M M M M M M M) trivial) V V fun _=>zi 1 2 (fun ax=>?_) fun ax=>?_))
 ·try simp only[BS]at ax
  have c9:=jv (r:=E) b2 V ax;refine sgr 1 31 32 [] [] (Hr_ 2 1 Hn_) Y V V fun i8 ll ch=>ae ⟨.inr V,_,(rC V (bS V V (i_ ch V) V) rN),(⟨2,0,_,0,([]:List ExpT)⟩:ExpT),_,0,_,_,_,_,(b4),(HS.first ch),V,M,M,M,(SR.nil:SR f4 _ _),M,M,M,M,Z,M,M,M,M,(by(refine Oc.iteF (fun hb=>jv b2 V c8 hb) ?_;refine Oc.succ ?_ (fun _=>priM.eq_2 ..);refine Oc.iteF (fun hb=>amQ_n c0 hb) ?_;(try dsimp only at a1);refine Oc.seq a1 ?_;refine Oc.iteF c9 ?_;exact Oc.val M (fun _=>by rfl)))⟩
 try simp only[BS]at ax
 have a4:=at_S (r:=E) b2 V ax;have hX:=hO (r:=E) M ax;have hW:=a4.1;refine sgr 2 33 39 [] [] (Hr_ 3 0 (Ha_ (vi) (Hr_ 7 0 Hn_))) Y V V fun i9 lr ci=>ab (zm (pT ar 0) (zc (ih.1 (⟨E.l,E.i+1,E.fin,(⟨E.e.why,E.e.at_⟩:ErrT)⟩:PrsT) (.mk (g_ ci V) Z) (cp X X) M) ?_))
 rintro _ l0 ⟨an,b0,cL,fd,f9,hB,k0,e2,ba,rfl,f1,f2,f3,U,hj,hk,hl,hn,c6,h4,d3,e0,et,a7⟩;replace ba:=ci.bO ba;try dsimp only at d3
 try dsimp only at et
 try dsimp only at a7
 try dsimp only at e0
 refine zn ba V fun ms l2 e6=>sgo 1 3 1 0 [] [] (Hr_ 3 2 Hn_) e6 V V fun jw l3 ck=>ah 2 V (ab (zm (pT ar 0) (zc (qb.aP ts ex fd [93] (.mk (g_ ck V) c6) M) ?_)))
 rintro _ l5 ⟨fi,bl,cw,k3,b5,a3,rfl,ho,hp,hq,hr,al,i2,h5,h8,i5,ik,a2⟩;replace a3:=ck.bO a3;replace U:=U.mono b5;rw[cI b2 (w:=[93]) rfl]at a2;refine ah 2 V (ab (fQ 2 0 44 45 [] [(44,(tX c7)),(45,(aG [(iI an.kind),(iI an.n),(tX an.name.b),(iI an.op),(sL b0 an.kids.length cL)]))] (Hr_ 1 2 Hn_) a3 V V fun _=>zlo ([an]:List ExpT) a3 V (RL.cs (ExpT.mq U) RL.nl) V fun f5 hx nn mg e3 e7=>sgo 2 3 47 47 [] [] (Hr_ 4 1 Hn_) e7 V V fun j2 mm cm=>ah 1 V ?_));obtain⟨k4,b6,e8,e4,kc⟩:=OS.frz e3 cm (i:=3) V;replace al:=al.mono b6;refine ae ⟨.inr V,_,(rC V (bS V V (i_ cm V) V) rN),(⟨3,0,⟨c7⟩,0,([an]:List ExpT)⟩:ExpT),f5,hx,fi,bl,cw,_,(fT (fT (fT (b4) e2) b5) b6),(HS.first e8),V,M,M,M,e4,M,M,M,M,al,M,M,M,M,(by(refine Oc.iteF (fun hb=>jv b2 V c8 hb) ?_;refine Oc.succ ?_ (fun _=>priM.eq_2 ..);refine Oc.iteF (fun hb=>amQ_n c0 hb) ?_;(try dsimp only at a1);refine Oc.seq a1 ?_;refine Oc.yes a4 ?_;rw[aU a4 M];(try dsimp only at a7);refine Oc.seq a7 ?_;(try dsimp only at a2);first|exact a2|(refine Oc.seq a2 ?_;exact Oc.val M (fun _=>by rfl))))⟩
theorem ft(ex:FuncId): ∀N,l7 ts ex N
 |0=>⟨by intros;omega,by intros;omega,by intros;omega,by intros;omega⟩
 |N+1=>⟨by intros;apply rexpr_c_s ts ex (N:=N) (ih:=ft ex N)<;>assumption,by intros;apply rbinary_c_s ts ex (N:=N) (ih:=ft ex N)<;>assumption,by intros;apply runary_c_s ts ex (N:=N) (ih:=ft ex N)<;>assumption,by intros;apply rprimary_c_s ts ex (N:=N) (ih:=ft ex N)<;>assumption⟩
theorem fK{E:Option Addr}{O:Nat}{Y:Nat}(r:PrsT)(T:qa.Pr2 H Y F E r O R ts)(Z:ErE ts r):kKt ex 55 [(pT Y 0)] H (qb.Po4 F H Y R fun x U=>(U.l=ts)/\(r.i<=U.i/\U.i<=(ts.length:Int))/\(U.fin=r.fin)/\(ErE ts U)/\(Oc (fun n=>cH ts n r.i.toNat) (bE r.e) r.i x U.i (bE U.e))):=by apply(ft ts ex (12 *(ts.length-r.i.toNat)+11+1)).1<;>first|assumption|exact a0w _
end Go.Proofs.YtapgbjedgcpffaaGreat.qc
