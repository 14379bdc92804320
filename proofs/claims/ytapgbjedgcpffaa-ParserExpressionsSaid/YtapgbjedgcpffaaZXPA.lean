/-
The reader of the parser: its plain steps. No condition but that its place lies in the list.
-/
import Derived.Test.YtapgbjedgcpffaaZXL1
import Derived.Test.YtapgbjedgcpffaaZXPT
noncomputable section
namespace Go.Proofs.Ytapgbjedgcpffaa.pa
open Go.R
set_option maxRecDepth 10000
set_option linter.unusedVariables false
set_option linter.unusedSimpArgs false
open w1 w3 l1 pt
def nxT(r:RdrT):Token:=if r.bad=true\/(r.l.length:Int)<=r.at_ then default else r.l.getD r.at_.toNat default
theorem nx_no{r:RdrT}(h:r.bad=true\/(r.l.length:Int)<=r.at_):(⟨0,⟨[]⟩,0⟩:Token)=nxT r:=(if_pos h).symm
theorem nx_yes{r:RdrT}(h:r.bad=false/\¬(r.l.length:Int)<=r.at_):r.l.getD r.at_.toNat default=nxT r:=(if_neg (fun k=>k.elim (by rw[h.1];decide) h.2)).symm
def kc(l:List Token)(i h:Int):Int:=if i<(l.length:Int) then(l.getD i.toNat default).at_ else h
def isB(r:RdrT)(s:List UInt8):Bool:= !r.bad&&isS r.l r.at_.toNat s
def kwB(r:RdrT)(s:List UInt8):Bool:= !r.bad&&isK r.l r.at_.toNat s
def anB(r:RdrT):Bool:= !r.bad&&isN r.l r.at_.toNat
theorem jB{r:RdrT}:nxT r=if r.bad=true then default else r.l.getD r.at_.toNat default:=by
 unfold nxT;cases z:r.bad with
 |true=>simp
 |false=>
  by_cases h:(r.l.length:Int)<=r.at_
  ·rw[if_pos (.inr h),if_neg (by decide),bF (by omega)]
  rw[if_neg (by simp[h]),if_neg (by decide)]
theorem isB_of{r:RdrT}{s:List UInt8}:((nxT r).kind==3&&(nxT r).text.b==s)=isB r s:=by
 unfold isB isS;rw[jB,a0x];cases r.bad with
 |true=>simp;intro h;cases h
 |false=>simp
theorem anB_of{r:RdrT}:((nxT r).kind==1&& !(eG (nxT r).text.b))=anB r:=by
 unfold anB isN;rw[jB,a0x];cases r.bad with
 |true=>simp;intro h;cases h
 |false=>simp
theorem isB_lt{ts:List Token}{r:RdrT}{s:List UInt8}(A:r.l=ts)(E:0<=r.at_/\r.at_<=(ts.length:Int))(h:isB r s=true):r.at_<(ts.length:Int):=by
 unfold isB isS at h;rcases a0c r.at_.toNat r.l.length with z|z
 ·rw[A]at z;omega
 rw[bF z]at h;simp at h;exact absurd h.2.1 (by decide)
theorem anB_lt{ts:List Token}{r:RdrT}(A:r.l=ts)(E:0<=r.at_/\r.at_<=(ts.length:Int))(h:anB r=true):r.at_<(ts.length:Int):=by
 unfold anB isN at h;rcases a0c r.at_.toNat r.l.length with z|z
 ·rw[A]at z;omega
 rw[bF z]at h;simp at h;exact absurd h.2.1 (by decide)
theorem acc_y{ts:List Token}{r:RdrT}{s:List UInt8}(z:r.l=ts)(h:isB r s=true):isB r s=true->r.bad=false/\isS ts r.at_.toNat s=true/\r.at_+1=r.at_+1/\r.bad=false:=fun _=>by unfold isB at h;rw[a03,a0n,z]at h;exact⟨h.1,h.2,rfl,h.1⟩
theorem acc_n{ts:List Token}{r:RdrT}{s:List UInt8}(A:r.l=ts)(h:isB r s=false):isB r s=false->r.at_=r.at_/\r.bad=r.bad/\(r.bad=false->¬isS ts r.at_.toNat s=true):=fun _=>⟨rfl,rfl,fun z k=>by
 unfold isB at h;rw[z,A,k]at h;cases h⟩
theorem kwB_of{r:RdrT}{s:List UInt8}:kwB r s=true↔((nxT r).kind=1/\(nxT r).text.b=s):=by
 unfold kwB isK;rw[jB];cases r.bad with
 |true=>simp;intro h;cases h
 |false=>simp
theorem kwB_f{r:RdrT}{s:List UInt8}(h:(nxT r).kind≠1\/(nxT r).text.b≠s):kwB r s=false:=by
 cases e:kwB r s with
 |false=>rfl
 |true=>exact absurd (kwB_of.1 e) (fun k=>h.elim (fun h=>h k.1) fun h=>h k.2)
theorem kwB_t{r:RdrT}{s:List UInt8}(h:(nxT r).kind=1/\(nxT r).text.b=s):kwB r s=true:=kwB_of.2 h
theorem kwB_lt{ts:List Token}{r:RdrT}{s:List UInt8}(A:r.l=ts)(E:0<=r.at_/\r.at_<=(ts.length:Int))(h:kwB r s=true):r.at_<(ts.length:Int):=by
 unfold kwB isK at h;rcases a0c r.at_.toNat r.l.length with z|z
 ·rw[A]at z;omega
 rw[bF z]at h;simp at h;exact absurd h.2.1 (by decide)
theorem kac_y{ts:List Token}{r:RdrT}{s:List UInt8}(z:r.l=ts)(h:kwB r s=true):kwB r s=true->r.bad=false/\isK ts r.at_.toNat s=true/\r.at_+1=r.at_+1/\r.bad=false:=fun _=>by unfold kwB at h;rw[a03,a0n,z]at h;exact⟨h.1,h.2,rfl,h.1⟩
theorem kac_n{ts:List Token}{r:RdrT}{s:List UInt8}(A:r.l=ts)(h:kwB r s=false):kwB r s=false->r.at_=r.at_/\r.bad=r.bad/\(r.bad=false->¬isK ts r.at_.toNat s=true):=fun _=>⟨rfl,rfl,fun z k=>by
 unfold kwB at h;rw[z,A,k]at h;cases h⟩
theorem acc_c{b:Bool}{P:Prop}(h:b=true):b=false->P:=fun k=>by rw[h]at k;cases k
theorem acc_d{b:Bool}{P:Prop}(h:b=false):b=true->P:=fun k=>by rw[h]at k;cases k
theorem exp_n{ts:List Token}{s:List UInt8}{r:RdrT}{j:Int}(z:0<=r.at_)(q:j=r.at_/\True/\(r.bad=false->¬isS ts r.at_.toNat s=true)):Oc (fun _=>dW ts s r.at_.toNat) r.bad r.at_ () j true:=⟨fun _=>⟨rfl,q.1⟩,fun h=>by unfold dW;rw[if_neg (q.2.2 h)];exact .fail (by have:=q.1;omega)⟩
theorem exp_y{ts:List Token}{s:List UInt8}{r:RdrT}{j:Int}{b:Bool}(z:0<=r.at_)(q:r.bad=false/\isS ts r.at_.toNat s=true/\j=r.at_+1/\b=false):Oc (fun _=>dW ts s r.at_.toNat) r.bad r.at_ () j b:=Oc.of q.1 (by unfold dW;rw[if_pos q.2.1,q.2.2.2];exact .val (by have:=q.2.2.1;omega))
theorem kK{ts:List Token}{r:RdrT}(h:r.l=ts):anB r=true↔r.bad=false/\isN ts r.at_.toNat=true:=by unfold anB;rw[a03,a0n,h]
theorem nam_n{ts:List Token}{r:RdrT}{x:Str}(E:r.l=ts)(z:0<=r.at_)(h:anB r=false):Oc (fun _=>dl ts r.at_.toNat) r.bad r.at_ x r.at_ true:=⟨fun _=>⟨rfl,rfl⟩,fun A=>by
 unfold dl;rw[if_neg (fun k=>by rw[(kK E).2 ⟨A,k⟩]at h;cases h)];exact .fail (by omega)⟩
theorem nam_y{ts:List Token}{r:RdrT}(O:r.l=ts)(E:0<=r.at_)(h:anB r=true):Oc (fun _=>dl ts r.at_.toNat) r.bad r.at_ (⟨(r.l.getD (r.at_+1-1).toNat default).text.b⟩:Str) (r.at_+1) r.bad:=by obtain⟨z,A⟩:=(kK O).1 h;refine Oc.of z ?_;unfold dl;rw[if_pos A,z,O,show(r.at_+1-1).toNat=r.at_.toNat by omega];exact .val (by omega)
theorem reserved_c(ex:FuncId)(s:List UInt8)(H:Heap):kKt ex 78 [(.string ⟨⟨s⟩⟩)] H fun v H'=> ∃(o:Bool),H'=H/\v= .bool o/\o=eG s:=by
 refine aD Try.func78 rfl rfl (am 1 rfl (wT 3 [] 2 2 [] [(2,(.bool false))] rfl fun _=>wT 4 [] 3 3 [] [(3,(.string ⟨⟨s⟩⟩))] rfl fun _=>wT 1 [] 4 5 [] [(4,(.bool (s==([97,114,114,97,121]:List UInt8))))] rfl fun _=>zi 1 1 (fun Y=>?_) fun Y=>?_))
 ·have c4:=Y;try simp only[BS]at c4
  refine bu 1 (v:=(s==([97,114,114,97,121]:List UInt8))) rfl Y rfl rfl (wT 1 [] 2 2 [] [(2,(.bool true))] rfl fun _=>ah ⟨.inr rfl,_,rfl,true,rfl,rfl,(by simp_all[eG,jr])⟩)
 refine wT 1 [] 4 6 [] [(4,(.bool (s==([102,117,110,99]:List UInt8))))] rfl fun _=>zi 1 1 (fun Z=>?_) fun Z=>?_
 ·have c7:=Z;try simp only[BS]at c7
  refine bu 1 (v:=(s==([102,117,110,99]:List UInt8))) rfl Z rfl rfl (wT 1 [] 2 2 [] [(2,(.bool true))] rfl fun _=>ah ⟨.inr rfl,_,rfl,true,rfl,rfl,(by simp_all[eG,jr])⟩)
 refine wT 1 [] 4 7 [] [(4,(.bool (s==([118,97,114]:List UInt8))))] rfl fun _=>zi 1 1 (fun z=>?_) fun z=>?_
 ·have al:=z;try simp only[BS]at al
  refine bu 1 (v:=(s==([118,97,114]:List UInt8))) rfl z rfl rfl (wT 1 [] 2 2 [] [(2,(.bool true))] rfl fun _=>ah ⟨.inr rfl,_,rfl,true,rfl,rfl,(by simp_all[eG,jr])⟩)
 refine wT 1 [] 4 8 [] [(4,(.bool (s==([114,101,116,117,114,110]:List UInt8))))] rfl fun _=>zi 1 1 (fun A=>?_) fun A=>?_
 ·have an:=A;try simp only[BS]at an
  refine bu 1 (v:=(s==([114,101,116,117,114,110]:List UInt8))) rfl A rfl rfl (wT 1 [] 2 2 [] [(2,(.bool true))] rfl fun _=>ah ⟨.inr rfl,_,rfl,true,rfl,rfl,(by simp_all[eG,jr])⟩)
 refine wT 1 [] 4 9 [] [(4,(.bool (s==([105,102]:List UInt8))))] rfl fun _=>zi 1 1 (fun E=>?_) fun E=>?_
 ·have ax:=E;try simp only[BS]at ax
  refine bu 1 (v:=(s==([105,102]:List UInt8))) rfl E rfl rfl (wT 1 [] 2 2 [] [(2,(.bool true))] rfl fun _=>ah ⟨.inr rfl,_,rfl,true,rfl,rfl,(by simp_all[eG,jr])⟩)
 refine wT 1 [] 4 10 [] [(4,(.bool (s==([101,108,115,101]:List UInt8))))] rfl fun _=>zi 1 1 (fun O=>?_) fun O=>?_
 ·have h:=O;try simp only[BS]at h
  refine bu 1 (v:=(s==([101,108,115,101]:List UInt8))) rfl O rfl rfl (wT 1 [] 2 2 [] [(2,(.bool true))] rfl fun _=>ah ⟨.inr rfl,_,rfl,true,rfl,rfl,(by simp_all[eG,jr])⟩)
 refine wT 1 [] 4 11 [] [(4,(.bool (s==([119,104,105,108,101]:List UInt8))))] rfl fun _=>zi 1 1 (fun T=>?_) fun T=>?_
 ·have a1:=T;try simp only[BS]at a1
  refine bu 1 (v:=(s==([119,104,105,108,101]:List UInt8))) rfl T rfl rfl (wT 1 [] 2 2 [] [(2,(.bool true))] rfl fun _=>ah ⟨.inr rfl,_,rfl,true,rfl,rfl,(by simp_all[eG,jr])⟩)
 refine wT 1 [] 4 12 [] [(4,(.bool (s==([111,117,116]:List UInt8))))] rfl fun _=>zi 1 0 (fun U=>?_) fun U=>?_
 ·have a2:=U;try simp only[BS]at a2
  refine bu 1 (v:=(s==([111,117,116]:List UInt8))) rfl U rfl rfl (wT 1 [] 2 2 [] [(2,(.bool true))] rfl fun _=>ah ⟨.inr rfl,_,rfl,true,rfl,rfl,(by simp_all[eG,jr])⟩)
 refine wT 1 [] 4 13 [] [(4,(.bool (s==([116,114,97,112]:List UInt8))))] rfl fun _=>zi 1 3 (fun V=>?_) fun V=>?_
 ·try simp only[BS]at V
  refine wT 1 [] 2 2 [] [(2,(.bool true))] rfl fun _=>ah ⟨.inr rfl,_,rfl,true,rfl,rfl,(by simp_all[eG,jr])⟩
 try simp only[BS]at V
 refine wT 1 [] 2 2 [] [(2,(.bool false))] rfl fun _=>ah ⟨.inr rfl,_,rfl,false,rfl,rfl,(by simp_all[eG,jr])⟩
theorem reserved_c_q(ex:FuncId)(s:List UInt8)(H:Heap):kKt ex 78 [(.string ⟨⟨s⟩⟩)] H fun v H'=>v=(.bool (eG s))/\H'=H:=
 cq (reserved_c ex s H) (by rintro _ _ ⟨_,rfl,rfl,rfl⟩;exact⟨rfl,rfl⟩)
variable (ts:List Token)
variable (ex:FuncId) {F:Fz} {H:Heap} {R:List Fp}
theorem iV{A:Option Addr}{E:Nat}{h:Nat}(r:RdrT)(hs:HS (.of H [h]) F H [(fP h [(sL A r.l.length E),(iI r.at_),(iI r.fin),(.bool r.bad)])] R)(U:SR F (sL A r.l.length E) r.l)(a4:in64 r.at_)(a8:in64 r.fin)(b2: ∀i,(ts.getD i default).text.b.length<=1000000)(b1:r.l=ts)(bl:0<=r.at_/\r.at_<=(ts.length:Int))(b0:ts.length<=1000000):kKt ex 55 [(pT h 0)] H fun v H'=> ∃(t:Token) (F':Fz),Fz.le F F'/\HS (.of H [h]) F' H' [(fP h [(sL A r.l.length E),(iI r.at_),(iI r.fin),(.bool r.bad)])] R/\v= .agg ⟨[.int .i64 t.kind,.string ⟨⟨t.text.b⟩⟩,.int .i64 t.at_]⟩/\in64 t.kind/\in64 t.at_/\t=nxT r:=by
 refine aD Try.func55 rfl rfl (am 1 rfl (aa (aI (aJ hs rfl) rfl rfl ?_)));rintro _ H2 _ ⟨Y,rfl,(z:HS _ _ _ [(fP h [(sL A r.l.length E),(iI r.at_),(iI r.fin),(.bool r.bad)]),(fP Y [(iI 0),(.string ⟨⟨[]⟩⟩),(iI 0)])] _),_⟩;refine ab 3 rfl (wRD 1 [(3,.o (.bool r.bad)),(8,.o (iI r.at_)),(12,.o (sL A r.l.length E))] 3 18 [] [(18,(.bool (r.bad||(decide ((r.l.length:Int)<=r.at_)))))] (vA (ql 4 3 (hc0 (HS.hc z (i:=0) rfl)) rfl rfl) (vA (fun(g1:r.bad=false)=>(ql 3 1 (hc0 (HS.hc z (i:=0) rfl)) rfl rfl)) (vA (fun(g1:r.bad=false)=>(ql 27 0 (hc0 (HS.hc z (i:=0) rfl)) rfl rfl)) trivial))) rfl rfl fun _=>zi 1 2 (fun T=>?_) fun T=>?_)
 ·try simp only[BS]at T
  have c1:=T;refine aa (wTo 1 0 [] 19 19 [] [(19,(aG [(iI 0),(.string ⟨⟨[]⟩⟩),(iI 0)]))] rfl fun _=>aq (ae (q:=1) z rfl rfl rfl rfl rfl rfl rfl rfl rfl) rfl ?_);rintro _ H6 _ ⟨(V:HS _ _ _ [_,_] _),_⟩;refine ab 1 rfl (ah ⟨.inr rfl,_,(rC rfl (bI rfl rfl (HS.hc V (i:=1) rfl) rfl) rN),(⟨0,⟨[]⟩,0⟩:Token),_,fR,(HS.first V),rfl,(by(dsimp only;omega)),(by(dsimp only;omega)),(nx_no c1)⟩)
 try simp only[BS]at T
 have c1:=T;refine aK rfl (zfm (pT h 0) (wfv (v:=(pT h 0)) (aS rfl) (zp 0 (zl 0 (HS.hc z.log0 (i:=0) rfl) (zfm (pT h 0) ?_)))));refine wfv (v:=(pT h 0)) (aS rfl) (zp 1 (zl 1 (HS.hc z.log0 (i:=0) rfl) (zy Token r.at_ (SR.sv U z.log0) ?_)));obtain⟨ba,an,al⟩:=Sv.at (SR.sv U z.log0) (aU (x:=default) (show r.at_.toNat<r.l.length from by omega));obtain⟨rfl,a2,a3⟩:=an;refine a6 (v:=(aG [(iI (r.l.getD r.at_.toNat default).kind),(.string ⟨⟨(r.l.getD r.at_.toNat default).text.b⟩⟩),(iI (r.l.getD r.at_.toNat default).at_)])) (id:= .l (sB (sL A r.l.length E))) (cp (i:=0) rfl rfl rfl al rfl rfl rfl) rfl rfl (fB rfl) (kb rfl) (dH (id:= .x [Y]) (ae (q:=1) z.log0 rfl rfl rfl rfl rfl rfl rfl rfl rfl) rfl (by rintro _ _ _ ⟨_,hwr⟩;exact bP rfl rfl (Wr.did hwr)) (kb rfl) ?_);rintro _ H9 _ ⟨O,_⟩ ax Z;replace O:=HS.lg O z Z;generalize ({H9 with log:=ax}:Heap)=a9 at O⊢;have O:HS _ _ _ [_,(fP Y [(iI (r.l.getD r.at_.toNat default).kind),(.string ⟨⟨(r.l.getD r.at_.toNat default).text.b⟩⟩),(iI (r.l.getD r.at_.toNat default).at_)])] _:=O;refine aW (am 1 rfl (ah ⟨.inr rfl,_,(rC rfl (bI rfl rfl (HS.hc O (i:=1) rfl) rfl) rN),(r.l.getD r.at_.toNat default),_,fR,(HS.first O),rfl,(by omega),(by omega),(nx_yes c1)⟩))
theorem offset_c{z:Option Addr}{A:Nat}{h:Nat}(r:RdrT)(hs:HS (.of H [h]) F H [(fP h [(sL z r.l.length A),(iI r.at_),(iI r.fin),(.bool r.bad)])] R)(E:SR F (sL z r.l.length A) r.l)(Y:in64 r.at_)(Z:in64 r.fin)(a1: ∀i,(ts.getD i default).text.b.length<=1000000)(a0:r.l=ts)(an:0<=r.at_/\r.at_<=(ts.length:Int))(ax:ts.length<=1000000):kKt ex 33 [(pT h 0)] H fun v H'=> ∃(x:Int) (F':Fz),Fz.le F F'/\HS (.of H [h]) F' H' [(fP h [(sL z r.l.length A),(iI r.at_),(iI r.fin),(.bool r.bad)])] R/\v= .int .i64 x/\x=kc r.l r.at_ r.fin:=by
 refine aD Try.func33 rfl rfl (am 1 rfl (wT 3 [] 2 2 [] [(2,(iI 0))] rfl fun _=>wRD 1 [(3,.o (iI r.at_)),(7,.o (sL z r.l.length A))] 3 12 [] [(12,(.bool (decide (r.at_<(r.l.length:Int)))))] (vA (ql 3 1 (hc0 (HS.hc hs (i:=0) rfl)) rfl rfl) (vA (ql 27 0 (hc0 (HS.hc hs (i:=0) rfl)) rfl rfl) trivial)) rfl rfl fun _=>zd 1 2 (fun T=>?_) fun T=>?_))
 ·obtain⟨al,O⟩:=Sv.view (SR.sv E hs);obtain⟨U,V⟩:=Token.fx (O r.at_.toNat);refine wRD 1 [(3,.o (sL z r.l.length A)),(7,.o (iI r.at_)),(10,.o (iI (r.l.getD r.at_.toNat default).at_))] 13 23 [2] [(2,(iI (r.l.getD r.at_.toNat default).at_))] (vA (ql 27 0 (hc0 (HS.hc hs (i:=0) rfl)) rfl rfl) (vA (ql 3 1 (hc0 (HS.hc hs (i:=0) rfl)) rfl rfl) (vA (Sv.ix (j:=r.at_) (SR.sv E hs)) (vA (ql 3 2 (hc0 (Token.vw (O r.at_.toNat) (by omega))) rfl rfl) trivial)))) rfl rfl fun _=>ah ⟨.inr rfl,_,rfl,(r.l.getD r.at_.toNat default).at_,_,fR,(HS.first hs),rfl,(by(unfold kc;first|rw[if_pos (by omega)]|rw[if_neg (by omega)]))⟩
 refine wU 1 [(3,.o (iI r.fin))] 24 27 [2] [(2,(iI r.fin))] (ql 3 2 (HS.hc hs (i:=0) rfl) rfl rfl) rfl fun _=>ah ⟨.inr rfl,_,rfl,r.fin,_,fR,(HS.first hs),rfl,(by(unfold kc;first|rw[if_pos (by omega)]|rw[if_neg (by omega)]))⟩
theorem is_c{z:Option Addr}{A:Nat}{h:Nat}(r:RdrT)(s:List UInt8)(hs:HS (.of H [h]) F H [(fP h [(sL z r.l.length A),(iI r.at_),(iI r.fin),(.bool r.bad)])] R)(T:SR F (sL z r.l.length A) r.l)(an:in64 r.at_)(ax:in64 r.fin)(a4: ∀i,(ts.getD i default).text.b.length<=1000000)(a3:r.l=ts)(a1:0<=r.at_/\r.at_<=(ts.length:Int))(a2:ts.length<=1000000):kKt ex 59 [(pT h 0),(.string ⟨⟨s⟩⟩)] H fun v H'=> ∃(o:Bool) (F':Fz),Fz.le F F'/\HS (.of H [h]) F' H' [(fP h [(sL z r.l.length A),(iI r.at_),(iI r.fin),(.bool r.bad)])] R/\v= .bool o/\o=isB r s:=by refine aD Try.func59 rfl rfl (am 1 rfl (wT 2 [] 4 4 [] [(4,(.bool false))] rfl fun _=>aa (zm (pT h 0) (zc (iV ts ex r (HS.callOwn hs (i:=0) rfl) T (by omega) (by omega) (by omega) (by omega) (by omega) (by omega)) ?_))));rintro _ H2 ⟨t2,F2,V,E,rfl,Y,Z,rfl⟩;replace E:HS _ _ _ [(fP h [(sL z r.l.length A),(iI r.at_),(iI r.fin),(.bool r.bad)])] _:=HS.backOwn hs (i:=0) rfl rfl (fun _ hb=>hb) E;refine aI (aJ E rfl) rfl rfl ?_;rintro _ H4 _ ⟨U,rfl,(al:HS _ _ _ [_,(fP U [(iI 0),(.string ⟨⟨[]⟩⟩),(iI 0)])] _),_⟩;refine aq (ae (q:=1) al rfl rfl rfl rfl rfl rfl rfl rfl rfl) rfl ?_;rintro _ H5 _ ⟨(O:HS _ _ _ [_,(fP U [(iI (nxT r).kind),(.string ⟨⟨(nxT r).text.b⟩⟩),(iI (nxT r).at_)])] _),_⟩;refine ab 2 rfl (wR 1 [(1,.o (iI (nxT r).kind)),(5,.o (.string ⟨⟨(nxT r).text.b⟩⟩))] 8 16 [4] [(4,(.bool (((nxT r).kind==3)&&((nxT r).text.b==s))))] (vA (ql 3 0 (HS.hc O (i:=1) rfl) rfl rfl) (vA (fun(g1:((nxT r).kind==3)=true)=>(ql 9 1 (HS.hc O (i:=1) rfl) rfl rfl)) trivial)) rfl fun _=>ah ⟨.inr rfl,_,rfl,(((nxT r).kind==3)&&((nxT r).text.b==s)),_,(V),(HS.first O),rfl,(isB_of)⟩)
theorem atName_c{z:Option Addr}{A:Nat}{h:Nat}(r:RdrT)(hs:HS (.of H [h]) F H [(fP h [(sL z r.l.length A),(iI r.at_),(iI r.fin),(.bool r.bad)])] R)(T:SR F (sL z r.l.length A) r.l)(a0:in64 r.at_)(a1:in64 r.fin)(a4: ∀i,(ts.getD i default).text.b.length<=1000000)(a3:r.l=ts)(ax:0<=r.at_/\r.at_<=(ts.length:Int))(a2:ts.length<=1000000):kKt ex 56 [(pT h 0)] H fun v H'=> ∃(o:Bool) (F':Fz),Fz.le F F'/\HS (.of H [h]) F' H' [(fP h [(sL z r.l.length A),(iI r.at_),(iI r.fin),(.bool r.bad)])] R/\v= .bool o/\o=anB r:=by refine aD Try.func56 rfl rfl (am 1 rfl (wT 2 [] 2 2 [] [(2,(.bool false))] rfl fun _=>aa (zm (pT h 0) (zc (iV ts ex r (HS.callOwn hs (i:=0) rfl) T (by omega) (by omega) (by omega) (by omega) (by omega) (by omega)) ?_))));rintro _ H2 ⟨t2,F2,V,E,rfl,Y,Z,rfl⟩;replace E:HS _ _ _ [(fP h [(sL z r.l.length A),(iI r.at_),(iI r.fin),(.bool r.bad)])] _:=HS.backOwn hs (i:=0) rfl rfl (fun _ hb=>hb) E;refine aI (aJ E rfl) rfl rfl ?_;rintro _ H4 _ ⟨U,rfl,(al:HS _ _ _ [_,(fP U [(iI 0),(.string ⟨⟨[]⟩⟩),(iI 0)])] _),_⟩;refine aq (ae (q:=1) al rfl rfl rfl rfl rfl rfl rfl rfl rfl) rfl ?_;rintro _ H5 _ ⟨(O:HS _ _ _ [_,(fP U [(iI (nxT r).kind),(.string ⟨⟨(nxT r).text.b⟩⟩),(iI (nxT r).at_)])] _),_⟩;refine ab 2 rfl (wR 1 [(1,.o (iI (nxT r).kind)),(5,.o (.string ⟨⟨(nxT r).text.b⟩⟩)),(6,.o (.bool (eG (nxT r).text.b)))] 6 14 [2] [(2,(.bool (((nxT r).kind==1)&&(!(eG (nxT r).text.b)))))] (vA (ql 3 0 (HS.hc O (i:=1) rfl) rfl rfl) (vA (fun(g1:((nxT r).kind==1)=true)=>(ql 9 1 (HS.hc O (i:=1) rfl) rfl rfl)) (vA (fun(g1:((nxT r).kind==1)=true)=>(reserved_c_q ex (nxT r).text.b H5)) trivial))) rfl fun _=>ah ⟨.inr rfl,_,rfl,(((nxT r).kind==1)&&(!(eG (nxT r).text.b))),_,(V),(HS.first O),rfl,(anB_of)⟩)
theorem dy{z:Option Addr}{A:Nat}{ax:Nat}(r:RdrT)(s:List UInt8)(hs:HS (.of H [ax]) F H [(fP ax [(sL z r.l.length A),(iI r.at_),(iI r.fin),(.bool r.bad)])] R)(E:SR F (sL z r.l.length A) r.l)(al:in64 r.at_)(an:in64 r.fin)(a4: ∀i,(ts.getD i default).text.b.length<=1000000)(a0:r.l=ts)(a1:0<=r.at_/\r.at_<=(ts.length:Int))(a3:ts.length<=1000000):kKt ex 58 [(pT ax 0),(.string ⟨⟨s⟩⟩)] H fun v H'=> ∃(o:Bool) (h:RdrT) (T:Option Addr) (Y:Nat) (F':Fz),Fz.le F F'/\HS (.of H [ax]) F' H' [(fP ax [(sL T h.l.length Y),(iI h.at_),(iI h.fin),(.bool h.bad)])] R/\v= .bool o/\in64 h.at_/\in64 h.fin/\SR F' (sL T h.l.length Y) h.l/\o=isB r s/\(isB r s=true->r.bad=false/\isS ts r.at_.toNat s=true/\h.at_=r.at_+1/\h.bad=false)/\(isB r s=false->h.at_=r.at_/\h.bad=r.bad/\(r.bad=false->¬isS ts r.at_.toNat s=true))/\(h.l=ts)/\(r.at_<=h.at_/\h.at_<=(ts.length:Int))/\(h.fin=r.fin):=by
 refine aD Try.func58 rfl rfl (am 1 rfl (wT 3 [] 4 4 [] [(4,(.bool false))] rfl fun _=>aa (wTo 2 0 [] 5 6 [] [(5,(pT ax 0)),(6,(.string ⟨⟨s⟩⟩))] rfl fun _=>zc (is_c ts ex r s (HS.callOwn hs (i:=0) rfl) E (by omega) (by omega) (by omega) (by omega) (by omega) (by omega)) ?_)));rintro _ H3 ⟨o3,F3,V,O,rfl,rfl⟩;replace O:HS _ _ _ [(fP ax [(sL z r.l.length A),(iI r.at_),(iI r.fin),(.bool r.bad)])] _:=HS.backOwn hs (i:=0) rfl rfl (fun _ hb=>hb) O;replace E:=E.mono V;refine wTo 1 3 [] 8 8 [] [(8,(.bool (!(isB r s))))] rfl fun _=>ab 1 rfl (zi 1 2 (fun U=>?_) fun U=>?_)
 ·try simp only[BS]at U
  have c1:=U;refine wT 1 [] 4 4 [] [(4,(.bool false))] rfl fun _=>ah ⟨.inr rfl,_,rfl,false,r,z,A,_,(V),(HS.first O),rfl,(by omega),(by omega),E,(c1.symm),(acc_d c1),(acc_n a0 c1),(by assumption),(by omega),(by rfl)⟩
 try simp only[BS]at U
 have c1:=U;have c2:=isB_lt a0 a1 c1;refine aa (wRo 7 0 [(3,.o (iI r.at_))] 9 15 [] [(13,(iI (r.at_+1))),(15,(pT ax 1))] (vA (ql 3 1 (HS.hc O (i:=0) rfl) rfl rfl) (vA (vi (n:=r.at_+1)) trivial)) rfl fun _=>aq (ae (q:=0) O rfl rfl rfl rfl rfl rfl rfl rfl rfl) rfl ?_);rintro _ H8 _ ⟨(Z:HS _ _ _ [(fP ax [(sL z r.l.length A),(iI (r.at_+1)),(iI r.fin),(.bool r.bad)])] _),_⟩;refine ab 2 rfl (wT 1 [] 4 4 [] [(4,(.bool true))] rfl fun _=>ah ⟨.inr rfl,_,rfl,true,(⟨r.l,r.at_+1,r.fin,r.bad⟩:RdrT),z,A,_,(V),(HS.first Z),rfl,(by(dsimp only;omega)),(by(dsimp only;omega)),E,(c1.symm),(acc_y a0 c1),(acc_c c1),(by assumption),(by(dsimp only;omega)),(by rfl)⟩)
theorem bM{z:Option Addr}{A:Nat}{an:Nat}(r:RdrT)(s:List UInt8)(hs:HS (.of H [an]) F H [(fP an [(sL z r.l.length A),(iI r.at_),(iI r.fin),(.bool r.bad)])] R)(E:SR F (sL z r.l.length A) r.l)(a2:in64 r.at_)(a3:in64 r.fin)(bl: ∀i,(ts.getD i default).text.b.length<=1000000)(a8:r.l=ts)(a9:0<=r.at_/\r.at_<=(ts.length:Int))(bb:ts.length<=1000000):kKt ex 28 [(pT an 0),(.string ⟨⟨s⟩⟩)] H fun v H'=> ∃(o:Bool) (h:RdrT) (T:Option Addr) (Z:Nat) (F':Fz),Fz.le F F'/\HS (.of H [an]) F' H' [(fP an [(sL T h.l.length Z),(iI h.at_),(iI h.fin),(.bool h.bad)])] R/\v= .bool o/\in64 h.at_/\in64 h.fin/\SR F' (sL T h.l.length Z) h.l/\o=kwB r s/\(kwB r s=true->r.bad=false/\isK ts r.at_.toNat s=true/\h.at_=r.at_+1/\h.bad=false)/\(kwB r s=false->h.at_=r.at_/\h.bad=r.bad/\(r.bad=false->¬isK ts r.at_.toNat s=true))/\(h.l=ts)/\(r.at_<=h.at_/\h.at_<=(ts.length:Int))/\(h.fin=r.fin):=by
 refine aD Try.func28 rfl rfl (am 1 rfl (wT 2 [] 4 4 [] [(4,(.bool false))] rfl fun _=>aa (zm (pT an 0) (zc (iV ts ex r (HS.callOwn hs (i:=0) rfl) E (by omega) (by omega) (by omega) (by omega) (by omega) (by omega)) ?_))));rintro _ H2 ⟨t2,F2,V,Y,rfl,ax,a0,rfl⟩;replace Y:HS _ _ _ [(fP an [(sL z r.l.length A),(iI r.at_),(iI r.fin),(.bool r.bad)])] _:=HS.backOwn hs (i:=0) rfl rfl (fun _ hb=>hb) Y;replace E:=E.mono V;refine aI (aJ Y rfl) rfl rfl ?_;rintro _ H4 _ ⟨b3,rfl,(a1:HS _ _ _ [_,(fP b3 [(iI 0),(.string ⟨⟨[]⟩⟩),(iI 0)])] _),_⟩;refine aq (ae (q:=1) a1 rfl rfl rfl rfl rfl rfl rfl rfl rfl) rfl ?_;rintro _ H5 _ ⟨(O:HS _ _ _ [_,(fP b3 [(iI (nxT r).kind),(.string ⟨⟨(nxT r).text.b⟩⟩),(iI (nxT r).at_)])] _),_⟩;refine ab 3 rfl (wR 1 [(1,.o (iI (nxT r).kind)),(5,.o (.string ⟨⟨(nxT r).text.b⟩⟩))] 8 16 [] [(16,(.bool (((nxT r).kind !=1)||((nxT r).text.b !=s))))] (vA (ql 3 0 (HS.hc O (i:=1) rfl) rfl rfl) (vA (fun(g1:((nxT r).kind !=1)=false)=>(ql 9 1 (HS.hc O (i:=1) rfl) rfl rfl)) trivial)) rfl fun _=>zi 1 2 (fun U=>?_) fun U=>?_)
 ·try simp only[BS]at U
  have c1:=kwB_f U;refine wT 1 [] 4 4 [] [(4,(.bool false))] rfl fun _=>ah ⟨.inr rfl,_,rfl,false,r,z,A,_,(V),(HS.first O),rfl,(by omega),(by omega),E,(c1.symm),(acc_d c1),(kac_n a8 c1),(by assumption),(by omega),(by rfl)⟩
 try simp only[BS]at U
 have c1:=kwB_t U;have c2:=kwB_lt a8 a9 c1;refine aa (wRo 7 0 [(3,.o (iI r.at_))] 17 23 [] [(21,(iI (r.at_+1))),(23,(pT an 1))] (vA (ql 3 1 (HS.hc O (i:=0) rfl) rfl rfl) (vA (vi (n:=r.at_+1)) trivial)) rfl fun _=>aq (ae (q:=0) O rfl rfl rfl rfl rfl rfl rfl rfl rfl) rfl ?_);rintro _ a4 _ ⟨(al:HS _ _ _ [(fP an [(sL z r.l.length A),(iI (r.at_+1)),(iI r.fin),(.bool r.bad)]),_] _),_⟩;refine ab 2 rfl (wT 1 [] 4 4 [] [(4,(.bool true))] rfl fun _=>ah ⟨.inr rfl,_,rfl,true,(⟨r.l,r.at_+1,r.fin,r.bad⟩:RdrT),z,A,_,(V),(HS.first al),rfl,(by(dsimp only;omega)),(by(dsimp only;omega)),E,(c1.symm),(kac_y a8 c1),(acc_c c1),(by assumption),(by(dsimp only;omega)),(by rfl)⟩)
theorem aM{Y:Option Addr}{al:Nat}{b3:Nat}(r:RdrT)(s:List UInt8)(hs:HS (.of H [b3]) F H [(fP b3 [(sL Y r.l.length al),(iI r.at_),(iI r.fin),(.bool r.bad)])] R)(ax:SR F (sL Y r.l.length al) r.l)(a8:in64 r.at_)(a9:in64 r.fin)(cc: ∀i,(ts.getD i default).text.b.length<=1000000)(cb:r.l=ts)(b4:0<=r.at_/\r.at_<=(ts.length:Int))(b9:ts.length<=1000000):kKt ex 31 [(pT b3 0),(.string ⟨⟨s⟩⟩)] H fun v H'=> ∃(r':RdrT) (V:Option Addr) (Z:Nat) (F':Fz),Fz.le F F'/\HS (.of H [b3]) F' H' [(fP b3 [(sL V r'.l.length Z),(iI r'.at_),(iI r'.fin),(.bool r'.bad)])] R/\v= .tuple #[]/\in64 r'.at_/\in64 r'.fin/\SR F' (sL V r'.l.length Z) r'.l/\(r'.bad=false->r.at_<r'.at_)/\(r'.l=ts)/\(r.at_<=r'.at_/\r'.at_<=(ts.length:Int))/\(r'.fin=r.fin)/\(Oc (fun n=>dW ts s r.at_.toNat) r.bad r.at_ () r'.at_ r'.bad):=by
 refine aD Try.func31 rfl rfl (am 1 rfl (aa (wTo 2 0 [] 4 5 [] [(4,(pT b3 0)),(5,(.string ⟨⟨s⟩⟩))] rfl fun _=>zc (dy ts ex r s (HS.callOwn hs (i:=0) rfl) ax (by omega) (by omega) (by omega) (by omega) (by omega) (by omega)) ?_)));rintro _ H2 ⟨o2,z,A,E,F2,an,T,rfl,a3,a4,U,rfl,a1,a0,bb,bl,b0⟩;replace T:HS _ _ _ [(fP b3 [(sL A z.l.length E),(iI z.at_),(iI z.fin),(.bool z.bad)])] _:=HS.backOwn hs (i:=0) rfl rfl (fun _ hb=>hb) T;refine wTo 1 3 [] 7 7 [] [(7,(.bool (!(isB r s))))] rfl fun _=>ab 1 rfl (zi 0 0 (fun O=>?_) fun O=>?_)
 ·try simp only[BS]at O
  have b1:=a0 O;have q:=(by assumption:isB r s=false->_) O;have q1:=q.1;refine aa (wTo 3 0 [] 8 10 [] [(10,(pT b3 3))] rfl fun _=>aq (ae (q:=0) T rfl rfl rfl rfl rfl rfl rfl rfl rfl) rfl ?_);rintro _ H6 _ ⟨(a2:HS _ _ _ [(fP b3 [(sL A z.l.length E),(iI z.at_),(iI z.fin),(.bool true)])] _),_⟩;refine ab 0 rfl (ai ⟨.inl rfl,_,rfl,(⟨z.l,z.at_,z.fin,true⟩:RdrT),A,E,_,(an),(HS.first a2),rfl,(by(dsimp only;omega)),(by(dsimp only;omega)),U,(by(intro h;first|cases h|omega|(dsimp only at h⊢;omega)|(simp at h))),(by assumption),(by assumption),(by assumption),(exp_n b4.1 ⟨q.1,trivial,q.2.2⟩)⟩)
 try simp only[BS]at O
 have b2:=a1 O;have q:=(by assumption:isB r s=true->_) O;have q1:=q.2.2.1;refine ai ⟨.inl rfl,_,rfl,z,A,E,_,(an),(HS.first T),rfl,(by omega),(by omega),U,(by(intro h;first|cases h|omega|(dsimp only at h⊢;omega)|(simp at h))),(by assumption),(by assumption),(by assumption),(exp_y b4.1 q)⟩
theorem iW{z:Option Addr}{A:Nat}{a4:Nat}(r:RdrT)(hs:HS (.of H [a4]) F H [(fP a4 [(sL z r.l.length A),(iI r.at_),(iI r.fin),(.bool r.bad)])] R)(E:SR F (sL z r.l.length A) r.l)(a2:in64 r.at_)(a3:in64 r.fin)(b1: ∀i,(ts.getD i default).text.b.length<=1000000)(a9:r.l=ts)(ba:0<=r.at_/\r.at_<=(ts.length:Int))(b0:ts.length<=1000000):kKt ex 29 [(pT a4 0)] H fun v H'=> ∃(x:List UInt8) (r':RdrT) (U:Option Addr) (al:Nat) (F':Fz),Fz.le F F'/\HS (.of H [a4]) F' H' [(fP a4 [(sL U r'.l.length al),(iI r'.at_),(iI r'.fin),(.bool r'.bad)])] R/\v= .string ⟨⟨x⟩⟩/\in64 r'.at_/\in64 r'.fin/\SR F' (sL U r'.l.length al) r'.l/\(r'.bad=false->r.at_<r'.at_)/\(r'.l=ts)/\(r.at_<=r'.at_/\r'.at_<=(ts.length:Int))/\(r'.fin=r.fin)/\(Oc (fun n=>dl ts r.at_.toNat) r.bad r.at_ (⟨x⟩:Str) r'.at_ r'.bad):=by
 refine aD Try.func29 rfl rfl (am 1 rfl (wT 3 [] 2 2 [] [(2,(.string ⟨⟨[]⟩⟩))] rfl fun _=>aa (zm (pT a4 0) (zc (atName_c ts ex r (HS.callOwn hs (i:=0) rfl) E (by omega) (by omega) (by omega) (by omega) (by omega) (by omega)) ?_))));rintro _ H2 ⟨o2,F2,Y,O,rfl,rfl⟩;replace O:HS _ _ _ [(fP a4 [(sL z r.l.length A),(iI r.at_),(iI r.fin),(.bool r.bad)])] _:=HS.backOwn hs (i:=0) rfl rfl (fun _ hb=>hb) O;replace E:=E.mono Y;refine wTo 1 2 [] 5 5 [] [(5,(.bool (!(anB r))))] rfl fun _=>ab 1 rfl (zi 1 2 (fun V=>?_) fun V=>?_)
 ·try simp only[BS]at V
  have c1:=V;refine aa (wTo 3 0 [] 6 8 [] [(8,(pT a4 3))] rfl fun _=>aq (ae (q:=0) O rfl rfl rfl rfl rfl rfl rfl rfl rfl) rfl ?_);rintro _ H6 _ ⟨(an:HS _ _ _ [(fP a4 [(sL z r.l.length A),(iI r.at_),(iI r.fin),(.bool true)])] _),_⟩;refine ab 2 rfl (wT 1 [] 2 2 [] [(2,(.string ⟨⟨[]⟩⟩))] rfl fun _=>ah ⟨.inr rfl,_,rfl,[],(⟨r.l,r.at_,r.fin,true⟩:RdrT),z,A,_,(Y),(HS.first an),rfl,(by(dsimp only;omega)),(by(dsimp only;omega)),E,(by intro h;first|cases h|omega|(dsimp only;omega)|(simp at h)),(by assumption),(by(dsimp only;omega)),(by rfl),(nam_n a9 ba.1 c1)⟩)
 try simp only[BS]at V
 have c1:=V;have c2:=anB_lt a9 ba c1;refine aa (wRo 7 0 [(3,.o (iI r.at_))] 9 15 [] [(13,(iI (r.at_+1))),(15,(pT a4 1))] (vA (ql 3 1 (HS.hc O (i:=0) rfl) rfl rfl) (vA (vi (n:=r.at_+1)) trivial)) rfl fun _=>aq (ae (q:=0) O rfl rfl rfl rfl rfl rfl rfl rfl rfl) rfl ?_);rintro _ H9 _ ⟨(T:HS _ _ _ [(fP a4 [(sL z r.l.length A),(iI (r.at_+1)),(iI r.fin),(.bool r.bad)])] _),_⟩;refine ab 2 rfl ?_;obtain⟨a1,Z⟩:=Sv.view (SR.sv E T);obtain⟨ax,a0⟩:=Token.fx (Z ((r.at_+1)-1).toNat);refine wRD 1 [(3,.o (sL z r.l.length A)),(7,.o (iI (r.at_+1))),(11,.o (.string ⟨⟨(r.l.getD ((r.at_+1)-1).toNat default).text.b⟩⟩))] 16 27 [2] [(2,(.string ⟨⟨(r.l.getD ((r.at_+1)-1).toNat default).text.b⟩⟩))] (vA (ql 27 0 (hc0 (HS.hc T (i:=0) rfl)) rfl rfl) (vA (ql 3 1 (hc0 (HS.hc T (i:=0) rfl)) rfl rfl) (vA (vi (n:=(r.at_+1)-1) (by omega)) (vA (Sv.ix (j:=(r.at_+1)-1) (SR.sv E T) (by omega) (by(rw[a9];omega))) (vA (ql 9 1 (hc0 (Token.vw (Z ((r.at_+1)-1).toNat) (by(rw[a9];omega)))) rfl rfl) trivial))))) rfl rfl fun _=>ah ⟨.inr rfl,_,rfl,(r.l.getD ((r.at_+1)-1).toNat default).text.b,(⟨r.l,r.at_+1,r.fin,r.bad⟩:RdrT),z,A,_,(Y),(HS.first T),rfl,(by(dsimp only;omega)),(by(dsimp only;omega)),E,(by intro h;first|cases h|omega|(dsimp only;omega)|(simp at h)),(by assumption),(by(dsimp only;omega)),(by rfl),(nam_y a9 ba.1 c1)⟩
end Go.Proofs.Ytapgbjedgcpffaa.pa
