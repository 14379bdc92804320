/-
The reader of the parser: its plain steps. No condition but that its place lies in the list.
-/
import Derived.Test.YtkpgbdkkgcdhmaaGreatZPL1
import Derived.Test.YtkpgbdkkgcdhmaaGreatZPPT
noncomputable section
namespace Go.Proofs.YtkpgbdkkgcdhmaaGreat.pa
open Go.R
set_option maxRecDepth 10000
set_option linter.unusedVariables false
set_option linter.unusedSimpArgs false
open w1 w3 l1 pt
def nxT(r:RdrT):Token:=if r.bad=true\/(r.l.length:Int)<=r.at_ then default else r.l.getD r.at_.toNat default
theorem nx_no{r:RdrT}(h:r.bad=true\/(r.l.length:Int)<=r.at_):(⟨0,⟨[]⟩,0⟩:Token)=nxT r:=(if_pos h).symm
theorem nx_yes{r:RdrT}(h:r.bad=false/\¬(r.l.length:Int)<=r.at_):r.l.getD r.at_.toNat default=nxT r:=(if_neg (fun k=>k.elim (by rw[h.1];decide) h.2)).symm
def offV(l:List Token)(i A:Int):Int:=if i<(l.length:Int) then(l.getD i.toNat default).at_ else A
def isB(r:RdrT)(s:List UInt8):Bool:= !r.bad&&isS r.l r.at_.toNat s
def kwB(r:RdrT)(s:List UInt8):Bool:= !r.bad&&isK r.l r.at_.toNat s
def anB(r:RdrT):Bool:= !r.bad&&isN r.l r.at_.toNat
theorem kW{r:RdrT}:nxT r=if r.bad=true then default else r.l.getD r.at_.toNat default:=by
 unfold nxT;cases hb:r.bad with
 |true=>simp
 |false=>
  by_cases h:(r.l.length:Int)<=r.at_
  ·rw[if_pos (.inr h),if_neg (by decide),bM (by omega)]
  rw[if_neg (by simp[h]),if_neg (by decide)]
theorem isB_of{r:RdrT}{s:List UInt8}:((nxT r).kind==3&&(nxT r).text.b==s)=isB r s:=by
 unfold isB isS;rw[kW,a0J];cases r.bad with
 |true=>simp;intro h;cases h
 |false=>simp
theorem anB_of{r:RdrT}:((nxT r).kind==1&& !(jj (nxT r).text.b))=anB r:=by
 unfold anB isN;rw[kW,a0J];cases r.bad with
 |true=>simp;intro h;cases h
 |false=>simp
theorem isB_lt{ts:List Token}{r:RdrT}{s:List UInt8}(E:r.l=ts)(ha:0<=r.at_/\r.at_<=(ts.length:Int))(h:isB r s=true):r.at_<(ts.length:Int):=by
 unfold isB isS at h;rcases a0k r.at_.toNat r.l.length with A|A
 ·rw[E]at A;omega
 rw[bM A]at h;simp at h;exact absurd h.2.1 (by decide)
theorem anB_lt{ts:List Token}{r:RdrT}(E:r.l=ts)(ha:0<=r.at_/\r.at_<=(ts.length:Int))(h:anB r=true):r.at_<(ts.length:Int):=by
 unfold anB isN at h;rcases a0k r.at_.toNat r.l.length with A|A
 ·rw[E]at A;omega
 rw[bM A]at h;simp at h;exact absurd h.2.1 (by decide)
theorem acc_y{ts:List Token}{r:RdrT}{s:List UInt8}(A:r.l=ts)(h:isB r s=true):isB r s=true->r.bad=false/\isS ts r.at_.toNat s=true/\r.at_+1=r.at_+1/\r.bad=false:=fun _=>by unfold isB at h;rw[a02,a0I,A]at h;exact⟨h.1,h.2,rfl,h.1⟩
theorem acc_n{ts:List Token}{r:RdrT}{s:List UInt8}(A:r.l=ts)(h:isB r s=false):isB r s=false->r.at_=r.at_/\r.bad=r.bad/\(r.bad=false->¬isS ts r.at_.toNat s=true):=fun _=>⟨rfl,rfl,fun hb k=>by
 unfold isB at h;rw[hb,A,k]at h;cases h⟩
theorem kwB_of{r:RdrT}{s:List UInt8}:kwB r s=true↔((nxT r).kind=1/\(nxT r).text.b=s):=by
 unfold kwB isK;rw[kW];cases r.bad with
 |true=>simp;intro h;cases h
 |false=>simp
theorem kwB_f{r:RdrT}{s:List UInt8}(h:(nxT r).kind≠1\/(nxT r).text.b≠s):kwB r s=false:=by
 cases e:kwB r s with
 |false=>rfl
 |true=>exact absurd (kwB_of.1 e) (fun k=>h.elim (fun h=>h k.1) fun h=>h k.2)
theorem kwB_t{r:RdrT}{s:List UInt8}(h:(nxT r).kind=1/\(nxT r).text.b=s):kwB r s=true:=kwB_of.2 h
theorem kwB_lt{ts:List Token}{r:RdrT}{s:List UInt8}(E:r.l=ts)(ha:0<=r.at_/\r.at_<=(ts.length:Int))(h:kwB r s=true):r.at_<(ts.length:Int):=by
 unfold kwB isK at h;rcases a0k r.at_.toNat r.l.length with A|A
 ·rw[E]at A;omega
 rw[bM A]at h;simp at h;exact absurd h.2.1 (by decide)
theorem kac_y{ts:List Token}{r:RdrT}{s:List UInt8}(A:r.l=ts)(h:kwB r s=true):kwB r s=true->r.bad=false/\isK ts r.at_.toNat s=true/\r.at_+1=r.at_+1/\r.bad=false:=fun _=>by unfold kwB at h;rw[a02,a0I,A]at h;exact⟨h.1,h.2,rfl,h.1⟩
theorem kac_n{ts:List Token}{r:RdrT}{s:List UInt8}(A:r.l=ts)(h:kwB r s=false):kwB r s=false->r.at_=r.at_/\r.bad=r.bad/\(r.bad=false->¬isK ts r.at_.toNat s=true):=fun _=>⟨rfl,rfl,fun hb k=>by
 unfold kwB at h;rw[hb,A,k]at h;cases h⟩
theorem acc_c{b:Bool}{P:Prop}(h:b=true):b=false->P:=fun k=>by rw[h]at k;cases k
theorem acc_d{b:Bool}{P:Prop}(h:b=false):b=true->P:=fun k=>by rw[h]at k;cases k
theorem exp_n{ts:List Token}{s:List UInt8}{r:RdrT}{j:Int}(A:0<=r.at_)(q:j=r.at_/\True/\(r.bad=false->¬isS ts r.at_.toNat s=true)):Oc (fun _=>fe ts s r.at_.toNat) r.bad r.at_ () j true:=⟨fun _=>⟨rfl,q.1⟩,fun hb=>by unfold fe;rw[if_neg (q.2.2 hb)];exact .fail (by have:=q.1;omega)⟩
theorem exp_y{ts:List Token}{s:List UInt8}{r:RdrT}{j:Int}{b:Bool}(A:0<=r.at_)(q:r.bad=false/\isS ts r.at_.toNat s=true/\j=r.at_+1/\b=false):Oc (fun _=>fe ts s r.at_.toNat) r.bad r.at_ () j b:=Oc.of q.1 (by unfold fe;rw[if_pos q.2.1,q.2.2.2];exact .val (by have:=q.2.2.1;omega))
theorem my{ts:List Token}{r:RdrT}(A:r.l=ts):anB r=true↔r.bad=false/\isN ts r.at_.toNat=true:=by unfold anB;rw[a02,a0I,A]
theorem nam_n{ts:List Token}{r:RdrT}{x:Str}(E:r.l=ts)(A:0<=r.at_)(h:anB r=false):Oc (fun _=>eZ ts r.at_.toNat) r.bad r.at_ x r.at_ true:=⟨fun _=>⟨rfl,rfl⟩,fun hb=>by
 unfold eZ;rw[if_neg (fun k=>by rw[(my E).2 ⟨hb,k⟩]at h;cases h)];exact .fail (by omega)⟩
theorem nam_y{ts:List Token}{r:RdrT}(T:r.l=ts)(O:0<=r.at_)(h:anB r=true):Oc (fun _=>eZ ts r.at_.toNat) r.bad r.at_ (⟨(r.l.getD (r.at_+1-1).toNat default).text.b⟩:Str) (r.at_+1) r.bad:=by obtain⟨A,E⟩:=(my T).1 h;refine Oc.of A ?_;unfold eZ;rw[if_pos E,A,T,show(r.at_+1-1).toNat=r.at_.toNat by omega];exact .val (by omega)
theorem reserved_c(ex:FuncId)(s:List UInt8)(H:Heap):kKt ex 116 [(.string ⟨⟨s⟩⟩)] H fun v H'=> ∃(o:Bool),H'=H/\v= .bool o/\o=jj s:=by
 refine av Tryz.func116 rfl rfl (aj 1 rfl (wT 3 [] 2 2 [] [(2,(.bool false))] rfl fun _=>wT 4 [] 3 3 [] [(3,(.string ⟨⟨s⟩⟩))] rfl fun _=>wT 1 [] 4 5 [] [(4,(.bool (s==([97,114,114,97,121]:List UInt8))))] rfl fun _=>zi 1 1 (fun Z=>?_) fun Z=>?_))
 ·have c4:=Z;try simp only[BS]at c4
  refine bI 1 (v:=(s==([97,114,114,97,121]:List UInt8))) rfl Z rfl rfl (wT 1 [] 2 2 [] [(2,(.bool true))] rfl fun _=>ae ⟨.inr rfl,_,rfl,true,rfl,rfl,(by simp_all[jj,resL])⟩)
 refine wT 1 [] 4 6 [] [(4,(.bool (s==([102,117,110,99]:List UInt8))))] rfl fun _=>zi 1 1 (fun al=>?_) fun al=>?_
 ·have c7:=al;try simp only[BS]at c7
  refine bI 1 (v:=(s==([102,117,110,99]:List UInt8))) rfl al rfl rfl (wT 1 [] 2 2 [] [(2,(.bool true))] rfl fun _=>ae ⟨.inr rfl,_,rfl,true,rfl,rfl,(by simp_all[jj,resL])⟩)
 refine wT 1 [] 4 7 [] [(4,(.bool (s==([118,97,114]:List UInt8))))] rfl fun _=>zi 1 1 (fun A=>?_) fun A=>?_
 ·have an:=A;try simp only[BS]at an
  refine bI 1 (v:=(s==([118,97,114]:List UInt8))) rfl A rfl rfl (wT 1 [] 2 2 [] [(2,(.bool true))] rfl fun _=>ae ⟨.inr rfl,_,rfl,true,rfl,rfl,(by simp_all[jj,resL])⟩)
 refine wT 1 [] 4 8 [] [(4,(.bool (s==([114,101,116,117,114,110]:List UInt8))))] rfl fun _=>zi 1 1 (fun E=>?_) fun E=>?_
 ·have ar:=E;try simp only[BS]at ar
  refine bI 1 (v:=(s==([114,101,116,117,114,110]:List UInt8))) rfl E rfl rfl (wT 1 [] 2 2 [] [(2,(.bool true))] rfl fun _=>ae ⟨.inr rfl,_,rfl,true,rfl,rfl,(by simp_all[jj,resL])⟩)
 refine wT 1 [] 4 9 [] [(4,(.bool (s==([105,102]:List UInt8))))] rfl fun _=>zi 1 1 (fun O=>?_) fun O=>?_
 ·have ax:=O;try simp only[BS]at ax
  refine bI 1 (v:=(s==([105,102]:List UInt8))) rfl O rfl rfl (wT 1 [] 2 2 [] [(2,(.bool true))] rfl fun _=>ae ⟨.inr rfl,_,rfl,true,rfl,rfl,(by simp_all[jj,resL])⟩)
 refine wT 1 [] 4 10 [] [(4,(.bool (s==([101,108,115,101]:List UInt8))))] rfl fun _=>zi 1 1 (fun T=>?_) fun T=>?_
 ·have a1:=T;try simp only[BS]at a1
  refine bI 1 (v:=(s==([101,108,115,101]:List UInt8))) rfl T rfl rfl (wT 1 [] 2 2 [] [(2,(.bool true))] rfl fun _=>ae ⟨.inr rfl,_,rfl,true,rfl,rfl,(by simp_all[jj,resL])⟩)
 refine wT 1 [] 4 11 [] [(4,(.bool (s==([119,104,105,108,101]:List UInt8))))] rfl fun _=>zi 1 1 (fun U=>?_) fun U=>?_
 ·have a2:=U;try simp only[BS]at a2
  refine bI 1 (v:=(s==([119,104,105,108,101]:List UInt8))) rfl U rfl rfl (wT 1 [] 2 2 [] [(2,(.bool true))] rfl fun _=>ae ⟨.inr rfl,_,rfl,true,rfl,rfl,(by simp_all[jj,resL])⟩)
 refine wT 1 [] 4 12 [] [(4,(.bool (s==([111,117,116]:List UInt8))))] rfl fun _=>zi 1 0 (fun V=>?_) fun V=>?_
 ·have a3:=V;try simp only[BS]at a3
  refine bI 1 (v:=(s==([111,117,116]:List UInt8))) rfl V rfl rfl (wT 1 [] 2 2 [] [(2,(.bool true))] rfl fun _=>ae ⟨.inr rfl,_,rfl,true,rfl,rfl,(by simp_all[jj,resL])⟩)
 refine wT 1 [] 4 13 [] [(4,(.bool (s==([116,114,97,112]:List UInt8))))] rfl fun _=>zi 1 3 (fun Y=>?_) fun Y=>?_
 ·try simp only[BS]at Y
  refine wT 1 [] 2 2 [] [(2,(.bool true))] rfl fun _=>ae ⟨.inr rfl,_,rfl,true,rfl,rfl,(by simp_all[jj,resL])⟩
 try simp only[BS]at Y
 refine wT 1 [] 2 2 [] [(2,(.bool false))] rfl fun _=>ae ⟨.inr rfl,_,rfl,false,rfl,rfl,(by simp_all[jj,resL])⟩
theorem reserved_c_q(ex:FuncId)(s:List UInt8)(H:Heap):kKt ex 116 [(.string ⟨⟨s⟩⟩)] H fun v H'=>v=(.bool (jj s))/\H'=H:=
 cq (reserved_c ex s H) (by rintro _ _ ⟨_,rfl,rfl,rfl⟩;exact⟨rfl,rfl⟩)
variable (ts:List Token)
variable (ex:FuncId) {F:Fz} {H:Heap} {R:List Fp}
theorem j6{E:Option Addr}{O:Nat}{a1:Nat}(r:RdrT)(hs:HS (.of H [a1]) F H [(fP a1 [(sL E r.l.length O),(iI r.at_),(iI r.fin),(.bool r.bad)])] R)(V:SR F (sL E r.l.length O) r.l)(a5:in64 r.at_)(a6:in64 r.fin)(bk: ∀i,(ts.getD i default).text.b.length<=1000000)(bf:r.l=ts)(ba:0<=r.at_/\r.at_<=(ts.length:Int))(bb:ts.length<=1000000):kKt ex 78 [(pT a1 0)] H fun v H'=> ∃(t:Token) (F':Fz),Fz.le F F'/\HS (.of H [a1]) F' H' [(fP a1 [(sL E r.l.length O),(iI r.at_),(iI r.fin),(.bool r.bad)])] R/\v= .agg ⟨[.int .i64 t.kind,.string ⟨⟨t.text.b⟩⟩,.int .i64 t.at_]⟩/\in64 t.kind/\in64 t.at_/\t=nxT r:=by
 refine av Tryz.func78 rfl rfl (aj 1 rfl (ab (aw (aH hs rfl) rfl rfl ?_)));rintro _ H2 _ ⟨Z,rfl,(A:HS _ _ _ [(fP a1 [(sL E r.l.length O),(iI r.at_),(iI r.fin),(.bool r.bad)]),(fP Z [(iI 0),(.string ⟨⟨[]⟩⟩),(iI 0)])] _),_⟩;refine ad 3 rfl (wRD 1 [(3,.o (.bool r.bad)),(8,.o (iI r.at_)),(12,.o (sL E r.l.length O))] 3 18 [] [(18,(.bool (r.bad||(decide ((r.l.length:Int)<=r.at_)))))] (vA (ql 4 3 (hc0 (HS.hc A (i:=0) rfl)) rfl rfl) (vA (fun(g1:r.bad=false)=>(ql 3 1 (hc0 (HS.hc A (i:=0) rfl)) rfl rfl)) (vA (fun(g1:r.bad=false)=>(ql 78 0 (hc0 (HS.hc A (i:=0) rfl)) rfl rfl)) trivial))) rfl rfl fun _=>zi 1 2 (fun U=>?_) fun U=>?_)
 ·try simp only[BS]at U
  have c1:=U;refine ab (wTo 1 0 [] 19 19 [] [(19,(aG [(iI 0),(.string ⟨⟨[]⟩⟩),(iI 0)]))] rfl fun _=>ay (am (q:=1) A rfl rfl rfl rfl rfl rfl rfl rfl rfl) rfl ?_);rintro _ H6 _ ⟨(Y:HS _ _ _ [_,_] _),_⟩;refine ad 1 rfl (ae ⟨.inr rfl,_,(rC rfl (cM rfl rfl (HS.hc Y (i:=1) rfl) rfl) rN),(⟨0,⟨[]⟩,0⟩:Token),_,fR,(HS.first Y),rfl,(by(dsimp only;omega)),(by(dsimp only;omega)),(nx_no c1)⟩)
 try simp only[BS]at U
 have c1:=U;refine aS rfl (zfm (pT a1 0) (wfv (v:=(pT a1 0)) (eG rfl) (zp 0 (zl 0 (HS.hc A.log0 (i:=0) rfl) (zfm (pT a1 0) ?_)))));refine wfv (v:=(pT a1 0)) (eG rfl) (zp 1 (zl 1 (HS.hc A.log0 (i:=0) rfl) (zy Token r.at_ (SR.sv V A.log0) ?_)));obtain⟨a8,ar,an⟩:=Sv.at (SR.sv V A.log0) (bo (x:=default) (show r.at_.toNat<r.l.length from by omega));obtain⟨rfl,a3,a4⟩:=ar;refine aV (v:=(aG [(iI (r.l.getD r.at_.toNat default).kind),(.string ⟨⟨(r.l.getD r.at_.toNat default).text.b⟩⟩),(iI (r.l.getD r.at_.toNat default).at_)])) (id:= .l (sB (sL E r.l.length O))) (cV (i:=0) rfl rfl rfl an rfl rfl rfl) rfl rfl (ej rfl) (kb rfl) (iC (id:= .x [Z]) (am (q:=1) A.log0 rfl rfl rfl rfl rfl rfl rfl rfl rfl) rfl (by rintro _ _ _ ⟨_,hwr⟩;exact e8 rfl rfl (Wr.did hwr)) (kb rfl) ?_);rintro _ H9 _ ⟨T,_⟩ ax al;replace T:=HS.lg T A al;generalize ({H9 with log:=ax}:Heap)=a7 at T⊢;have T:HS _ _ _ [_,(fP Z [(iI (r.l.getD r.at_.toNat default).kind),(.string ⟨⟨(r.l.getD r.at_.toNat default).text.b⟩⟩),(iI (r.l.getD r.at_.toNat default).at_)])] _:=T;refine bR (aj 1 rfl (ae ⟨.inr rfl,_,(rC rfl (cM rfl rfl (HS.hc T (i:=1) rfl) rfl) rN),(r.l.getD r.at_.toNat default),_,fR,(HS.first T),rfl,(by omega),(by omega),(nx_yes c1)⟩))
theorem offset_c{A:Option Addr}{E:Nat}{ar:Nat}(r:RdrT)(hs:HS (.of H [ar]) F H [(fP ar [(sL A r.l.length E),(iI r.at_),(iI r.fin),(.bool r.bad)])] R)(O:SR F (sL A r.l.length E) r.l)(Z:in64 r.at_)(al:in64 r.fin)(a3: ∀i,(ts.getD i default).text.b.length<=1000000)(a2:r.l=ts)(ax:0<=r.at_/\r.at_<=(ts.length:Int))(a1:ts.length<=1000000):kKt ex 43 [(pT ar 0)] H fun v H'=> ∃(x:Int) (F':Fz),Fz.le F F'/\HS (.of H [ar]) F' H' [(fP ar [(sL A r.l.length E),(iI r.at_),(iI r.fin),(.bool r.bad)])] R/\v= .int .i64 x/\x=offV r.l r.at_ r.fin:=by
 refine av Tryz.func43 rfl rfl (aj 1 rfl (wT 3 [] 2 2 [] [(2,(iI 0))] rfl fun _=>wRD 1 [(3,.o (iI r.at_)),(7,.o (sL A r.l.length E))] 3 12 [] [(12,(.bool (decide (r.at_<(r.l.length:Int)))))] (vA (ql 3 1 (hc0 (HS.hc hs (i:=0) rfl)) rfl rfl) (vA (ql 78 0 (hc0 (HS.hc hs (i:=0) rfl)) rfl rfl) trivial)) rfl rfl fun _=>zd 1 2 (fun U=>?_) fun U=>?_))
 ·obtain⟨an,T⟩:=Sv.view (SR.sv O hs);obtain⟨V,Y⟩:=Token.fx (T r.at_.toNat);refine wRD 1 [(3,.o (sL A r.l.length E)),(7,.o (iI r.at_)),(10,.o (iI (r.l.getD r.at_.toNat default).at_))] 13 23 [2] [(2,(iI (r.l.getD r.at_.toNat default).at_))] (vA (ql 78 0 (hc0 (HS.hc hs (i:=0) rfl)) rfl rfl) (vA (ql 3 1 (hc0 (HS.hc hs (i:=0) rfl)) rfl rfl) (vA (Sv.ix (j:=r.at_) (SR.sv O hs)) (vA (ql 3 2 (hc0 (Token.vw (T r.at_.toNat) (by omega))) rfl rfl) trivial)))) rfl rfl fun _=>ae ⟨.inr rfl,_,rfl,(r.l.getD r.at_.toNat default).at_,_,fR,(HS.first hs),rfl,(by(unfold offV;first|rw[if_pos (by omega)]|rw[if_neg (by omega)]))⟩
 refine wU 1 [(3,.o (iI r.fin))] 24 27 [2] [(2,(iI r.fin))] (ql 3 2 (HS.hc hs (i:=0) rfl) rfl rfl) rfl fun _=>ae ⟨.inr rfl,_,rfl,r.fin,_,fR,(HS.first hs),rfl,(by(unfold offV;first|rw[if_pos (by omega)]|rw[if_neg (by omega)]))⟩
theorem is_c{A:Option Addr}{E:Nat}{a1:Nat}(r:RdrT)(s:List UInt8)(hs:HS (.of H [a1]) F H [(fP a1 [(sL A r.l.length E),(iI r.at_),(iI r.fin),(.bool r.bad)])] R)(U:SR F (sL A r.l.length E) r.l)(ar:in64 r.at_)(ax:in64 r.fin)(a5: ∀i,(ts.getD i default).text.b.length<=1000000)(a4:r.l=ts)(a2:0<=r.at_/\r.at_<=(ts.length:Int))(a3:ts.length<=1000000):kKt ex 82 [(pT a1 0),(.string ⟨⟨s⟩⟩)] H fun v H'=> ∃(o:Bool) (F':Fz),Fz.le F F'/\HS (.of H [a1]) F' H' [(fP a1 [(sL A r.l.length E),(iI r.at_),(iI r.fin),(.bool r.bad)])] R/\v= .bool o/\o=isB r s:=by refine av Tryz.func82 rfl rfl (aj 1 rfl (wT 2 [] 4 4 [] [(4,(.bool false))] rfl fun _=>ab (zm (pT a1 0) (zc (j6 ts ex r (HS.callOwn hs (i:=0) rfl) U (by omega) (by omega) (by omega) (by omega) (by omega) (by omega)) ?_))));rintro _ H2 ⟨t2,F2,Y,O,rfl,Z,al,rfl⟩;replace O:HS _ _ _ [(fP a1 [(sL A r.l.length E),(iI r.at_),(iI r.fin),(.bool r.bad)])] _:=HS.backOwn hs (i:=0) rfl rfl (fun _ hb=>hb) O;refine aw (aH O rfl) rfl rfl ?_;rintro _ H4 _ ⟨V,rfl,(an:HS _ _ _ [_,(fP V [(iI 0),(.string ⟨⟨[]⟩⟩),(iI 0)])] _),_⟩;refine ay (am (q:=1) an rfl rfl rfl rfl rfl rfl rfl rfl rfl) rfl ?_;rintro _ H5 _ ⟨(T:HS _ _ _ [_,(fP V [(iI (nxT r).kind),(.string ⟨⟨(nxT r).text.b⟩⟩),(iI (nxT r).at_)])] _),_⟩;refine ad 2 rfl (wR 1 [(1,.o (iI (nxT r).kind)),(5,.o (.string ⟨⟨(nxT r).text.b⟩⟩))] 8 16 [4] [(4,(.bool (((nxT r).kind==3)&&((nxT r).text.b==s))))] (vA (ql 3 0 (HS.hc T (i:=1) rfl) rfl rfl) (vA (fun(g1:((nxT r).kind==3)=true)=>(ql 9 1 (HS.hc T (i:=1) rfl) rfl rfl)) trivial)) rfl fun _=>ae ⟨.inr rfl,_,rfl,(((nxT r).kind==3)&&((nxT r).text.b==s)),_,(Y),(HS.first T),rfl,(isB_of)⟩)
theorem atName_c{A:Option Addr}{E:Nat}{ar:Nat}(r:RdrT)(hs:HS (.of H [ar]) F H [(fP ar [(sL A r.l.length E),(iI r.at_),(iI r.fin),(.bool r.bad)])] R)(U:SR F (sL A r.l.length E) r.l)(a1:in64 r.at_)(a2:in64 r.fin)(a5: ∀i,(ts.getD i default).text.b.length<=1000000)(a4:r.l=ts)(ax:0<=r.at_/\r.at_<=(ts.length:Int))(a3:ts.length<=1000000):kKt ex 79 [(pT ar 0)] H fun v H'=> ∃(o:Bool) (F':Fz),Fz.le F F'/\HS (.of H [ar]) F' H' [(fP ar [(sL A r.l.length E),(iI r.at_),(iI r.fin),(.bool r.bad)])] R/\v= .bool o/\o=anB r:=by refine av Tryz.func79 rfl rfl (aj 1 rfl (wT 2 [] 2 2 [] [(2,(.bool false))] rfl fun _=>ab (zm (pT ar 0) (zc (j6 ts ex r (HS.callOwn hs (i:=0) rfl) U (by omega) (by omega) (by omega) (by omega) (by omega) (by omega)) ?_))));rintro _ H2 ⟨t2,F2,Y,O,rfl,Z,al,rfl⟩;replace O:HS _ _ _ [(fP ar [(sL A r.l.length E),(iI r.at_),(iI r.fin),(.bool r.bad)])] _:=HS.backOwn hs (i:=0) rfl rfl (fun _ hb=>hb) O;refine aw (aH O rfl) rfl rfl ?_;rintro _ H4 _ ⟨V,rfl,(an:HS _ _ _ [_,(fP V [(iI 0),(.string ⟨⟨[]⟩⟩),(iI 0)])] _),_⟩;refine ay (am (q:=1) an rfl rfl rfl rfl rfl rfl rfl rfl rfl) rfl ?_;rintro _ H5 _ ⟨(T:HS _ _ _ [_,(fP V [(iI (nxT r).kind),(.string ⟨⟨(nxT r).text.b⟩⟩),(iI (nxT r).at_)])] _),_⟩;refine ad 2 rfl (wR 1 [(1,.o (iI (nxT r).kind)),(5,.o (.string ⟨⟨(nxT r).text.b⟩⟩)),(6,.o (.bool (jj (nxT r).text.b)))] 6 14 [2] [(2,(.bool (((nxT r).kind==1)&&(!(jj (nxT r).text.b)))))] (vA (ql 3 0 (HS.hc T (i:=1) rfl) rfl rfl) (vA (fun(g1:((nxT r).kind==1)=true)=>(ql 9 1 (HS.hc T (i:=1) rfl) rfl rfl)) (vA (fun(g1:((nxT r).kind==1)=true)=>(reserved_c_q ex (nxT r).text.b H5)) trivial))) rfl fun _=>ae ⟨.inr rfl,_,rfl,(((nxT r).kind==1)&&(!(jj (nxT r).text.b))),_,(Y),(HS.first T),rfl,(anB_of)⟩)
theorem dL{A:Option Addr}{E:Nat}{a1:Nat}(r:RdrT)(s:List UInt8)(hs:HS (.of H [a1]) F H [(fP a1 [(sL A r.l.length E),(iI r.at_),(iI r.fin),(.bool r.bad)])] R)(O:SR F (sL A r.l.length E) r.l)(an:in64 r.at_)(ar:in64 r.fin)(a5: ∀i,(ts.getD i default).text.b.length<=1000000)(a2:r.l=ts)(a3:0<=r.at_/\r.at_<=(ts.length:Int))(a4:ts.length<=1000000):kKt ex 81 [(pT a1 0),(.string ⟨⟨s⟩⟩)] H fun v H'=> ∃(o:Bool) (r':RdrT) (U:Option Addr) (Z:Nat) (F':Fz),Fz.le F F'/\HS (.of H [a1]) F' H' [(fP a1 [(sL U r'.l.length Z),(iI r'.at_),(iI r'.fin),(.bool r'.bad)])] R/\v= .bool o/\in64 r'.at_/\in64 r'.fin/\SR F' (sL U r'.l.length Z) r'.l/\o=isB r s/\(isB r s=true->r.bad=false/\isS ts r.at_.toNat s=true/\r'.at_=r.at_+1/\r'.bad=false)/\(isB r s=false->r'.at_=r.at_/\r'.bad=r.bad/\(r.bad=false->¬isS ts r.at_.toNat s=true))/\(r'.l=ts)/\(r.at_<=r'.at_/\r'.at_<=(ts.length:Int))/\(r'.fin=r.fin):=by
 refine av Tryz.func81 rfl rfl (aj 1 rfl (wT 3 [] 4 4 [] [(4,(.bool false))] rfl fun _=>ab (wTo 2 0 [] 5 6 [] [(5,(pT a1 0)),(6,(.string ⟨⟨s⟩⟩))] rfl fun _=>zc (is_c ts ex r s (HS.callOwn hs (i:=0) rfl) O (by omega) (by omega) (by omega) (by omega) (by omega) (by omega)) ?_)));rintro _ H3 ⟨o3,F3,Y,T,rfl,rfl⟩;replace T:HS _ _ _ [(fP a1 [(sL A r.l.length E),(iI r.at_),(iI r.fin),(.bool r.bad)])] _:=HS.backOwn hs (i:=0) rfl rfl (fun _ hb=>hb) T;replace O:=O.mono Y;refine wTo 1 3 [] 8 8 [] [(8,(.bool (!(isB r s))))] rfl fun _=>ad 1 rfl (zi 1 2 (fun V=>?_) fun V=>?_)
 ·try simp only[BS]at V
  have c1:=V;refine wT 1 [] 4 4 [] [(4,(.bool false))] rfl fun _=>ae ⟨.inr rfl,_,rfl,false,r,A,E,_,(Y),(HS.first T),rfl,(by omega),(by omega),O,(c1.symm),(acc_d c1),(acc_n a2 c1),(by assumption),(by omega),(by rfl)⟩
 try simp only[BS]at V
 have c1:=V;have c2:=isB_lt a2 a3 c1;refine ab (wRo 7 0 [(3,.o (iI r.at_))] 9 15 [] [(13,(iI (r.at_+1))),(15,(pT a1 1))] (vA (ql 3 1 (HS.hc T (i:=0) rfl) rfl rfl) (vA (vi (n:=r.at_+1)) trivial)) rfl fun _=>ay (am (q:=0) T rfl rfl rfl rfl rfl rfl rfl rfl rfl) rfl ?_);rintro _ H8 _ ⟨(al:HS _ _ _ [(fP a1 [(sL A r.l.length E),(iI (r.at_+1)),(iI r.fin),(.bool r.bad)])] _),_⟩;refine ad 2 rfl (wT 1 [] 4 4 [] [(4,(.bool true))] rfl fun _=>ae ⟨.inr rfl,_,rfl,true,(⟨r.l,r.at_+1,r.fin,r.bad⟩:RdrT),A,E,_,(Y),(HS.first al),rfl,(by(dsimp only;omega)),(by(dsimp only;omega)),O,(c1.symm),(acc_y a2 c1),(acc_c c1),(by assumption),(by(dsimp only;omega)),(by rfl)⟩)
theorem bT{A:Option Addr}{E:Nat}{a6:Nat}(r:RdrT)(s:List UInt8)(hs:HS (.of H [a6]) F H [(fP a6 [(sL A r.l.length E),(iI r.at_),(iI r.fin),(.bool r.bad)])] R)(O:SR F (sL A r.l.length E) r.l)(a3:in64 r.at_)(a4:in64 r.fin)(bb: ∀i,(ts.getD i default).text.b.length<=1000000)(a7:r.l=ts)(a9:0<=r.at_/\r.at_<=(ts.length:Int))(ba:ts.length<=1000000):kKt ex 38 [(pT a6 0),(.string ⟨⟨s⟩⟩)] H fun v H'=> ∃(o:Bool) (r':RdrT) (U:Option Addr) (al:Nat) (F':Fz),Fz.le F F'/\HS (.of H [a6]) F' H' [(fP a6 [(sL U r'.l.length al),(iI r'.at_),(iI r'.fin),(.bool r'.bad)])] R/\v= .bool o/\in64 r'.at_/\in64 r'.fin/\SR F' (sL U r'.l.length al) r'.l/\o=kwB r s/\(kwB r s=true->r.bad=false/\isK ts r.at_.toNat s=true/\r'.at_=r.at_+1/\r'.bad=false)/\(kwB r s=false->r'.at_=r.at_/\r'.bad=r.bad/\(r.bad=false->¬isK ts r.at_.toNat s=true))/\(r'.l=ts)/\(r.at_<=r'.at_/\r'.at_<=(ts.length:Int))/\(r'.fin=r.fin):=by
 refine av Tryz.func38 rfl rfl (aj 1 rfl (wT 2 [] 4 4 [] [(4,(.bool false))] rfl fun _=>ab (zm (pT a6 0) (zc (j6 ts ex r (HS.callOwn hs (i:=0) rfl) O (by omega) (by omega) (by omega) (by omega) (by omega) (by omega)) ?_))));rintro _ H2 ⟨t2,F2,Y,Z,rfl,ax,a1,rfl⟩;replace Z:HS _ _ _ [(fP a6 [(sL A r.l.length E),(iI r.at_),(iI r.fin),(.bool r.bad)])] _:=HS.backOwn hs (i:=0) rfl rfl (fun _ hb=>hb) Z;replace O:=O.mono Y;refine aw (aH Z rfl) rfl rfl ?_;rintro _ H4 _ ⟨b3,rfl,(a2:HS _ _ _ [_,(fP b3 [(iI 0),(.string ⟨⟨[]⟩⟩),(iI 0)])] _),_⟩;refine ay (am (q:=1) a2 rfl rfl rfl rfl rfl rfl rfl rfl rfl) rfl ?_;rintro _ H5 _ ⟨(T:HS _ _ _ [_,(fP b3 [(iI (nxT r).kind),(.string ⟨⟨(nxT r).text.b⟩⟩),(iI (nxT r).at_)])] _),_⟩;refine ad 3 rfl (wR 1 [(1,.o (iI (nxT r).kind)),(5,.o (.string ⟨⟨(nxT r).text.b⟩⟩))] 8 16 [] [(16,(.bool (((nxT r).kind !=1)||((nxT r).text.b !=s))))] (vA (ql 3 0 (HS.hc T (i:=1) rfl) rfl rfl) (vA (fun(g1:((nxT r).kind !=1)=false)=>(ql 9 1 (HS.hc T (i:=1) rfl) rfl rfl)) trivial)) rfl fun _=>zi 1 2 (fun V=>?_) fun V=>?_)
 ·try simp only[BS]at V
  have c1:=kwB_f V;refine wT 1 [] 4 4 [] [(4,(.bool false))] rfl fun _=>ae ⟨.inr rfl,_,rfl,false,r,A,E,_,(Y),(HS.first T),rfl,(by omega),(by omega),O,(c1.symm),(acc_d c1),(kac_n a7 c1),(by assumption),(by omega),(by rfl)⟩
 try simp only[BS]at V
 have c1:=kwB_t V;have c2:=kwB_lt a7 a9 c1;refine ab (wRo 7 0 [(3,.o (iI r.at_))] 17 23 [] [(21,(iI (r.at_+1))),(23,(pT a6 1))] (vA (ql 3 1 (HS.hc T (i:=0) rfl) rfl rfl) (vA (vi (n:=r.at_+1)) trivial)) rfl fun _=>ay (am (q:=0) T rfl rfl rfl rfl rfl rfl rfl rfl rfl) rfl ?_);rintro _ a5 _ ⟨(an:HS _ _ _ [(fP a6 [(sL A r.l.length E),(iI (r.at_+1)),(iI r.fin),(.bool r.bad)]),_] _),_⟩;refine ad 2 rfl (wT 1 [] 4 4 [] [(4,(.bool true))] rfl fun _=>ae ⟨.inr rfl,_,rfl,true,(⟨r.l,r.at_+1,r.fin,r.bad⟩:RdrT),A,E,_,(Y),(HS.first an),rfl,(by(dsimp only;omega)),(by(dsimp only;omega)),O,(c1.symm),(kac_y a7 c1),(acc_c c1),(by assumption),(by(dsimp only;omega)),(by rfl)⟩)
theorem aI{Z:Option Addr}{an:Nat}{bl:Nat}(r:RdrT)(s:List UInt8)(hs:HS (.of H [bl]) F H [(fP bl [(sL Z r.l.length an),(iI r.at_),(iI r.fin),(.bool r.bad)])] R)(ax:SR F (sL Z r.l.length an) r.l)(a6:in64 r.at_)(a7:in64 r.fin)(b4: ∀i,(ts.getD i default).text.b.length<=1000000)(b3:r.l=ts)(bn:0<=r.at_/\r.at_<=(ts.length:Int))(b2:ts.length<=1000000):kKt ex 41 [(pT bl 0),(.string ⟨⟨s⟩⟩)] H fun v H'=> ∃(r':RdrT) (Y:Option Addr) (al:Nat) (F':Fz),Fz.le F F'/\HS (.of H [bl]) F' H' [(fP bl [(sL Y r'.l.length al),(iI r'.at_),(iI r'.fin),(.bool r'.bad)])] R/\v= .tuple #[]/\in64 r'.at_/\in64 r'.fin/\SR F' (sL Y r'.l.length al) r'.l/\(r'.bad=false->r.at_<r'.at_)/\(r'.l=ts)/\(r.at_<=r'.at_/\r'.at_<=(ts.length:Int))/\(r'.fin=r.fin)/\(Oc (fun n=>fe ts s r.at_.toNat) r.bad r.at_ () r'.at_ r'.bad):=by
 refine av Tryz.func41 rfl rfl (aj 1 rfl (ab (wTo 2 0 [] 4 5 [] [(4,(pT bl 0)),(5,(.string ⟨⟨s⟩⟩))] rfl fun _=>zc (dL ts ex r s (HS.callOwn hs (i:=0) rfl) ax (by omega) (by omega) (by omega) (by omega) (by omega) (by omega)) ?_)));rintro _ H2 ⟨o2,A,E,O,F2,ar,U,rfl,a4,a5,V,rfl,a2,a1,a9,ba,bb⟩;replace U:HS _ _ _ [(fP bl [(sL E A.l.length O),(iI A.at_),(iI A.fin),(.bool A.bad)])] _:=HS.backOwn hs (i:=0) rfl rfl (fun _ hb=>hb) U;refine wTo 1 3 [] 7 7 [] [(7,(.bool (!(isB r s))))] rfl fun _=>ad 1 rfl (zi 0 0 (fun T=>?_) fun T=>?_)
 ·try simp only[BS]at T
  have bf:=a1 T;have q:=(by assumption:isB r s=false->_) T;have q1:=q.1;refine ab (wTo 3 0 [] 8 10 [] [(10,(pT bl 3))] rfl fun _=>ay (am (q:=0) U rfl rfl rfl rfl rfl rfl rfl rfl rfl) rfl ?_);rintro _ H6 _ ⟨(a3:HS _ _ _ [(fP bl [(sL E A.l.length O),(iI A.at_),(iI A.fin),(.bool true)])] _),_⟩;refine ad 0 rfl (az ⟨.inl rfl,_,rfl,(⟨A.l,A.at_,A.fin,true⟩:RdrT),E,O,_,(ar),(HS.first a3),rfl,(by(dsimp only;omega)),(by(dsimp only;omega)),V,(by(intro h;first|cases h|omega|(dsimp only at h⊢;omega)|(simp at h))),(by assumption),(by assumption),(by assumption),(exp_n bn.1 ⟨q.1,trivial,q.2.2⟩)⟩)
 try simp only[BS]at T
 have bk:=a2 T;have q:=(by assumption:isB r s=true->_) T;have q1:=q.2.2.1;refine az ⟨.inl rfl,_,rfl,A,E,O,_,(ar),(HS.first U),rfl,(by omega),(by omega),V,(by(intro h;first|cases h|omega|(dsimp only at h⊢;omega)|(simp at h))),(by assumption),(by assumption),(by assumption),(exp_y bn.1 q)⟩
theorem j7{A:Option Addr}{E:Nat}{a5:Nat}(r:RdrT)(hs:HS (.of H [a5]) F H [(fP a5 [(sL A r.l.length E),(iI r.at_),(iI r.fin),(.bool r.bad)])] R)(O:SR F (sL A r.l.length E) r.l)(a3:in64 r.at_)(a4:in64 r.fin)(bf: ∀i,(ts.getD i default).text.b.length<=1000000)(a7:r.l=ts)(a8:0<=r.at_/\r.at_<=(ts.length:Int))(bb:ts.length<=1000000):kKt ex 39 [(pT a5 0)] H fun v H'=> ∃(x:List UInt8) (r':RdrT) (V:Option Addr) (an:Nat) (F':Fz),Fz.le F F'/\HS (.of H [a5]) F' H' [(fP a5 [(sL V r'.l.length an),(iI r'.at_),(iI r'.fin),(.bool r'.bad)])] R/\v= .string ⟨⟨x⟩⟩/\in64 r'.at_/\in64 r'.fin/\SR F' (sL V r'.l.length an) r'.l/\(r'.bad=false->r.at_<r'.at_)/\(r'.l=ts)/\(r.at_<=r'.at_/\r'.at_<=(ts.length:Int))/\(r'.fin=r.fin)/\(Oc (fun n=>eZ ts r.at_.toNat) r.bad r.at_ (⟨x⟩:Str) r'.at_ r'.bad):=by
 refine av Tryz.func39 rfl rfl (aj 1 rfl (wT 3 [] 2 2 [] [(2,(.string ⟨⟨[]⟩⟩))] rfl fun _=>ab (zm (pT a5 0) (zc (atName_c ts ex r (HS.callOwn hs (i:=0) rfl) O (by omega) (by omega) (by omega) (by omega) (by omega) (by omega)) ?_))));rintro _ H2 ⟨o2,F2,Z,T,rfl,rfl⟩;replace T:HS _ _ _ [(fP a5 [(sL A r.l.length E),(iI r.at_),(iI r.fin),(.bool r.bad)])] _:=HS.backOwn hs (i:=0) rfl rfl (fun _ hb=>hb) T;replace O:=O.mono Z;refine wTo 1 2 [] 5 5 [] [(5,(.bool (!(anB r))))] rfl fun _=>ad 1 rfl (zi 1 2 (fun Y=>?_) fun Y=>?_)
 ·try simp only[BS]at Y
  have c1:=Y;refine ab (wTo 3 0 [] 6 8 [] [(8,(pT a5 3))] rfl fun _=>ay (am (q:=0) T rfl rfl rfl rfl rfl rfl rfl rfl rfl) rfl ?_);rintro _ H6 _ ⟨(ar:HS _ _ _ [(fP a5 [(sL A r.l.length E),(iI r.at_),(iI r.fin),(.bool true)])] _),_⟩;refine ad 2 rfl (wT 1 [] 2 2 [] [(2,(.string ⟨⟨[]⟩⟩))] rfl fun _=>ae ⟨.inr rfl,_,rfl,[],(⟨r.l,r.at_,r.fin,true⟩:RdrT),A,E,_,(Z),(HS.first ar),rfl,(by(dsimp only;omega)),(by(dsimp only;omega)),O,(by intro h;first|cases h|omega|(dsimp only;omega)|(simp at h)),(by assumption),(by(dsimp only;omega)),(by rfl),(nam_n a7 a8.1 c1)⟩)
 try simp only[BS]at Y
 have c1:=Y;have c2:=anB_lt a7 a8 c1;refine ab (wRo 7 0 [(3,.o (iI r.at_))] 9 15 [] [(13,(iI (r.at_+1))),(15,(pT a5 1))] (vA (ql 3 1 (HS.hc T (i:=0) rfl) rfl rfl) (vA (vi (n:=r.at_+1)) trivial)) rfl fun _=>ay (am (q:=0) T rfl rfl rfl rfl rfl rfl rfl rfl rfl) rfl ?_);rintro _ H9 _ ⟨(U:HS _ _ _ [(fP a5 [(sL A r.l.length E),(iI (r.at_+1)),(iI r.fin),(.bool r.bad)])] _),_⟩;refine ad 2 rfl ?_;obtain⟨a2,al⟩:=Sv.view (SR.sv O U);obtain⟨ax,a1⟩:=Token.fx (al ((r.at_+1)-1).toNat);refine wRD 1 [(3,.o (sL A r.l.length E)),(7,.o (iI (r.at_+1))),(11,.o (.string ⟨⟨(r.l.getD ((r.at_+1)-1).toNat default).text.b⟩⟩))] 16 27 [2] [(2,(.string ⟨⟨(r.l.getD ((r.at_+1)-1).toNat default).text.b⟩⟩))] (vA (ql 78 0 (hc0 (HS.hc U (i:=0) rfl)) rfl rfl) (vA (ql 3 1 (hc0 (HS.hc U (i:=0) rfl)) rfl rfl) (vA (vi (n:=(r.at_+1)-1) (by omega)) (vA (Sv.ix (j:=(r.at_+1)-1) (SR.sv O U) (by omega) (by(rw[a7];omega))) (vA (ql 9 1 (hc0 (Token.vw (al ((r.at_+1)-1).toNat) (by(rw[a7];omega)))) rfl rfl) trivial))))) rfl rfl fun _=>ae ⟨.inr rfl,_,rfl,(r.l.getD ((r.at_+1)-1).toNat default).text.b,(⟨r.l,r.at_+1,r.fin,r.bad⟩:RdrT),A,E,_,(Z),(HS.first U),rfl,(by(dsimp only;omega)),(by(dsimp only;omega)),O,(by intro h;first|cases h|omega|(dsimp only;omega)|(simp at h)),(by assumption),(by(dsimp only;omega)),(by rfl),(nam_y a7 a8.1 c1)⟩
end Go.Proofs.YtkpgbdkkgcdhmaaGreat.pa
