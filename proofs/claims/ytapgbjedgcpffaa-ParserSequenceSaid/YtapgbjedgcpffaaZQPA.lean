/-
The reader of the parser: its plain steps. No condition but that its place lies in the list.
-/
import Derived.Test.YtapgbjedgcpffaaZQL1
import Derived.Test.YtapgbjedgcpffaaZQPT
noncomputable section
namespace Go.Proofs.Ytapgbjedgcpffaa.pa
open Go.R
set_option maxRecDepth 10000
set_option linter.unusedVariables false
set_option linter.unusedSimpArgs false
open w1 w3 l1 pt
def nxT(r:RdrT):Token:=if r.bad=true\/(r.l.length:Int)<=r.at_ then default else r.l.getD r.at_.toNat default
theorem nx_no{r:RdrT}(h:r.bad=true\/(r.l.length:Int)<=r.at_):(⟨0,⟨[]⟩,0⟩:Token)=nxT r:=(if_pos h).symm
theorem nx_yes{r:RdrT}(h:r.bad=false/\¬(r.l.length:Int)<=r.at_):r.l.getD r.at_.toNat default=nxT r:=(if_neg (fun k=>k.elim (by rw[h.1];decide) h.2)).symm
def offV(l:List Token)(i h:Int):Int:=if i<(l.length:Int) then(l.getD i.toNat default).at_ else h
def isB(r:RdrT)(s:List UInt8):Bool:= !r.bad&&isS r.l r.at_.toNat s
def kwB(r:RdrT)(s:List UInt8):Bool:= !r.bad&&isK r.l r.at_.toNat s
def anB(r:RdrT):Bool:= !r.bad&&isN r.l r.at_.toNat
theorem kW{r:RdrT}:nxT r=if r.bad=true then default else r.l.getD r.at_.toNat default:=by
 unfold nxT;cases hb:r.bad with
 |true=>simp
 |false=>
  by_cases h:(r.l.length:Int)<=r.at_
  ·rw[if_pos (.inr h),if_neg (by decide),bY (by omega)]
  rw[if_neg (by simp[h]),if_neg (by decide)]
theorem isB_of{r:RdrT}{s:List UInt8}:((nxT r).kind==3&&(nxT r).text.b==s)=isB r s:=by
 unfold isB isS;rw[kW,a1v];cases r.bad with
 |true=>simp;intro h;cases h
 |false=>simp
theorem anB_of{r:RdrT}:((nxT r).kind==1&& !(fN (nxT r).text.b))=anB r:=by
 unfold anB isN;rw[kW,a1v];cases r.bad with
 |true=>simp;intro h;cases h
 |false=>simp
theorem isB_lt{ts:List Token}{r:RdrT}{s:List UInt8}(O:r.l=ts)(ha:0<=r.at_/\r.at_<=(ts.length:Int))(h:isB r s=true):r.at_<(ts.length:Int):=by
 unfold isB isS at h;rcases a0k r.at_.toNat r.l.length with E|E
 ·rw[O]at E;omega
 rw[bY E]at h;simp at h;exact absurd h.2.1 (by decide)
theorem anB_lt{ts:List Token}{r:RdrT}(O:r.l=ts)(ha:0<=r.at_/\r.at_<=(ts.length:Int))(h:anB r=true):r.at_<(ts.length:Int):=by
 unfold anB isN at h;rcases a0k r.at_.toNat r.l.length with E|E
 ·rw[O]at E;omega
 rw[bY E]at h;simp at h;exact absurd h.2.1 (by decide)
theorem acc_y{ts:List Token}{r:RdrT}{s:List UInt8}(E:r.l=ts)(h:isB r s=true):isB r s=true->r.bad=false/\isS ts r.at_.toNat s=true/\r.at_+1=r.at_+1/\r.bad=false:=fun _=>by unfold isB at h;rw[a04,a0S,E]at h;exact⟨h.1,h.2,rfl,h.1⟩
theorem acc_n{ts:List Token}{r:RdrT}{s:List UInt8}(E:r.l=ts)(h:isB r s=false):isB r s=false->r.at_=r.at_/\r.bad=r.bad/\(r.bad=false->¬isS ts r.at_.toNat s=true):=fun _=>⟨rfl,rfl,fun hb k=>by
 unfold isB at h;rw[hb,E,k]at h;cases h⟩
theorem kwB_of{r:RdrT}{s:List UInt8}:kwB r s=true↔((nxT r).kind=1/\(nxT r).text.b=s):=by
 unfold kwB isK;rw[kW];cases r.bad with
 |true=>simp;intro h;cases h
 |false=>simp
theorem kwB_f{r:RdrT}{s:List UInt8}(h:(nxT r).kind≠1\/(nxT r).text.b≠s):kwB r s=false:=by
 cases e:kwB r s with
 |false=>rfl
 |true=>exact absurd (kwB_of.1 e) (fun k=>h.elim (fun h=>h k.1) fun h=>h k.2)
theorem kwB_t{r:RdrT}{s:List UInt8}(h:(nxT r).kind=1/\(nxT r).text.b=s):kwB r s=true:=kwB_of.2 h
theorem kwB_lt{ts:List Token}{r:RdrT}{s:List UInt8}(O:r.l=ts)(ha:0<=r.at_/\r.at_<=(ts.length:Int))(h:kwB r s=true):r.at_<(ts.length:Int):=by
 unfold kwB isK at h;rcases a0k r.at_.toNat r.l.length with E|E
 ·rw[O]at E;omega
 rw[bY E]at h;simp at h;exact absurd h.2.1 (by decide)
theorem kac_y{ts:List Token}{r:RdrT}{s:List UInt8}(E:r.l=ts)(h:kwB r s=true):kwB r s=true->r.bad=false/\isK ts r.at_.toNat s=true/\r.at_+1=r.at_+1/\r.bad=false:=fun _=>by unfold kwB at h;rw[a04,a0S,E]at h;exact⟨h.1,h.2,rfl,h.1⟩
theorem kac_n{ts:List Token}{r:RdrT}{s:List UInt8}(E:r.l=ts)(h:kwB r s=false):kwB r s=false->r.at_=r.at_/\r.bad=r.bad/\(r.bad=false->¬isK ts r.at_.toNat s=true):=fun _=>⟨rfl,rfl,fun hb k=>by
 unfold kwB at h;rw[hb,E,k]at h;cases h⟩
theorem acc_c{b:Bool}{P:Prop}(h:b=true):b=false->P:=fun k=>by rw[h]at k;cases k
theorem acc_d{b:Bool}{P:Prop}(h:b=false):b=true->P:=fun k=>by rw[h]at k;cases k
theorem exp_n{ts:List Token}{s:List UInt8}{r:RdrT}{j:Int}(E:0<=r.at_)(q:j=r.at_/\True/\(r.bad=false->¬isS ts r.at_.toNat s=true)):Oc (fun _=>ff ts s r.at_.toNat) r.bad r.at_ () j true:=⟨fun _=>⟨rfl,q.1⟩,fun hb=>by unfold ff;rw[if_neg (q.2.2 hb)];exact .fail (by have:=q.1;omega)⟩
theorem exp_y{ts:List Token}{s:List UInt8}{r:RdrT}{j:Int}{b:Bool}(E:0<=r.at_)(q:r.bad=false/\isS ts r.at_.toNat s=true/\j=r.at_+1/\b=false):Oc (fun _=>ff ts s r.at_.toNat) r.bad r.at_ () j b:=Oc.of q.1 (by unfold ff;rw[if_pos q.2.1,q.2.2.2];exact .val (by have:=q.2.2.1;omega))
theorem mo{ts:List Token}{r:RdrT}(h:r.l=ts):anB r=true↔r.bad=false/\isN ts r.at_.toNat=true:=by unfold anB;rw[a04,a0S,h]
theorem nam_n{ts:List Token}{r:RdrT}{x:Str}(O:r.l=ts)(E:0<=r.at_)(h:anB r=false):Oc (fun _=>eW ts r.at_.toNat) r.bad r.at_ x r.at_ true:=⟨fun _=>⟨rfl,rfl⟩,fun hb=>by
 unfold eW;rw[if_neg (fun k=>by rw[(mo O).2 ⟨hb,k⟩]at h;cases h)];exact .fail (by omega)⟩
theorem nam_y{ts:List Token}{r:RdrT}(U:r.l=ts)(T:0<=r.at_)(h:anB r=true):Oc (fun _=>eW ts r.at_.toNat) r.bad r.at_ (⟨(r.l.getD (r.at_+1-1).toNat default).text.b⟩:Str) (r.at_+1) r.bad:=by obtain⟨E,O⟩:=(mo U).1 h;refine Oc.of E ?_;unfold eW;rw[if_pos O,E,U,show(r.at_+1-1).toNat=r.at_.toNat by omega];exact .val (by omega)
theorem reserved_c(ex:FuncId)(s:List UInt8)(H:Heap):kKt ex 78 [(tX s)] H fun v H'=> ∃(o:Bool),H'=H/\v= .bool o/\o=fN s:=by
 refine aB Try.func78 rfl rfl (ak 1 rfl (wT 3 [] 2 2 [] [(2,(.bool false))] rfl fun _=>wT 4 [] 3 3 [] [(3,(tX s))] rfl fun _=>wT 1 [] 4 5 [] [(4,(.bool (s==([97,114,114,97,121]:List UInt8))))] rfl fun _=>zi 1 1 (fun an=>?_) fun an=>?_))
 ·have c4:=an;try simp only[BS]at c4
  refine bR 1 (v:=(s==([97,114,114,97,121]:List UInt8))) rfl an rfl rfl (wT 1 [] 2 2 [] [(2,(.bool true))] rfl fun _=>aj ⟨.inr rfl,_,rfl,true,rfl,rfl,(by simp_all[fN,kA])⟩)
 refine wT 1 [] 4 6 [] [(4,(.bool (s==([102,117,110,99]:List UInt8))))] rfl fun _=>zi 1 1 (fun ax=>?_) fun ax=>?_
 ·have c7:=ax;try simp only[BS]at c7
  refine bR 1 (v:=(s==([102,117,110,99]:List UInt8))) rfl ax rfl rfl (wT 1 [] 2 2 [] [(2,(.bool true))] rfl fun _=>aj ⟨.inr rfl,_,rfl,true,rfl,rfl,(by simp_all[fN,kA])⟩)
 refine wT 1 [] 4 7 [] [(4,(.bool (s==([118,97,114]:List UInt8))))] rfl fun _=>zi 1 1 (fun E=>?_) fun E=>?_
 ·have a1:=E;try simp only[BS]at a1
  refine bR 1 (v:=(s==([118,97,114]:List UInt8))) rfl E rfl rfl (wT 1 [] 2 2 [] [(2,(.bool true))] rfl fun _=>aj ⟨.inr rfl,_,rfl,true,rfl,rfl,(by simp_all[fN,kA])⟩)
 refine wT 1 [] 4 8 [] [(4,(.bool (s==([114,101,116,117,114,110]:List UInt8))))] rfl fun _=>zi 1 1 (fun O=>?_) fun O=>?_
 ·have a2:=O;try simp only[BS]at a2
  refine bR 1 (v:=(s==([114,101,116,117,114,110]:List UInt8))) rfl O rfl rfl (wT 1 [] 2 2 [] [(2,(.bool true))] rfl fun _=>aj ⟨.inr rfl,_,rfl,true,rfl,rfl,(by simp_all[fN,kA])⟩)
 refine wT 1 [] 4 9 [] [(4,(.bool (s==([105,102]:List UInt8))))] rfl fun _=>zi 1 1 (fun T=>?_) fun T=>?_
 ·have a3:=T;try simp only[BS]at a3
  refine bR 1 (v:=(s==([105,102]:List UInt8))) rfl T rfl rfl (wT 1 [] 2 2 [] [(2,(.bool true))] rfl fun _=>aj ⟨.inr rfl,_,rfl,true,rfl,rfl,(by simp_all[fN,kA])⟩)
 refine wT 1 [] 4 10 [] [(4,(.bool (s==([101,108,115,101]:List UInt8))))] rfl fun _=>zi 1 1 (fun U=>?_) fun U=>?_
 ·have a4:=U;try simp only[BS]at a4
  refine bR 1 (v:=(s==([101,108,115,101]:List UInt8))) rfl U rfl rfl (wT 1 [] 2 2 [] [(2,(.bool true))] rfl fun _=>aj ⟨.inr rfl,_,rfl,true,rfl,rfl,(by simp_all[fN,kA])⟩)
 refine wT 1 [] 4 11 [] [(4,(.bool (s==([119,104,105,108,101]:List UInt8))))] rfl fun _=>zi 1 1 (fun Y=>?_) fun Y=>?_
 ·have a5:=Y;try simp only[BS]at a5
  refine bR 1 (v:=(s==([119,104,105,108,101]:List UInt8))) rfl Y rfl rfl (wT 1 [] 2 2 [] [(2,(.bool true))] rfl fun _=>aj ⟨.inr rfl,_,rfl,true,rfl,rfl,(by simp_all[fN,kA])⟩)
 refine wT 1 [] 4 12 [] [(4,(.bool (s==([111,117,116]:List UInt8))))] rfl fun _=>zi 1 0 (fun Z=>?_) fun Z=>?_
 ·have a6:=Z;try simp only[BS]at a6
  refine bR 1 (v:=(s==([111,117,116]:List UInt8))) rfl Z rfl rfl (wT 1 [] 2 2 [] [(2,(.bool true))] rfl fun _=>aj ⟨.inr rfl,_,rfl,true,rfl,rfl,(by simp_all[fN,kA])⟩)
 refine wT 1 [] 4 13 [] [(4,(.bool (s==([116,114,97,112]:List UInt8))))] rfl fun _=>zi 1 3 (fun h=>?_) fun h=>?_
 ·try simp only[BS]at h
  refine wT 1 [] 2 2 [] [(2,(.bool true))] rfl fun _=>aj ⟨.inr rfl,_,rfl,true,rfl,rfl,(by simp_all[fN,kA])⟩
 try simp only[BS]at h
 refine wT 1 [] 2 2 [] [(2,(.bool false))] rfl fun _=>aj ⟨.inr rfl,_,rfl,false,rfl,rfl,(by simp_all[fN,kA])⟩
theorem reserved_c_q(ex:FuncId)(s:List UInt8)(H:Heap):kKt ex 78 [(tX s)] H fun v H'=>v=(.bool (fN s))/\H'=H:=
 cq (reserved_c ex s H) (by rintro _ _ ⟨_,rfl,rfl,rfl⟩;exact⟨rfl,rfl⟩)
variable (ts:List Token)
variable (ex:FuncId) {F:Fz} {H:Heap} {R:List Fp}
theorem jZ{O:Option Addr}{T:Nat}{h:Nat}(r:RdrT)(hs:HS (.of H [h]) F H [(rZ h r O T)] R)(Z:SR F (sL O r.l.length T) r.l)(a8:in64 r.at_)(a9:in64 r.fin)(b4:tQ ts)(b3:r.l=ts)(a5:0<=r.at_/\r.at_<=(ts.length:Int))(b2:ts.length<=1000000):kKt ex 55 [(pT h 0)] H fun v H'=> ∃(t:Token) (F':Fz),Fz.le F F'/\HS (.of H [h]) F' H' [(rZ h r O T)] R/\v= .agg ⟨[iI t.kind,tX t.text.b,iI t.at_]⟩/\in64 t.kind/\in64 t.at_/\t=nxT r:=by
 refine aB Try.func55 rfl rfl (ak 1 rfl (ab (aJ (aR hs rfl) rfl rfl ?_)));rintro _ H2 _ ⟨b1,rfl,(E:HS _ _ _ [(rZ h r O T),(fP b1 [(iI 0),(tX []),(iI 0)])] _),_⟩;refine ai 3 rfl (wRD 1 [(3,.o (.bool r.bad)),(8,.o (iI r.at_)),(12,.o (sL O r.l.length T))] 3 18 [] [(18,(.bool (r.bad||(decide ((r.l.length:Int)<=r.at_)))))] (vA (ql 4 3 (hc0 (HS.hc E (i:=0) rfl)) rfl rfl) (vA (fun(g1:r.bad=false)=>(ql 3 1 (hc0 (HS.hc E (i:=0) rfl)) rfl rfl)) (vA (fun(g1:r.bad=false)=>(ql 27 0 (hc0 (HS.hc E (i:=0) rfl)) rfl rfl)) trivial))) rfl rfl fun _=>zi 1 2 (fun Y=>?_) fun Y=>?_)
 ·try simp only[BS]at Y
  have c1:=Y;refine ab (wTo 1 0 [] 19 19 [] [(19,(aG [(iI 0),(tX []),(iI 0)]))] rfl fun _=>aH (aq (q:=1) E rfl rfl rfl rfl rfl rfl rfl rfl rfl) rfl ?_);rintro _ H6 _ ⟨(al:HS _ _ _ [_,_] _),_⟩;refine ai 1 rfl (aj ⟨.inr rfl,_,(rC rfl (cY rfl rfl (HS.hc al (i:=1) rfl) rfl) rN),(⟨0,⟨[]⟩,0⟩:Token),_,fR,(HS.first al),rfl,(by(dsimp only;omega)),(by(dsimp only;omega)),(nx_no c1)⟩)
 try simp only[BS]at Y
 have c1:=Y;refine aI rfl (zfm (pT h 0) (wfv (v:=(pT h 0)) (eE rfl) (zp 0 (zl 0 (HS.hc E.log0 (i:=0) rfl) (zfm (pT h 0) ?_)))));refine wfv (v:=(pT h 0)) (eE rfl) (zp 1 (zl 1 (HS.hc E.log0 (i:=0) rfl) (zy Token r.at_ (SR.sv Z E.log0) ?_)));obtain⟨b0,a2,a1⟩:=Sv.at (SR.sv Z E.log0) (aS (x:=default) (show r.at_.toNat<r.l.length from by omega));obtain⟨rfl,a6,a7⟩:=a2;refine aL (v:=(aG [(iI (r.l.getD r.at_.toNat default).kind),(tX (r.l.getD r.at_.toNat default).text.b),(iI (r.l.getD r.at_.toNat default).at_)])) (id:= .l (sB (sL O r.l.length T))) (bf (i:=0) rfl rfl rfl a1 rfl rfl rfl) rfl rfl (bW rfl) (kb rfl) (dN (id:= .x [b1]) (aq (q:=1) E.log0 rfl rfl rfl rfl rfl rfl rfl rfl rfl) rfl (by rintro _ _ _ ⟨_,hwr⟩;exact bP rfl rfl (Wr.did hwr)) (kb rfl) ?_);rintro _ H9 _ ⟨U,_⟩ a3 ax;replace U:=HS.lg U E ax;generalize ({H9 with log:=a3}:Heap)=bb at U⊢;have U:HS _ _ _ [_,(fP b1 [(iI (r.l.getD r.at_.toNat default).kind),(tX (r.l.getD r.at_.toNat default).text.b),(iI (r.l.getD r.at_.toNat default).at_)])] _:=U;refine bh (ak 1 rfl (aj ⟨.inr rfl,_,(rC rfl (cY rfl rfl (HS.hc U (i:=1) rfl) rfl) rN),(r.l.getD r.at_.toNat default),_,fR,(HS.first U),rfl,(by omega),(by omega),(nx_yes c1)⟩))
theorem offset_c{E:Option Addr}{O:Nat}{h:Nat}(r:RdrT)(hs:HS (.of H [h]) F H [(rZ h r E O)] R)(T:SR F (sL E r.l.length O) r.l)(an:in64 r.at_)(ax:in64 r.fin)(a4:tQ ts)(a3:r.l=ts)(ar:0<=r.at_/\r.at_<=(ts.length:Int))(a2:ts.length<=1000000):kKt ex 33 [(pT h 0)] H fun v H'=> ∃(x:Int) (F':Fz),Fz.le F F'/\HS (.of H [h]) F' H' [(rZ h r E O)] R/\v=iI x/\x=offV r.l r.at_ r.fin:=by
 refine aB Try.func33 rfl rfl (ak 1 rfl (wT 3 [] 2 2 [] [(2,(iI 0))] rfl fun _=>wRD 1 [(3,.o (iI r.at_)),(7,.o (sL E r.l.length O))] 3 12 [] [(12,(.bool (decide (r.at_<(r.l.length:Int)))))] (vA (ql 3 1 (hc0 (HS.hc hs (i:=0) rfl)) rfl rfl) (vA (ql 27 0 (hc0 (HS.hc hs (i:=0) rfl)) rfl rfl) trivial)) rfl rfl fun _=>zd 1 2 (fun Y=>?_) fun Y=>?_))
 ·obtain⟨a1,U⟩:=Sv.view (SR.sv T hs);obtain⟨Z,al⟩:=Token.fx (U r.at_.toNat);refine wRD 1 [(3,.o (sL E r.l.length O)),(7,.o (iI r.at_)),(10,.o (iI (r.l.getD r.at_.toNat default).at_))] 13 23 [2] [(2,(iI (r.l.getD r.at_.toNat default).at_))] (vA (ql 27 0 (hc0 (HS.hc hs (i:=0) rfl)) rfl rfl) (vA (ql 3 1 (hc0 (HS.hc hs (i:=0) rfl)) rfl rfl) (vA (Sv.ix (j:=r.at_) (SR.sv T hs)) (vA (ql 3 2 (hc0 (Token.vw (U r.at_.toNat) (by omega))) rfl rfl) trivial)))) rfl rfl fun _=>aj ⟨.inr rfl,_,rfl,(r.l.getD r.at_.toNat default).at_,_,fR,(HS.first hs),rfl,(by(unfold offV;first|rw[if_pos (by omega)]|rw[if_neg (by omega)]))⟩
 refine wU 1 [(3,.o (iI r.fin))] 24 27 [2] [(2,(iI r.fin))] (ql 3 2 (HS.hc hs (i:=0) rfl) rfl rfl) rfl fun _=>aj ⟨.inr rfl,_,rfl,r.fin,_,fR,(HS.first hs),rfl,(by(unfold offV;first|rw[if_pos (by omega)]|rw[if_neg (by omega)]))⟩
theorem is_c{E:Option Addr}{O:Nat}{h:Nat}(r:RdrT)(s:List UInt8)(hs:HS (.of H [h]) F H [(rZ h r E O)] R)(Y:SR F (sL E r.l.length O) r.l)(a2:in64 r.at_)(a3:in64 r.fin)(a6:tQ ts)(a5:r.l=ts)(ar:0<=r.at_/\r.at_<=(ts.length:Int))(a4:ts.length<=1000000):kKt ex 59 [(pT h 0),(tX s)] H fun v H'=> ∃(o:Bool) (F':Fz),Fz.le F F'/\HS (.of H [h]) F' H' [(rZ h r E O)] R/\v= .bool o/\o=isB r s:=by refine aB Try.func59 rfl rfl (ak 1 rfl (wT 2 [] 4 4 [] [(4,(.bool false))] rfl fun _=>ab (zm (pT h 0) (zc (jZ ts ex r (HS.callOwn hs (i:=0) rfl) Y (by omega) (by omega) (by omega) (by omega) (by omega) (by omega)) ?_))));rintro _ H2 ⟨t2,F2,al,T,rfl,an,ax,rfl⟩;replace T:HS _ _ _ [_] _:=HS.backOwn hs (i:=0) rfl rfl (fun _ hb=>hb) T;refine aJ (aR T rfl) rfl rfl ?_;rintro _ H4 _ ⟨Z,rfl,(a1:HS _ _ _ [_,(fP Z [(iI 0),(tX []),(iI 0)])] _),_⟩;refine aH (aq (q:=1) a1 rfl rfl rfl rfl rfl rfl rfl rfl rfl) rfl ?_;rintro _ H5 _ ⟨(U:HS _ _ _ [_,(fP Z [(iI (nxT r).kind),(tX (nxT r).text.b),(iI (nxT r).at_)])] _),_⟩;refine ai 2 rfl (wR 1 [(1,.o (iI (nxT r).kind)),(5,.o (tX (nxT r).text.b))] 8 16 [4] [(4,(.bool (((nxT r).kind==3)&&((nxT r).text.b==s))))] (vA (ql 3 0 (HS.hc U (i:=1) rfl) rfl rfl) (vA (fun(g1:((nxT r).kind==3)=true)=>(ql 9 1 (HS.hc U (i:=1) rfl) rfl rfl)) trivial)) rfl fun _=>aj ⟨.inr rfl,_,rfl,(((nxT r).kind==3)&&((nxT r).text.b==s)),_,(al),(HS.first U),rfl,(isB_of)⟩)
theorem atName_c{E:Option Addr}{O:Nat}{h:Nat}(r:RdrT)(hs:HS (.of H [h]) F H [(rZ h r E O)] R)(Y:SR F (sL E r.l.length O) r.l)(a4:in64 r.at_)(a5:in64 r.fin)(a6:tQ ts)(a3:r.l=ts)(ar:0<=r.at_/\r.at_<=(ts.length:Int))(a2:ts.length<=1000000):kKt ex 56 [(pT h 0)] H fun v H'=> ∃(o:Bool) (F':Fz),Fz.le F F'/\HS (.of H [h]) F' H' [(rZ h r E O)] R/\v= .bool o/\o=anB r:=by refine aB Try.func56 rfl rfl (ak 1 rfl (wT 2 [] 2 2 [] [(2,(.bool false))] rfl fun _=>ab (zm (pT h 0) (zc (jZ ts ex r (HS.callOwn hs (i:=0) rfl) Y (by omega) (by omega) (by omega) (by omega) (by omega) (by omega)) ?_))));rintro _ H2 ⟨t2,F2,al,T,rfl,an,ax,rfl⟩;replace T:HS _ _ _ [_] _:=HS.backOwn hs (i:=0) rfl rfl (fun _ hb=>hb) T;refine aJ (aR T rfl) rfl rfl ?_;rintro _ H4 _ ⟨Z,rfl,(a1:HS _ _ _ [_,(fP Z [(iI 0),(tX []),(iI 0)])] _),_⟩;refine aH (aq (q:=1) a1 rfl rfl rfl rfl rfl rfl rfl rfl rfl) rfl ?_;rintro _ H5 _ ⟨(U:HS _ _ _ [_,(fP Z [(iI (nxT r).kind),(tX (nxT r).text.b),(iI (nxT r).at_)])] _),_⟩;refine ai 2 rfl (wR 1 [(1,.o (iI (nxT r).kind)),(5,.o (tX (nxT r).text.b)),(6,.o (.bool (fN (nxT r).text.b)))] 6 14 [2] [(2,(.bool (((nxT r).kind==1)&&(!(fN (nxT r).text.b)))))] (vA (ql 3 0 (HS.hc U (i:=1) rfl) rfl rfl) (vA (fun(g1:((nxT r).kind==1)=true)=>(ql 9 1 (HS.hc U (i:=1) rfl) rfl rfl)) (vA (fun(g1:((nxT r).kind==1)=true)=>(reserved_c_q ex (nxT r).text.b H5)) trivial))) rfl fun _=>aj ⟨.inr rfl,_,rfl,(((nxT r).kind==1)&&(!(fN (nxT r).text.b))),_,(al),(HS.first U),rfl,(anB_of)⟩)
theorem dM{E:Option Addr}{O:Nat}{ar:Nat}(r:RdrT)(s:List UInt8)(hs:HS (.of H [ar]) F H [(rZ ar r E O)] R)(T:SR F (sL E r.l.length O) r.l)(a1:in64 r.at_)(a2:in64 r.fin)(a7:tQ ts)(a3:r.l=ts)(a5:0<=r.at_/\r.at_<=(ts.length:Int))(a6:ts.length<=1000000):kKt ex 58 [(pT ar 0),(tX s)] H fun v H'=> ∃(o:Bool) (h:RdrT) (Y:Option Addr) (an:Nat) (F':Fz),Fz.le F F'/\HS (.of H [ar]) F' H' [(rZ ar h Y an)] R/\v= .bool o/\in64 h.at_/\in64 h.fin/\SR F' (sL Y h.l.length an) h.l/\o=isB r s/\(isB r s=true->r.bad=false/\isS ts r.at_.toNat s=true/\h.at_=r.at_+1/\h.bad=false)/\(isB r s=false->h.at_=r.at_/\h.bad=r.bad/\(r.bad=false->¬isS ts r.at_.toNat s=true))/\(h.l=ts)/\(r.at_<=h.at_/\h.at_<=(ts.length:Int))/\(h.fin=r.fin):=by
 refine aB Try.func58 rfl rfl (ak 1 rfl (wT 3 [] 4 4 [] [(4,(.bool false))] rfl fun _=>ab (wTo 2 0 [] 5 6 [] [(5,(pT ar 0)),(6,(tX s))] rfl fun _=>zc (is_c ts ex r s (HS.callOwn hs (i:=0) rfl) T (by omega) (by omega) (by omega) (by omega) (by omega) (by omega)) ?_)));rintro _ H3 ⟨o3,F3,al,U,rfl,rfl⟩;replace U:HS _ _ _ [_] _:=HS.backOwn hs (i:=0) rfl rfl (fun _ hb=>hb) U;replace T:=T.mono al;refine wTo 1 3 [] 8 8 [] [(8,(.bool (!(isB r s))))] rfl fun _=>ai 1 rfl (zi 1 2 (fun Z=>?_) fun Z=>?_)
 ·try simp only[BS]at Z
  have c1:=Z;refine wT 1 [] 4 4 [] [(4,(.bool false))] rfl fun _=>aj ⟨.inr rfl,_,rfl,false,r,E,O,_,(al),(HS.first U),rfl,(by omega),(by omega),T,(c1.symm),(acc_d c1),(acc_n a3 c1),(by assumption),(by omega),(by rfl)⟩
 try simp only[BS]at Z
 have c1:=Z;have c2:=isB_lt a3 a5 c1;refine ab (wRo 7 0 [(3,.o (iI r.at_))] 9 15 [] [(13,(iI (r.at_+1))),(15,(pT ar 1))] (vA (ql 3 1 (HS.hc U (i:=0) rfl) rfl rfl) (vA (vi (n:=r.at_+1)) trivial)) rfl fun _=>aH (aq (q:=0) U rfl rfl rfl rfl rfl rfl rfl rfl rfl) rfl ?_);rintro _ H8 _ ⟨(ax:HS _ _ _ [(fP ar [(sL E r.l.length O),(iI (r.at_+1)),(iI r.fin),(.bool r.bad)])] _),_⟩;refine ai 2 rfl (wT 1 [] 4 4 [] [(4,(.bool true))] rfl fun _=>aj ⟨.inr rfl,_,rfl,true,(⟨r.l,r.at_+1,r.fin,r.bad⟩:RdrT),E,O,_,(al),(HS.first ax),rfl,(by(dsimp only;omega)),(by(dsimp only;omega)),T,(c1.symm),(acc_y a3 c1),(acc_c c1),(by assumption),(by(dsimp only;omega)),(by rfl)⟩)
theorem ce{E:Option Addr}{O:Nat}{ar:Nat}(r:RdrT)(s:List UInt8)(hs:HS (.of H [ar]) F H [(rZ ar r E O)] R)(T:SR F (sL E r.l.length O) r.l)(a6:in64 r.at_)(a7:in64 r.fin)(b1:tQ ts)(a2:r.l=ts)(bb:0<=r.at_/\r.at_<=(ts.length:Int))(b0:ts.length<=1000000):kKt ex 28 [(pT ar 0),(tX s)] H fun v H'=> ∃(o:Bool) (h:RdrT) (Y:Option Addr) (ax:Nat) (F':Fz),Fz.le F F'/\HS (.of H [ar]) F' H' [(rZ ar h Y ax)] R/\v= .bool o/\in64 h.at_/\in64 h.fin/\SR F' (sL Y h.l.length ax) h.l/\o=kwB r s/\(kwB r s=true->r.bad=false/\isK ts r.at_.toNat s=true/\h.at_=r.at_+1/\h.bad=false)/\(kwB r s=false->h.at_=r.at_/\h.bad=r.bad/\(r.bad=false->¬isK ts r.at_.toNat s=true))/\(h.l=ts)/\(r.at_<=h.at_/\h.at_<=(ts.length:Int))/\(h.fin=r.fin):=by
 refine aB Try.func28 rfl rfl (ak 1 rfl (wT 2 [] 4 4 [] [(4,(.bool false))] rfl fun _=>ab (zm (pT ar 0) (zc (jZ ts ex r (HS.callOwn hs (i:=0) rfl) T (by omega) (by omega) (by omega) (by omega) (by omega) (by omega)) ?_))));rintro _ H2 ⟨t2,F2,al,an,rfl,a3,a4,rfl⟩;replace an:HS _ _ _ [_] _:=HS.backOwn hs (i:=0) rfl rfl (fun _ hb=>hb) an;replace T:=T.mono al;refine aJ (aR an rfl) rfl rfl ?_;rintro _ H4 _ ⟨b3,rfl,(a5:HS _ _ _ [_,(fP b3 [(iI 0),(tX []),(iI 0)])] _),_⟩;refine aH (aq (q:=1) a5 rfl rfl rfl rfl rfl rfl rfl rfl rfl) rfl ?_;rintro _ H5 _ ⟨(U:HS _ _ _ [_,(fP b3 [(iI (nxT r).kind),(tX (nxT r).text.b),(iI (nxT r).at_)])] _),_⟩;refine ai 3 rfl (wR 1 [(1,.o (iI (nxT r).kind)),(5,.o (tX (nxT r).text.b))] 8 16 [] [(16,(.bool (((nxT r).kind !=1)||((nxT r).text.b !=s))))] (vA (ql 3 0 (HS.hc U (i:=1) rfl) rfl rfl) (vA (fun(g1:((nxT r).kind !=1)=false)=>(ql 9 1 (HS.hc U (i:=1) rfl) rfl rfl)) trivial)) rfl fun _=>zi 1 2 (fun Z=>?_) fun Z=>?_)
 ·try simp only[BS]at Z
  have c1:=kwB_f Z;refine wT 1 [] 4 4 [] [(4,(.bool false))] rfl fun _=>aj ⟨.inr rfl,_,rfl,false,r,E,O,_,(al),(HS.first U),rfl,(by omega),(by omega),T,(c1.symm),(acc_d c1),(kac_n a2 c1),(by assumption),(by omega),(by rfl)⟩
 try simp only[BS]at Z
 have c1:=kwB_t Z;have c2:=kwB_lt a2 bb c1;refine ab (wRo 7 0 [(3,.o (iI r.at_))] 17 23 [] [(21,(iI (r.at_+1))),(23,(pT ar 1))] (vA (ql 3 1 (HS.hc U (i:=0) rfl) rfl rfl) (vA (vi (n:=r.at_+1)) trivial)) rfl fun _=>aH (aq (q:=0) U rfl rfl rfl rfl rfl rfl rfl rfl rfl) rfl ?_);rintro _ a8 _ ⟨(a1:HS _ _ _ [(fP ar [(sL E r.l.length O),(iI (r.at_+1)),(iI r.fin),(.bool r.bad)]),_] _),_⟩;refine ai 2 rfl (wT 1 [] 4 4 [] [(4,(.bool true))] rfl fun _=>aj ⟨.inr rfl,_,rfl,true,(⟨r.l,r.at_+1,r.fin,r.bad⟩:RdrT),E,O,_,(al),(HS.first a1),rfl,(by(dsimp only;omega)),(by(dsimp only;omega)),T,(c1.symm),(kac_y a2 c1),(acc_c c1),(by assumption),(by(dsimp only;omega)),(by rfl)⟩)
theorem aP{an:Option Addr}{a1:Nat}{b0:Nat}(r:RdrT)(s:List UInt8)(hs:HS (.of H [b0]) F H [(rZ b0 r an a1)] R)(a3:SR F (sL an r.l.length a1) r.l)(a9:in64 r.at_)(bb:in64 r.fin)(cL:tQ ts)(cv:r.l=ts)(b6:0<=r.at_/\r.at_<=(ts.length:Int))(co:ts.length<=1000000):kKt ex 31 [(pT b0 0),(tX s)] H fun v H'=> ∃(r':RdrT) (al:Option Addr) (ax:Nat) (F':Fz),Fz.le F F'/\HS (.of H [b0]) F' H' [(rZ b0 r' al ax)] R/\v= .tuple #[]/\in64 r'.at_/\in64 r'.fin/\SR F' (sL al r'.l.length ax) r'.l/\(r'.bad=false->r.at_<r'.at_)/\(r'.l=ts)/\(r.at_<=r'.at_/\r'.at_<=(ts.length:Int))/\(r'.fin=r.fin)/\(Oc (fun n=>ff ts s r.at_.toNat) r.bad r.at_ () r'.at_ r'.bad):=by
 refine aB Try.func31 rfl rfl (ak 1 rfl (ab (wTo 2 0 [] 4 5 [] [(4,(pT b0 0)),(5,(tX s))] rfl fun _=>zc (dM ts ex r s (HS.callOwn hs (i:=0) rfl) a3 (by omega) (by omega) (by omega) (by omega) (by omega) (by omega)) ?_)));rintro _ H2 ⟨o2,E,O,T,F2,a2,Y,rfl,a7,a8,Z,rfl,a5,a4,b1,b2,b3⟩;replace Y:HS _ _ _ [_] _:=HS.backOwn hs (i:=0) rfl rfl (fun _ hb=>hb) Y;refine wTo 1 3 [] 7 7 [] [(7,(.bool (!(isB r s))))] rfl fun _=>ai 1 rfl (zi 0 0 (fun U=>?_) fun U=>?_)
 ·try simp only[BS]at U
  have b4:=a4 U;have q:=(by assumption:isB r s=false->_) U;have q1:=q.1;refine ab (wTo 3 0 [] 8 10 [] [(10,(pT b0 3))] rfl fun _=>aH (aq (q:=0) Y rfl rfl rfl rfl rfl rfl rfl rfl rfl) rfl ?_);rintro _ H6 _ ⟨(a6:HS _ _ _ [(fP b0 [(sL O E.l.length T),(iI E.at_),(iI E.fin),(.bool true)])] _),_⟩;refine ai 0 rfl (aw ⟨.inl rfl,_,rfl,(⟨E.l,E.at_,E.fin,true⟩:RdrT),O,T,_,(a2),(HS.first a6),rfl,(by(dsimp only;omega)),(by(dsimp only;omega)),Z,(by(intro h;first|cases h|omega|(dsimp only at h⊢;omega)|(simp at h))),(by assumption),(by assumption),(by assumption),(exp_n b6.1 ⟨q.1,trivial,q.2.2⟩)⟩)
 try simp only[BS]at U
 have b5:=a5 U;have q:=(by assumption:isB r s=true->_) U;have q1:=q.2.2.1;refine aw ⟨.inl rfl,_,rfl,E,O,T,_,(a2),(HS.first Y),rfl,(by omega),(by omega),Z,(by(intro h;first|cases h|omega|(dsimp only at h⊢;omega)|(simp at h))),(by assumption),(by assumption),(by assumption),(exp_y b6.1 q)⟩
theorem j0{E:Option Addr}{O:Nat}{al:Nat}(r:RdrT)(hs:HS (.of H [al]) F H [(rZ al r E O)] R)(T:SR F (sL E r.l.length O) r.l)(a6:in64 r.at_)(a7:in64 r.fin)(b3:tQ ts)(a8:r.l=ts)(bb:0<=r.at_/\r.at_<=(ts.length:Int))(b2:ts.length<=1000000):kKt ex 29 [(pT al 0)] H fun v H'=> ∃(x:List UInt8) (r':RdrT) (Z:Option Addr) (a1:Nat) (F':Fz),Fz.le F F'/\HS (.of H [al]) F' H' [(rZ al r' Z a1)] R/\v=tX x/\in64 r'.at_/\in64 r'.fin/\SR F' (sL Z r'.l.length a1) r'.l/\(r'.bad=false->r.at_<r'.at_)/\(r'.l=ts)/\(r.at_<=r'.at_/\r'.at_<=(ts.length:Int))/\(r'.fin=r.fin)/\(Oc (fun n=>eW ts r.at_.toNat) r.bad r.at_ (⟨x⟩:Str) r'.at_ r'.bad):=by
 refine aB Try.func29 rfl rfl (ak 1 rfl (wT 3 [] 2 2 [] [(2,(tX []))] rfl fun _=>ab (zm (pT al 0) (zc (atName_c ts ex r (HS.callOwn hs (i:=0) rfl) T (by omega) (by omega) (by omega) (by omega) (by omega) (by omega)) ?_))));rintro _ H2 ⟨o2,F2,an,U,rfl,rfl⟩;replace U:HS _ _ _ [_] _:=HS.backOwn hs (i:=0) rfl rfl (fun _ hb=>hb) U;replace T:=T.mono an;refine wTo 1 2 [] 5 5 [] [(5,(.bool (!(anB r))))] rfl fun _=>ai 1 rfl (zi 1 2 (fun c4=>?_) fun c4=>?_)
 ·try simp only[BS]at c4
  have c1:=c4;refine ab (wTo 3 0 [] 6 8 [] [(8,(pT al 3))] rfl fun _=>aH (aq (q:=0) U rfl rfl rfl rfl rfl rfl rfl rfl rfl) rfl ?_);rintro _ H6 _ ⟨(a2:HS _ _ _ [(fP al [(sL E r.l.length O),(iI r.at_),(iI r.fin),(.bool true)])] _),_⟩;refine ai 2 rfl (wT 1 [] 2 2 [] [(2,(tX []))] rfl fun _=>aj ⟨.inr rfl,_,rfl,[],(⟨r.l,r.at_,r.fin,true⟩:RdrT),E,O,_,(an),(HS.first a2),rfl,(by(dsimp only;omega)),(by(dsimp only;omega)),T,(by intro h;first|cases h|omega|(dsimp only;omega)|(simp at h)),(by assumption),(by(dsimp only;omega)),(by rfl),(nam_n a8 bb.1 c1)⟩)
 try simp only[BS]at c4
 have c1:=c4;have c2:=anB_lt a8 bb c1;refine ab (wRo 7 0 [(3,.o (iI r.at_))] 9 15 [] [(13,(iI (r.at_+1))),(15,(pT al 1))] (vA (ql 3 1 (HS.hc U (i:=0) rfl) rfl rfl) (vA (vi (n:=r.at_+1)) trivial)) rfl fun _=>aH (aq (q:=0) U rfl rfl rfl rfl rfl rfl rfl rfl rfl) rfl ?_);rintro _ H9 _ ⟨(Y:HS _ _ _ [(fP al [(sL E r.l.length O),(iI (r.at_+1)),(iI r.fin),(.bool r.bad)])] _),_⟩;refine ai 2 rfl ?_;obtain⟨a5,ax⟩:=Sv.view (SR.sv T Y);obtain⟨a3,a4⟩:=Token.fx (ax ((r.at_+1)-1).toNat);refine wRD 1 [(3,.o (sL E r.l.length O)),(7,.o (iI (r.at_+1))),(11,.o (tX (r.l.getD ((r.at_+1)-1).toNat default).text.b))] 16 27 [2] [(2,(tX (r.l.getD ((r.at_+1)-1).toNat default).text.b))] (vA (ql 27 0 (hc0 (HS.hc Y (i:=0) rfl)) rfl rfl) (vA (ql 3 1 (hc0 (HS.hc Y (i:=0) rfl)) rfl rfl) (vA (vi (n:=(r.at_+1)-1) (by omega)) (vA (Sv.ix (j:=(r.at_+1)-1) (SR.sv T Y) (by omega) (by(rw[a8];omega))) (vA (ql 9 1 (hc0 (Token.vw (ax ((r.at_+1)-1).toNat) (by(rw[a8];omega)))) rfl rfl) trivial))))) rfl rfl fun _=>aj ⟨.inr rfl,_,rfl,(r.l.getD ((r.at_+1)-1).toNat default).text.b,(⟨r.l,r.at_+1,r.fin,r.bad⟩:RdrT),E,O,_,(an),(HS.first Y),rfl,(by(dsimp only;omega)),(by(dsimp only;omega)),T,(by intro h;first|cases h|omega|(dsimp only;omega)|(simp at h)),(by assumption),(by(dsimp only;omega)),(by rfl),(nam_y a8 bb.1 c1)⟩
end Go.Proofs.Ytapgbjedgcpffaa.pa
