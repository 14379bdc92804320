/-
The reader of the parser: its plain steps. No condition but that its place lies in the list.
-/
import Derived.Test.YtapgbjedgcpffaaGreatZRL1
import Derived.Test.YtapgbjedgcpffaaGreatZRPT
noncomputable section
namespace Go.Proofs.YtapgbjedgcpffaaGreat.pa
open Go.R
set_option maxRecDepth 10000
set_option linter.unusedVariables false
set_option linter.unusedSimpArgs false
open w1 w3 l1 pt
def nxT(r:RdrT):Token:=if r.bad=true\/(r.l.length:Int)<=r.at_ then default else r.l.getD r.at_.toNat default
theorem nx_no{r:RdrT}(h:r.bad=true\/(r.l.length:Int)<=r.at_):(⟨0,⟨[]⟩,0⟩:Token)=nxT r:=(if_pos h).symm
theorem nx_yes{r:RdrT}(h:r.bad=false/\¬(r.l.length:Int)<=r.at_):r.l.getD r.at_.toNat default=nxT r:=(if_neg (fun k=>k.elim (by rw[h.1];decide) h.2)).symm
def offV(l:List Token)(i E:Int):Int:=if i<(l.length:Int) then(l.getD i.toNat default).at_ else E
def isB(r:RdrT)(s:List UInt8):Bool:= !r.bad&&isS r.l r.at_.toNat s
def kwB(r:RdrT)(s:List UInt8):Bool:= !r.bad&&isK r.l r.at_.toNat s
def anB(r:RdrT):Bool:= !r.bad&&isN r.l r.at_.toNat
theorem mw{r:RdrT}:nxT r=if r.bad=true then default else r.l.getD r.at_.toNat default:=by
 unfold nxT;cases hb:r.bad with
 |true=>simp
 |false=>
  by_cases h:(r.l.length:Int)<=r.at_
  ·rw[if_pos (.inr h),if_neg e_,bh M]
  rw[if_neg (by simp[h]),if_neg e_]
theorem isB_of{r:RdrT}{s:List UInt8}:((nxT r).kind==3&&(nxT r).text.b==s)=isB r s:=by
 unfold isB isS;rw[mw,a0G];cases r.bad with
 |true=>simp;intro h;cases h
 |false=>simp
theorem anB_of{r:RdrT}:((nxT r).kind==1&& !(eH (nxT r).text.b))=anB r:=by
 unfold anB isN;rw[mw,a0G];cases r.bad with
 |true=>simp;intro h;cases h
 |false=>simp
theorem isB_lt{ts:List Token}{r:RdrT}{s:List UInt8}(O:r.l=ts)(ha:0<=r.at_/\r.at_<=(ts.length:Int))(h:isB r s=true):r.at_<(ts.length:Int):=by
 unfold isB isS at h;rcases a0c r.at_.toNat r.l.length with E|E
 ·rw[O]at E;omega
 rw[bh E]at h;simp at h;exact absurd h.2.1 e_
theorem anB_lt{ts:List Token}{r:RdrT}(O:r.l=ts)(ha:0<=r.at_/\r.at_<=(ts.length:Int))(h:anB r=true):r.at_<(ts.length:Int):=by
 unfold anB isN at h;rcases a0c r.at_.toNat r.l.length with E|E
 ·rw[O]at E;omega
 rw[bh E]at h;simp at h;exact absurd h.2.1 e_
theorem acc_y{ts:List Token}{r:RdrT}{s:List UInt8}(E:r.l=ts)(h:isB r s=true):isB r s=true->r.bad=false/\isS ts r.at_.toNat s=true/\r.at_+1=r.at_+1/\r.bad=false:=fun _=>by unfold isB at h;rw[a03,a0u,E]at h;exact⟨h.1,h.2,V,h.1⟩
theorem acc_n{ts:List Token}{r:RdrT}{s:List UInt8}(E:r.l=ts)(h:isB r s=false):isB r s=false->r.at_=r.at_/\r.bad=r.bad/\(r.bad=false->¬isS ts r.at_.toNat s=true):=fun _=>⟨V,V,fun hb k=>by
 unfold isB at h;rw[hb,E,k]at h;cases h⟩
theorem kwB_of{r:RdrT}{s:List UInt8}:kwB r s=true↔((nxT r).kind=1/\(nxT r).text.b=s):=by
 unfold kwB isK;rw[mw];cases r.bad with
 |true=>simp;intro h;cases h
 |false=>simp
theorem kwB_f{r:RdrT}{s:List UInt8}(h:(nxT r).kind≠1\/(nxT r).text.b≠s):kwB r s=false:=by
 cases e:kwB r s with
 |false=>rfl
 |true=>exact absurd (kwB_of.1 e) (fun k=>h.elim (fun h=>h k.1) fun h=>h k.2)
theorem kwB_t{r:RdrT}{s:List UInt8}(h:(nxT r).kind=1/\(nxT r).text.b=s):kwB r s=true:=kwB_of.2 h
theorem kwB_lt{ts:List Token}{r:RdrT}{s:List UInt8}(O:r.l=ts)(ha:0<=r.at_/\r.at_<=(ts.length:Int))(h:kwB r s=true):r.at_<(ts.length:Int):=by
 unfold kwB isK at h;rcases a0c r.at_.toNat r.l.length with E|E
 ·rw[O]at E;omega
 rw[bh E]at h;simp at h;exact absurd h.2.1 e_
theorem kac_y{ts:List Token}{r:RdrT}{s:List UInt8}(E:r.l=ts)(h:kwB r s=true):kwB r s=true->r.bad=false/\isK ts r.at_.toNat s=true/\r.at_+1=r.at_+1/\r.bad=false:=fun _=>by unfold kwB at h;rw[a03,a0u,E]at h;exact⟨h.1,h.2,V,h.1⟩
theorem kac_n{ts:List Token}{r:RdrT}{s:List UInt8}(E:r.l=ts)(h:kwB r s=false):kwB r s=false->r.at_=r.at_/\r.bad=r.bad/\(r.bad=false->¬isK ts r.at_.toNat s=true):=fun _=>⟨V,V,fun hb k=>by
 unfold kwB at h;rw[hb,E,k]at h;cases h⟩
theorem acc_c{b:Bool}{P:Prop}(h:b=true):b=false->P:=fun k=>by rw[h]at k;cases k
theorem acc_d{b:Bool}{P:Prop}(h:b=false):b=true->P:=fun k=>by rw[h]at k;cases k
theorem exp_n{ts:List Token}{s:List UInt8}{r:RdrT}{j:Int}(E:0<=r.at_)(q:j=r.at_/\True/\(r.bad=false->¬isS ts r.at_.toNat s=true)):Oc (fun _=>eS ts s r.at_.toNat) r.bad r.at_ () j true:=⟨fun _=>⟨V,q.1⟩,fun hb=>by unfold eS;rw[if_neg (q.2.2 hb)];exact .fail (by have:=q.1;omega)⟩
theorem exp_y{ts:List Token}{s:List UInt8}{r:RdrT}{j:Int}{b:Bool}(E:0<=r.at_)(q:r.bad=false/\isS ts r.at_.toNat s=true/\j=r.at_+1/\b=false):Oc (fun _=>eS ts s r.at_.toNat) r.bad r.at_ () j b:=Oc.of q.1 (by unfold eS;rw[if_pos q.2.1,q.2.2.2];exact .val (by have:=q.2.2.1;omega))
theorem nU{ts:List Token}{r:RdrT}(E:r.l=ts):anB r=true↔r.bad=false/\isN ts r.at_.toNat=true:=by unfold anB;rw[a03,a0u,E]
theorem nam_n{ts:List Token}{r:RdrT}{x:Str}(O:r.l=ts)(E:0<=r.at_)(h:anB r=false):Oc (fun _=>eb ts r.at_.toNat) r.bad r.at_ x r.at_ true:=⟨fun _=>⟨V,V⟩,fun hb=>by
 unfold eb;rw[if_neg (fun k=>by rw[(nU O).2 ⟨hb,k⟩]at h;cases h)];exact .fail M⟩
theorem nam_y{ts:List Token}{r:RdrT}(U:r.l=ts)(T:0<=r.at_)(h:anB r=true):Oc (fun _=>eb ts r.at_.toNat) r.bad r.at_ (⟨(r.l.getD (r.at_+1-1).toNat default).text.b⟩:Str) (r.at_+1) r.bad:=by obtain⟨E,O⟩:=(nU U).1 h;refine Oc.of E ?_;unfold eb;rw[if_pos O,E,U,show(r.at_+1-1).toNat=r.at_.toNat by omega];exact .val M
theorem reserved_c(ex:FuncId)(s:List UInt8)(H:Heap):kKt ex 71 [(tX s)] H fun v H'=> ∃(o:Bool),H'=H/\v= .bool o/\o=eH s:=by
 refine av Tryz.func71 V V (ai 1 V (wr 3 [] 2 2 [] [(2,(.bool false))] trivial V V fun _=>wr 4 [] 3 3 [] [(3,(tX s))] trivial V V fun _=>wr 1 [] 4 5 [] [(4,(.bool (s==([97,114,114,97,121]:List UInt8))))] trivial V V fun _=>zi 1 1 (fun an=>?_) fun an=>?_))
 ·have c4:=an;try simp only[BS]at c4
  refine bn 1 V an V V (wr 1 [] 2 2 [] [(2,(.bool true))] trivial V V fun _=>ae ⟨.inr V,_,V,_,V,V,(by simp_all[eH,iH])⟩)
 refine wr 1 [] 4 6 [] [(4,(.bool (s==([102,117,110,99]:List UInt8))))] trivial V V fun _=>zi 1 1 (fun ax=>?_) fun ax=>?_
 ·have c7:=ax;try simp only[BS]at c7
  refine bn 1 V ax V V (wr 1 [] 2 2 [] [(2,(.bool true))] trivial V V fun _=>ae ⟨.inr V,_,V,_,V,V,(by simp_all[eH,iH])⟩)
 refine wr 1 [] 4 7 [] [(4,(.bool (s==([118,97,114]:List UInt8))))] trivial V V fun _=>zi 1 1 (fun E=>?_) fun E=>?_
 ·have a0:=E;try simp only[BS]at a0
  refine bn 1 V E V V (wr 1 [] 2 2 [] [(2,(.bool true))] trivial V V fun _=>ae ⟨.inr V,_,V,_,V,V,(by simp_all[eH,iH])⟩)
 refine wr 1 [] 4 8 [] [(4,(.bool (s==([114,101,116,117,114,110]:List UInt8))))] trivial V V fun _=>zi 1 1 (fun O=>?_) fun O=>?_
 ·have a1:=O;try simp only[BS]at a1
  refine bn 1 V O V V (wr 1 [] 2 2 [] [(2,(.bool true))] trivial V V fun _=>ae ⟨.inr V,_,V,_,V,V,(by simp_all[eH,iH])⟩)
 refine wr 1 [] 4 9 [] [(4,(.bool (s==([105,102]:List UInt8))))] trivial V V fun _=>zi 1 1 (fun T=>?_) fun T=>?_
 ·have a2:=T;try simp only[BS]at a2
  refine bn 1 V T V V (wr 1 [] 2 2 [] [(2,(.bool true))] trivial V V fun _=>ae ⟨.inr V,_,V,_,V,V,(by simp_all[eH,iH])⟩)
 refine wr 1 [] 4 10 [] [(4,(.bool (s==([101,108,115,101]:List UInt8))))] trivial V V fun _=>zi 1 1 (fun U=>?_) fun U=>?_
 ·have a3:=U;try simp only[BS]at a3
  refine bn 1 V U V V (wr 1 [] 2 2 [] [(2,(.bool true))] trivial V V fun _=>ae ⟨.inr V,_,V,_,V,V,(by simp_all[eH,iH])⟩)
 refine wr 1 [] 4 11 [] [(4,(.bool (s==([119,104,105,108,101]:List UInt8))))] trivial V V fun _=>zi 1 1 (fun Y=>?_) fun Y=>?_
 ·have a4:=Y;try simp only[BS]at a4
  refine bn 1 V Y V V (wr 1 [] 2 2 [] [(2,(.bool true))] trivial V V fun _=>ae ⟨.inr V,_,V,_,V,V,(by simp_all[eH,iH])⟩)
 refine wr 1 [] 4 12 [] [(4,(.bool (s==([111,117,116]:List UInt8))))] trivial V V fun _=>zi 1 0 (fun Z=>?_) fun Z=>?_
 ·have a5:=Z;try simp only[BS]at a5
  refine bn 1 V Z V V (wr 1 [] 2 2 [] [(2,(.bool true))] trivial V V fun _=>ae ⟨.inr V,_,V,_,V,V,(by simp_all[eH,iH])⟩)
 refine wr 1 [] 4 13 [] [(4,(.bool (s==([116,114,97,112]:List UInt8))))] trivial V V fun _=>zi 1 3 (fun al=>?_) fun al=>?_
 ·try simp only[BS]at al
  refine wr 1 [] 2 2 [] [(2,(.bool true))] trivial V V fun _=>ae ⟨.inr V,_,V,_,V,V,(by simp_all[eH,iH])⟩
 try simp only[BS]at al
 refine wr 1 [] 2 2 [] [(2,(.bool false))] trivial V V fun _=>ae ⟨.inr V,_,V,_,V,V,(by simp_all[eH,iH])⟩
theorem reserved_c_q(ex:FuncId)(s:List UInt8)(H:Heap):kKt ex 71 [(tX s)] H fun v H'=>v=(.bool (eH s))/\H'=H:=
 cq (reserved_c ex s H) (by rintro _ _ ⟨_,rfl,rfl,rfl⟩;exact⟨V,V⟩)
variable (ts:List Token)
variable (ex:FuncId) {F:Fz} {H:Heap} {R:List Fp}
structure Pr1(H:Heap)(b_r:Nat)(F:Fz)(ar_0:Option Addr)(r:RdrT)(kr_0:Nat)(R:List Fp)(ts:List Token):Prop where
 hs:HS (.of H [b_r]) F H [[(b_r,.cells [(sL ar_0 r.l.length kr_0),(iI r.at_),(iI r.fin),(.bool r.bad)] none false)]] R
 hr_0:SR F (sL ar_0 r.l.length kr_0) r.l
 hr_1:in64 r.at_:=by first|assumption|omega|(dsimp only;omega)|(rw[hts];omega)|exact dl
 hr_2:in64 r.fin:=by first|assumption|omega|(dsimp only;omega)|(rw[hts];omega)|exact dl
 htx: ∀i,(ts.getD i default).text.b.length<=1000000:=by first|assumption|omega|(dsimp only;omega)|exact a0g (bA s).1 e_|exact(bA s).2
 hts:r.l=ts:=by first|assumption|omega|(dsimp only;omega)|exact a0g (bA s).1 e_|exact(bA s).2
 hat:0<=r.at_/\r.at_<=(ts.length:Int):=by first|assumption|omega|(dsimp only;omega)|exact a0g (bA s).1 e_|exact(bA s).2
 htl:ts.length<=1000000:=by first|assumption|omega|(dsimp only;omega)|exact a0g (bA s).1 e_|exact(bA s).2
theorem lI{O:Option Addr}{U:Nat}{an:Nat}(r:RdrT)(h0:Pr1 H an F O r U R ts):kKt ex 40 [(pT an 0)] H fun v H'=> ∃(t:Token) (F':Fz),Fz.le F F'/\HS (.of H [an]) F' H' [(rZ an r O U)] R/\v= .agg ⟨[iI t.kind,tX t.text.b,iI t.at_]⟩/\in64 t.kind/\in64 t.at_/\t=nxT r:=by
 obtain⟨hs,ar,a7,a8,ba,hts,hat,a9⟩:=h0;refine av Tryz.func40 V V (ai 1 V (ab (zn hs V fun b1 H2 E=>ah 3 V (sdr0 1 3 18 [] [(18,(.bool (r.bad||(decide ((r.l.length:Int)<=r.at_)))))] (Hr_ 3 0 (Ho_ 8 (.o (iI _)) (fun(g1:_)=>(ql 3 1 (hc0 (h_ E V)) V V)) (Ho_ 12 (.o (sL _ _ _)) (fun(g1:_)=>(ql 48 0 (hc0 (h_ E V)) V V)) Hn_))) E V V V fun _=>?_))));refine zi 1 2 (fun T=>?_) fun T=>?_
 ·try simp only[BS]at T
  have c1:=T;refine sgr 1 19 19 [] [] (Hr_ 1 1 Hn_) E V V fun a3 H5 Y=>ae ⟨.inr V,_,(rC V (bS V V (i_ Y V) V) rN),_,_,fR,(HS.first Y),V,M,M,(nx_no c1)⟩
 try simp only[BS]at T
 have c1:=T;obtain⟨a2,al⟩:=Sv.view (SR.sv ar E);obtain⟨ax,a0⟩:=Token.fx (al r.at_.toNat);refine sdr 1 20 29 [] [] (Hr_ 3 0 (Hr_ 7 0 (Ha_ (Sv.ix (SR.sv ar E)) (Hl_ 9 (qn 79 0 3 (hc0 (Token.vw (al r.at_.toNat) M)) V V V V) (Hr_ 10 1 Hn_))))) E V V V fun a4 H8 Z=>ae ⟨.inr V,_,(rC V (bS V V (i_ Z V) V) rN),_,_,fR,(HS.first Z),V,M,M,(nx_yes c1)⟩
theorem offset_c{E:Option Addr}{O:Nat}{al:Nat}(r:RdrT)(h0:Pr1 H al F E r O R ts):kKt ex 20 [(pT al 0)] H fun v H'=> ∃(x:Int) (F':Fz),Fz.le F F'/\HS (.of H [al]) F' H' [(rZ al r E O)] R/\v=iI x/\x=offV r.l r.at_ r.fin:=by
 obtain⟨hs,ar,a0,a1,a3,hts,hat,a2⟩:=h0;refine av Tryz.func20 V V (ai 1 V (wr 3 [] 2 2 [] [(2,(.int _ 0))] trivial V V fun _=>sdr0 1 3 12 [] [(12,(.bool (decide (r.at_<(r.l.length:Int)))))] (Hr_ 3 0 (Hr_ 7 0 Hn_)) hs V V V fun _=>zd 1 2 (fun U=>?_) fun U=>?_))
 ·obtain⟨an,T⟩:=Sv.view (SR.sv ar hs);obtain⟨Y,Z⟩:=Token.fx (T r.at_.toNat);refine sdr0 1 13 23 [2] [(2,(.int _ _))] (Hr_ 3 0 (Hr_ 7 0 (Ha_ (Sv.ix (SR.sv ar hs)) (Hl_ 10 (ql 3 2 (hc0 (Token.vw (T r.at_.toNat) M)) V V) Hn_)))) hs V V V fun _=>ae ⟨.inr V,_,V,_,_,fR,(HS.first hs),V,(by(unfold offV;first|rw[if_pos M]|rw[if_neg M]))⟩
 refine cP 1 24 27 [2] [(2,(.int _ _))] (Hr_ 3 0 Hn_) hs V V fun _=>ae ⟨.inr V,_,V,_,_,fR,(HS.first hs),V,(by(unfold offV;first|rw[if_pos M]|rw[if_neg M]))⟩
abbrev Po2(F:Fz)(H:Heap)(b_r:Nat)(ar_0:Option Addr)(r:RdrT)(kr_0:Nat)(R:List Fp)(c_:Bool)(v:Value)(H':Heap):Prop:= ∃(o:Bool) (F':Fz),Fz.le F F'/\HS (.of H [b_r]) F' H' [[(b_r,.cells [(sL ar_0 r.l.length kr_0),(iI r.at_),(iI r.fin),(.bool r.bad)] none false)]] R/\v= .bool o/\o=c_
theorem is_c{E:Option Addr}{U:Nat}{ar:Nat}(r:RdrT)(s:List UInt8)(h0:Pr1 H ar F E r U R ts):kKt ex 44 [(pT ar 0),(tX s)] H (Po2 F H ar E r U R (isB r s)):=by obtain⟨hs,ax,a3,a4,a6,hts,hat,a5⟩:=h0;refine av Tryz.func44 V V (ai 1 V (wr 2 [] 4 4 [] [(4,(.bool false))] trivial V V fun _=>ab (zm (pT ar 0) (zc (lI ts ex r (.mk (g_ hs V) ax)) ?_))));rintro _ H2 ⟨t2,F2,Y,O,rfl,Z,al,rfl⟩;replace O:=hs.bO O;refine zn O V fun b3 H4 an=>sgo 1 3 1 0 [] [] (Hr_ 3 1 Hn_) an V V fun a0 H5 T=>ah 2 V (cP 1 8 16 [4] [(4,(.bool (((nxT r).kind==3)&&((nxT r).text.b==s))))] (Hr_ 1 1 (Ho_ 5 (.o (tX (nxT r).text.b)) (fun(g1:_)=>(ql 9 1 (i_ T V) V V)) Hn_)) T V V fun _=>ae ⟨.inr V,_,V,_,_,(Y),(HS.first T),V,(isB_of)⟩)
theorem atName_c{E:Option Addr}{U:Nat}{ar:Nat}(r:RdrT)(h0:Pr1 H ar F E r U R ts):kKt ex 41 [(pT ar 0)] H (Po2 F H ar E r U R (anB r)):=by obtain⟨hs,ax,a5,a6,a8,hts,hat,a7⟩:=h0;refine av Tryz.func41 V V (ai 1 V (wr 2 [] 2 2 [] [(2,(.bool false))] trivial V V fun _=>ab (zm (pT ar 0) (zc (lI ts ex r (.mk (g_ hs V) ax)) ?_))));rintro _ H2 ⟨t2,F2,Y,O,rfl,Z,al,rfl⟩;replace O:=hs.bO O;refine zn O V fun b3 H4 an=>sgo 1 3 1 0 [] [] (Hr_ 3 1 Hn_) an V V fun a2 H5 T=>ah 2 V (cP 1 6 14 [2] [(2,(.bool (((nxT r).kind==1)&&(!(eH (nxT r).text.b)))))] (Hr_ 1 1 (Ho_ 5 (.o (tX (nxT r).text.b)) (fun(g1:_)=>(ql 9 1 (i_ T V) V V)) (Ho_ 6 (.o (.bool (eH (nxT r).text.b))) (fun(g1:_)=>(reserved_c_q ex _ H5)) Hn_))) T V V fun _=>ae ⟨.inr V,_,V,_,_,(Y),(HS.first T),V,(anB_of)⟩)
abbrev Po3(F:Fz)(H:Heap)(b_r:Nat)(R:List Fp)(Φ:Bool->RdrT->Prop)(v:Value)(H':Heap):Prop:= ∃(o:Bool) (r':RdrT) (am_0:Option Addr) (km_0:Nat) (F':Fz),Fz.le F F'/\HS (.of H [b_r]) F' H' [[(b_r,.cells [(sL am_0 r'.l.length km_0),(iI r'.at_),(iI r'.fin),(.bool r'.bad)] none false)]] R/\v= .bool o/\in64 r'.at_/\in64 r'.fin/\SR F' (sL am_0 r'.l.length km_0) r'.l/\Φ o r'
theorem el{U:Option Addr}{Y:Nat}{ax:Nat}(r:RdrT)(s:List UInt8)(h0:Pr1 H ax F U r Y R ts):kKt ex 43 [(pT ax 0),(tX s)] H (Po3 F H ax R fun o r'=>o=isB r s/\(isB r s=true->r.bad=false/\isS ts r.at_.toNat s=true/\r'.at_=r.at_+1/\r'.bad=false)/\(isB r s=false->r'.at_=r.at_/\r'.bad=r.bad/\(r.bad=false->¬isS ts r.at_.toNat s=true))/\(r'.l=ts)/\(r.at_<=r'.at_/\r'.at_<=(ts.length:Int))/\(r'.fin=r.fin)):=by
 obtain⟨hs,al,a1,a2,a4,hts,hat,a3⟩:=h0;refine av Tryz.func43 V V (ai 1 V (wr 3 [] 4 4 [] [(4,(.bool false))] trivial V V fun _=>ab (wro 2 0 [] 5 6 [] [(5,(pT ax 0)),(6,(tX s))] trivial V V fun _=>zc (is_c ts ex r s (.mk (g_ hs V) al)) ?_)));rintro _ H3 ⟨o3,F3,T,E,rfl,rfl⟩;replace E:=hs.bO E;replace al:=al.mono T;refine wro 1 3 [] 8 8 [] [(8,(.bool (!(isB r s))))] trivial V V fun _=>ah 1 V (zi 1 2 (fun O=>?_) fun O=>?_)
 ·try simp only[BS]at O
  have c1:=O;refine wr 1 [] 4 4 [] [(4,(.bool false))] trivial V V fun _=>ae ⟨.inr V,_,V,_,r,_,_,_,(T),(HS.first E),V,M,M,al,(c1.symm),(acc_d c1),(acc_n hts c1),X,M,k_⟩
 try simp only[BS]at O
 have c1:=O;have c2:=isB_lt hts hat c1;refine sgr 2 9 15 [] [] (Hr_ 3 0 (Ha_ (vi) (Hr_ 7 0 Hn_))) E V V fun an H7 Z=>wr 1 [] 4 4 [] [(4,(.bool true))] trivial V V fun _=>ae ⟨.inr V,_,V,_,(⟨r.l,r.at_+1,_,_⟩:RdrT),_,_,_,(T),(HS.first Z),V,M,M,al,(c1.symm),(acc_y hts c1),(acc_c c1),X,M,k_⟩
theorem cG{Y:Option Addr}{Z:Nat}{a4:Nat}(r:RdrT)(s:List UInt8)(h0:Pr1 H a4 F Y r Z R ts):kKt ex 15 [(pT a4 0),(tX s)] H (Po3 F H a4 R fun o r'=>o=kwB r s/\(kwB r s=true->r.bad=false/\isK ts r.at_.toNat s=true/\r'.at_=r.at_+1/\r'.bad=false)/\(kwB r s=false->r'.at_=r.at_/\r'.bad=r.bad/\(r.bad=false->¬isK ts r.at_.toNat s=true))/\(r'.l=ts)/\(r.at_<=r'.at_/\r'.at_<=(ts.length:Int))/\(r'.fin=r.fin)):=by
 obtain⟨hs,ar,a8,a9,bb,hts,hat,ba⟩:=h0;refine av Tryz.func15 V V (ai 1 V (wr 2 [] 4 4 [] [(4,(.bool false))] trivial V V fun _=>ab (zm (pT a4 0) (zc (lI ts ex r (.mk (g_ hs V) ar)) ?_))));rintro _ H2 ⟨t2,F2,T,U,rfl,al,an,rfl⟩;replace U:=hs.bO U;replace ar:=ar.mono T;refine zn U V fun b3 H4 ax=>sgo 1 3 1 0 [] [] (Hr_ 3 1 Hn_) ax V V fun a2 H5 E=>ah 3 V (cP 1 8 16 [] [(16,(.bool (((nxT r).kind !=1)||((nxT r).text.b !=s))))] (Hr_ 1 1 (Ho_ 5 (.o (tX (nxT r).text.b)) (fun(g1:_)=>(ql 9 1 (i_ E V) V V)) Hn_)) E V V fun _=>zi 1 2 (fun O=>?_) fun O=>?_)
 ·try simp only[BS]at O
  have c1:=kwB_f O;refine wr 1 [] 4 4 [] [(4,(.bool false))] trivial V V fun _=>ae ⟨.inr V,_,V,_,r,_,_,_,(T),(HS.first E),V,M,M,ar,(c1.symm),(acc_d c1),(kac_n hts c1),X,M,k_⟩
 try simp only[BS]at O
 have c1:=kwB_t O;have c2:=kwB_lt hts hat c1;refine sgr 2 17 23 [] [] (Hr_ 3 0 (Ha_ (vi) (Hr_ 7 0 Hn_))) E V V fun a3 H9 a0=>wr 1 [] 4 4 [] [(4,(.bool true))] trivial V V fun _=>ae ⟨.inr V,_,V,_,(⟨r.l,r.at_+1,_,_⟩:RdrT),_,_,_,(T),(HS.first a0),V,M,M,ar,(c1.symm),(kac_y hts c1),(acc_c c1),X,M,k_⟩
theorem aM{al:Option Addr}{an:Nat}{a7:Nat}(r:RdrT)(s:List UInt8)(h0:Pr1 H a7 F al r an R ts):kKt ex 18 [(pT a7 0),(tX s)] H fun v H'=> ∃(r':RdrT) (U:Option Addr) (Y:Nat) (F':Fz),Fz.le F F'/\HS (.of H [a7]) F' H' [(rZ a7 r' U Y)] R/\v= .tuple #[]/\in64 r'.at_/\in64 r'.fin/\SR F' (sL U r'.l.length Y) r'.l/\(r'.bad=false->r.at_<r'.at_)/\(r'.l=ts)/\(r.at_<=r'.at_/\r'.at_<=(ts.length:Int))/\(r'.fin=r.fin)/\(Oc (fun n=>eS ts s r.at_.toNat) r.bad r.at_ () r'.at_ r'.bad):=by
 obtain⟨hs,a8,b6,b7,ch,hts,hat,b9⟩:=h0;refine av Tryz.func18 V V (ai 1 V (ab (wro 2 0 [] 4 5 [] [(4,(pT a7 0)),(5,(tX s))] trivial V V fun _=>zc (el ts ex r s (.mk (g_ hs V) a8)) ?_)));rintro _ H2 ⟨o2,a2,a3,a6,F2,Z,O,rfl,a4,a5,T,rfl,a0,ax,a9,ba,bb⟩;replace O:=hs.bO O;refine wro 1 3 [] 7 7 [] [(7,(.bool (!(isB r s))))] trivial V V fun _=>ah 1 V (zi 0 0 (fun E=>?_) fun E=>?_)
 ·try simp only[BS]at E
  have b0:=ax E;have q:=(by assumption:isB r s=false->_) E;have q1:=q.1;refine sgr 0 8 10 [] [] (Hr_ 3 0 Hn_) O V V fun bl H5 a1=>ap ⟨.inl V,_,V,(⟨_,_,_,true⟩:RdrT),_,_,_,(Z),(HS.first a1),V,M,M,T,(by(intro h;first|cases h|omega|(dsimp only at h⊢;omega)|(simp at h))),X,X,X,(exp_n hat.1 ⟨q.1,trivial,q.2.2⟩)⟩
 try simp only[BS]at E
 have b1:=a0 E;have q:=(by assumption:isB r s=true->_) E;have q1:=q.2.2.1;refine ap ⟨.inl V,_,V,a2,_,_,_,(Z),(HS.first O),V,M,M,T,(by(intro h;first|cases h|omega|(dsimp only at h⊢;omega)|(simp at h))),X,X,X,(exp_y hat.1 q)⟩
theorem lJ{an:Option Addr}{ax:Nat}{a7:Nat}(r:RdrT)(h0:Pr1 H a7 F an r ax R ts):kKt ex 16 [(pT a7 0)] H fun v H'=> ∃(x:List UInt8) (r':RdrT) (T:Option Addr) (Z:Nat) (F':Fz),Fz.le F F'/\HS (.of H [a7]) F' H' [(rZ a7 r' T Z)] R/\v=tX x/\in64 r'.at_/\in64 r'.fin/\SR F' (sL T r'.l.length Z) r'.l/\(r'.bad=false->r.at_<r'.at_)/\(r'.l=ts)/\(r.at_<=r'.at_/\r'.at_<=(ts.length:Int))/\(r'.fin=r.fin)/\(Oc (fun n=>eb ts r.at_.toNat) r.bad r.at_ (⟨x⟩:Str) r'.at_ r'.bad):=by
 obtain⟨hs,ar,b0,b1,b3,hts,hat,b2⟩:=h0;refine av Tryz.func16 V V (ai 1 V (wr 3 [] 2 2 [] [(2,(tX []))] trivial V V fun _=>ab (zm (pT a7 0) (zc (atName_c ts ex r (.mk (g_ hs V) ar)) ?_))));rintro _ H2 ⟨o2,F2,Y,E,rfl,rfl⟩;replace E:=hs.bO E;replace ar:=ar.mono Y;refine wro 1 2 [] 5 5 [] [(5,(.bool (!(anB r))))] trivial V V fun _=>ah 1 V (zi 1 2 (fun U=>?_) fun U=>?_)
 ·try simp only[BS]at U
  have c1:=U;refine sgr 2 6 8 [] [] (Hr_ 3 0 Hn_) E V V fun a5 H5 a0=>wr 1 [] 2 2 [] [(2,(tX []))] trivial V V fun _=>ae ⟨.inr V,_,V,[],(⟨r.l,r.at_,_,true⟩:RdrT),_,_,_,(Y),(HS.first a0),V,M,M,ar,(by intro h;first|cases h|omega|(dsimp only;omega)|(simp at h)),X,M,k_,(nam_n hts hat.1 c1)⟩
 try simp only[BS]at U
 have c1:=U;have c2:=anB_lt hts hat c1;refine sgr 2 9 15 [] [] (Hr_ 3 0 (Ha_ (vi) (Hr_ 7 0 Hn_))) E V V fun a6 H7 O=>?_
 obtain⟨a4,al⟩:=Sv.view (SR.sv ar O);obtain⟨a1,a2⟩:=Token.fx (al ((r.at_+1)-1).toNat);refine sdr0 1 16 27 [2] [(2,(tX (r.l.getD _ _).text.b))] (Hr_ 3 0 (Hr_ 7 0 (Ha_ (vi M) (Ha_ (Sv.ix (SR.sv ar O) M (by(rw[hts];omega))) (Hl_ 11 (ql 9 1 (hc0 (Token.vw (al ((r.at_+1)-1).toNat) (by(rw[hts];omega)))) V V) Hn_))))) O V V V fun _=>ae ⟨.inr V,_,V,_,(⟨r.l,r.at_+1,_,_⟩:RdrT),_,_,_,(Y),(HS.first O),V,M,M,ar,(by intro h;first|cases h|omega|(dsimp only;omega)|(simp at h)),X,M,k_,(nam_y hts hat.1 c1)⟩
end Go.Proofs.YtapgbjedgcpffaaGreat.pa
