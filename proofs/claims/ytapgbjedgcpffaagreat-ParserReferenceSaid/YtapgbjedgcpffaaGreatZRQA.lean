/-
The parser of the reference: its plain steps. No condition but that its place lies in the list.
-/
import Derived.Test.YtapgbjedgcpffaaGreatZRL1
import Derived.Test.YtapgbjedgcpffaaGreatZRPI
noncomputable section
namespace Go.Proofs.YtapgbjedgcpffaaGreat.qa
open Go.R
set_option maxRecDepth 10000
set_option linter.unusedVariables false
set_option linter.unusedSimpArgs false
open w1 w3 l1 pt pa pb pc pd pe pf pg ph pi_
abbrev zQA1:List Str:=[⟨[97,114,114,97,121]⟩,⟨[102,117,110,99]⟩,⟨[118,97,114]⟩,⟨[114,101,116,117,114,110]⟩,⟨[105,102]⟩,⟨[101,108,115,101]⟩,⟨[119,104,105,108,101]⟩,⟨[111,117,116]⟩,⟨[116,114,97,112]⟩]
def bE(e:ErrT):Bool:=decide (e.why≠0)
def ErE(ts:List Token)(r:PrsT):Prop:=(r.e.why=0/\r.e.at_=0)\/(r.e.why=2/\r.e.at_=offV ts r.i r.fin)
theorem bE_ok{e:ErrT}:(e.why==0)= !bE e:=by unfold bE;rw[a0G];simp
def isA(ts:List Token)(i:Nat)(w:List UInt8):Bool:=decide (i<ts.length)&&decide ((ts.getD i default).text.b=w)&&decide ((ts.getD i default).kind≠2)
def atB(ts:List Token)(r:PrsT)(k:Nat)(w:List UInt8):Bool:= !bE r.e&&isA ts (r.i.toNat+k) w
def anQ(ts:List Token)(r:PrsT)(k:Nat):Bool:= !bE r.e&&isN ts (r.i.toNat+k)
def amQ(ts:List Token)(r:PrsT)(k:Nat):Bool:= !bE r.e&&isM ts (r.i.toNat+k)
theorem lt_dec{ts:List Token}{r:PrsT}{k:Nat}(O:r.l=ts)(E:0<=r.i):decide (r.i+(k:Int)<(r.l.length:Int))=decide (r.i.toNat+k<ts.length):=by rw[O];exact decide_eq_decide.2 M
theorem atB_of{ts:List Token}{r:PrsT}{k:Nat}{s:List UInt8}(O:r.l=ts)(E:0<=r.i):(((!bE r.e&&(decide (r.i+(k:Int)<(r.l.length:Int))))&&((r.l.getD (r.i+(k:Int)).toNat default).text.b==s))&&((r.l.getD (r.i+(k:Int)).toNat default).kind !=2))=atB ts r k s:=by unfold atB isA;rw[lt_dec O E,O,show(r.i+(k:Int)).toNat=r.i.toNat+k by omega,a0G];simp[and_assoc]
theorem anQ_of{ts:List Token}{r:PrsT}{k:Nat}(O:r.l=ts)(E:0<=r.i):(((!bE r.e&&(decide (r.i+(k:Int)<(r.l.length:Int))))&&((r.l.getD (r.i+(k:Int)).toNat default).kind==1))&&(!(eH (r.l.getD (r.i+(k:Int)).toNat default).text.b)))=anQ ts r k:=by
 unfold anQ isN;rw[lt_dec O E,O,show(r.i+(k:Int)).toNat=r.i.toNat+k by omega];rcases a0c (r.i.toNat+k) ts.length with h|h
 ·rw[decide_eq_true h,a0J,a0G];simp[and_assoc]
 rw[decide_eq_false M,bh h,a18];simp;intro _ h;cases h
theorem amQ_of{ts:List Token}{r:PrsT}{k:Nat}(O:r.l=ts)(E:0<=r.i):((!bE r.e&&(decide (r.i+(k:Int)<(r.l.length:Int))))&&((r.l.getD (r.i+(k:Int)).toNat default).kind==2))=amQ ts r k:=by
 unfold amQ isM;rw[lt_dec O E,O,show(r.i+(k:Int)).toNat=r.i.toNat+k by omega];rcases a0c (r.i.toNat+k) ts.length with h|h
 ·rw[decide_eq_true h,a0J,a0G];simp
 rw[decide_eq_false M,bh h,a18];simp;intro _ h;cases h
theorem isA_lt{ts:List Token}{i:Nat}{w:List UInt8}(h:isA ts i w=true):i<ts.length:=by unfold isA at h;rw[a03,a03,decide_eq_true_eq]at h;exact h.1.1
theorem isA_S{ts:List Token}(O:du ts){w:List UInt8}(E:aR (w.headD 0)=false)(i:Nat):isA ts i w=isS ts i w:=by
 unfold isA isS;rcases a0c i ts.length with h|h
 ·rw[a0G];simp only[a03,decide_eq_true_eq];refine⟨fun q=>⟨?_,q.1.2⟩,fun q=>⟨⟨h,q.2⟩,by rw[q.1];decide⟩⟩;rcases O i h with k|k|k
  ·have:=k.2;rw[q.1.2]at this;unfold aR at E;rw[this]at E;cases E
  ·exact absurd k.1 q.2
  exact k.1
 rw[decide_eq_false M,bh h];rfl
theorem isA_K{ts:List Token}(E:du ts){w:List UInt8}(O:bT (w.headD 0)=true)(i:Nat):isA ts i w=isK ts i w:=by
 unfold isA isK;rcases a0c i ts.length with h|h
 ·rw[a0G];simp only[a03,decide_eq_true_eq];refine⟨fun q=>⟨?_,q.1.2⟩,fun q=>⟨⟨h,q.2⟩,by rw[q.1];decide⟩⟩;rcases E i h with k|k|k
  ·exact k.1
  ·exact absurd k.1 q.2
  have:=k.2;rw[q.1.2]at this;unfold aR at this;rw[O]at this;cases this
 rw[decide_eq_false M,bh h];rfl
theorem at_S{ts:List Token}{r:PrsT}{w:List UInt8}(E:du ts)(O:aR (w.headD 0)=false)(h:atB ts r 0 w=true):bE r.e=false/\isS ts r.i.toNat w=true/\r.i+1=r.i+1/\bE r.e=false:=by unfold atB at h;rw[a03,a0u,isA_S E O]at h;exact⟨h.1,h.2,V,h.1⟩
theorem at_K{ts:List Token}{r:PrsT}{w:List UInt8}(E:du ts)(O:bT (w.headD 0)=true)(h:atB ts r 0 w=true):bE r.e=false/\isK ts r.i.toNat w=true/\r.i+1=r.i+1/\bE r.e=false:=by unfold atB at h;rw[a03,a0u,isA_K E O]at h;exact⟨h.1,h.2,V,h.1⟩
theorem hO{ts:List Token}{r:PrsT}{w:List UInt8}(E:0<=r.i)(h:atB ts r 0 w=true):r.i<(ts.length:Int):=by unfold atB at h;rw[a03]at h;have:=isA_lt h.2;omega
theorem jv{ts:List Token}{r:PrsT}{w:List UInt8}(E:du ts)(O:aR (w.headD 0)=false)(h:atB ts r 0 w=false)(hb:bE r.e=false): ¬isS ts r.i.toNat w=true:=fun k=>by unfold atB at h;rw[hb,isA_S E O,a1v,k]at h;cases h
theorem nQ{ts:List Token}{r:PrsT}{w:List UInt8}(E:du ts)(O:bT (w.headD 0)=true)(h:atB ts r 0 w=false)(hb:bE r.e=false): ¬isK ts r.i.toNat w=true:=fun k=>by unfold atB at h;rw[hb,isA_K E O,a1v,k]at h;cases h
def expA(ts:List Token)(w:List UInt8)(i:Nat):Rs Unit:=if isA ts i w then .ok ((),i+1) else .error i
theorem cI{ts:List Token}(E:du ts){w:List UInt8}(O:aR (w.headD 0)=false):expA ts w=eS ts w:=funext fun i=>by unfold expA eS;rw[isA_S E O]
theorem expA_K{ts:List Token}(E:du ts){w:List UInt8}(O:bT (w.headD 0)=true):expA ts w=keyM ts w:=funext fun i=>by unfold expA keyM;rw[isA_K E O]
theorem rreserved_c(ex:FuncId)(s:List UInt8){F:Fz}{H:Heap}{R:List Fp}(hs:HS (.of H []) F H [] R):kKt ex 76 [(tX s)] H fun v H'=> ∃(o:Bool) (F':Fz),Fz.le F F'/\HS (.of H []) F' H' [] R/\v= .bool o/\o=eH s:=by
 refine av Tryz.func76 V V (ai 1 V (wr 2 [] 2 2 [] [(2,(.bool false))] trivial V V fun _=>ab (zlo zQA1 hs V j_ V fun a2 k2 p2 H3 O E=>za (sL a2 _ k2) ?_)));refine ah 3 V (wr 2 [] 1 0 [4] [(4,(.int _ 0))] trivial V V fun _=>aY (ai 2 V (wr 1 [] 6 9 [] [(9,(.bool true))] trivial V V fun _=>bn 4 V V V V ?_)));obtain⟨b8,bb⟩:=Sv.view (OS.sv O E (i:=0) V);refine wrp 1 12 17 [] [(17,(.bool ((zQA1.getD 0 _).b==s)))] (Ha_ (Sv.ix (OS.sv O E (i:=0) V) e_ (show(0:Int)<(9:Int) from by decide)) (Hl_ 3 (ql 9 0 (vS (bb 0) (show 0<9 from by decide)) V V) Hn_)) V V fun _=>zi 1 2 (fun c9=>?_) fun c9=>?_
 ·try simp only[BS]at c9
  refine wr 1 [] 2 2 [] [(2,(.bool true))] trivial V V fun _=>ae ⟨.inr V,_,V,_,_,fR,(HS.forget E),V,(by(simp_all[eH,iH];done))⟩
 try simp only[BS]at c9
 refine wr 1 [] 10 11 [4] [(4,(.int _ 1))] (vA (vi) trivial) V V fun _=>aY (ai 2 V (wr 1 [] 6 9 [] [(9,(.bool true))] trivial V V fun _=>bn 4 V V V V ?_))
 obtain⟨b0,a3⟩:=Sv.view (OS.sv O E (i:=0) V);refine wrp 1 12 17 [] [(17,(.bool ((zQA1.getD 1 _).b==s)))] (Ha_ (Sv.ix (OS.sv O E (i:=0) V) e_ (show(1:Int)<(9:Int) from by decide)) (Hl_ 3 (ql 9 0 (vS (a3 1) (show 1<9 from by decide)) V V) Hn_)) V V fun _=>zi 1 2 (fun T=>?_) fun T=>?_
 ·try simp only[BS]at T
  refine wr 1 [] 2 2 [] [(2,(.bool true))] trivial V V fun _=>ae ⟨.inr V,_,V,_,_,fR,(HS.forget E),V,(by(simp_all[eH,iH];done))⟩
 try simp only[BS]at T
 refine wr 1 [] 10 11 [4] [(4,(.int _ 2))] (vA (vi) trivial) V V fun _=>aY (ai 2 V (wr 1 [] 6 9 [] [(9,(.bool true))] trivial V V fun _=>bn 4 V V V V ?_))
 obtain⟨b1,a4⟩:=Sv.view (OS.sv O E (i:=0) V);refine wrp 1 12 17 [] [(17,(.bool ((zQA1.getD 2 _).b==s)))] (Ha_ (Sv.ix (OS.sv O E (i:=0) V) e_ (show(2:Int)<(9:Int) from by decide)) (Hl_ 3 (ql 9 0 (vS (a4 2) (show 2<9 from by decide)) V V) Hn_)) V V fun _=>zi 1 2 (fun U=>?_) fun U=>?_
 ·try simp only[BS]at U
  refine wr 1 [] 2 2 [] [(2,(.bool true))] trivial V V fun _=>ae ⟨.inr V,_,V,_,_,fR,(HS.forget E),V,(by(simp_all[eH,iH];done))⟩
 try simp only[BS]at U
 refine wr 1 [] 10 11 [4] [(4,(.int _ 3))] (vA (vi) trivial) V V fun _=>aY (ai 2 V (wr 1 [] 6 9 [] [(9,(.bool true))] trivial V V fun _=>bn 4 V V V V ?_))
 obtain⟨b2,a5⟩:=Sv.view (OS.sv O E (i:=0) V);refine wrp 1 12 17 [] [(17,(.bool ((zQA1.getD 3 _).b==s)))] (Ha_ (Sv.ix (OS.sv O E (i:=0) V) e_ (show(3:Int)<(9:Int) from by decide)) (Hl_ 3 (ql 9 0 (vS (a5 3) (show 3<9 from by decide)) V V) Hn_)) V V fun _=>zi 1 2 (fun Y=>?_) fun Y=>?_
 ·try simp only[BS]at Y
  refine wr 1 [] 2 2 [] [(2,(.bool true))] trivial V V fun _=>ae ⟨.inr V,_,V,_,_,fR,(HS.forget E),V,(by(simp_all[eH,iH];done))⟩
 try simp only[BS]at Y
 refine wr 1 [] 10 11 [4] [(4,(.int _ 4))] (vA (vi) trivial) V V fun _=>aY (ai 2 V (wr 1 [] 6 9 [] [(9,(.bool true))] trivial V V fun _=>bn 4 V V V V ?_))
 obtain⟨b3,a6⟩:=Sv.view (OS.sv O E (i:=0) V);refine wrp 1 12 17 [] [(17,(.bool ((zQA1.getD 4 _).b==s)))] (Ha_ (Sv.ix (OS.sv O E (i:=0) V) e_ (show(4:Int)<(9:Int) from by decide)) (Hl_ 3 (ql 9 0 (vS (a6 4) (show 4<9 from by decide)) V V) Hn_)) V V fun _=>zi 1 2 (fun Z=>?_) fun Z=>?_
 ·try simp only[BS]at Z
  refine wr 1 [] 2 2 [] [(2,(.bool true))] trivial V V fun _=>ae ⟨.inr V,_,V,_,_,fR,(HS.forget E),V,(by(simp_all[eH,iH];done))⟩
 try simp only[BS]at Z
 refine wr 1 [] 10 11 [4] [(4,(.int _ 5))] (vA (vi) trivial) V V fun _=>aY (ai 2 V (wr 1 [] 6 9 [] [(9,(.bool true))] trivial V V fun _=>bn 4 V V V V ?_))
 obtain⟨b4,a7⟩:=Sv.view (OS.sv O E (i:=0) V);refine wrp 1 12 17 [] [(17,(.bool ((zQA1.getD 5 _).b==s)))] (Ha_ (Sv.ix (OS.sv O E (i:=0) V) e_ (show(5:Int)<(9:Int) from by decide)) (Hl_ 3 (ql 9 0 (vS (a7 5) (show 5<9 from by decide)) V V) Hn_)) V V fun _=>zi 1 2 (fun al=>?_) fun al=>?_
 ·try simp only[BS]at al
  refine wr 1 [] 2 2 [] [(2,(.bool true))] trivial V V fun _=>ae ⟨.inr V,_,V,_,_,fR,(HS.forget E),V,(by(simp_all[eH,iH];done))⟩
 try simp only[BS]at al
 refine wr 1 [] 10 11 [4] [(4,(.int _ 6))] (vA (vi) trivial) V V fun _=>aY (ai 2 V (wr 1 [] 6 9 [] [(9,(.bool true))] trivial V V fun _=>bn 4 V V V V ?_))
 obtain⟨b5,a8⟩:=Sv.view (OS.sv O E (i:=0) V);refine wrp 1 12 17 [] [(17,(.bool ((zQA1.getD 6 default).b==s)))] (Ha_ (Sv.ix (j:=6) (OS.sv O E (i:=0) V) e_ (show(6:Int)<(9:Int) from by decide)) (Hl_ 3 (ql 9 0 (vS (a8 6) (show 6<9 from by decide)) V V) Hn_)) (by kernel_rfl) V fun _=>zi 1 2 (fun an=>?_) fun an=>?_
 ·try simp only[BS]at an
  refine wT 1 [] 2 2 [] [(2,(.bool true))] V fun _=>ae ⟨.inr V,_,V,true,_,fR,(HS.forget E),V,(by(simp_all[eH,iH];done))⟩
 try simp only[BS]at an
 refine wU 1 [] 10 11 [4] [(4,(iI 7))] (vi (n:=(7:Int))) V fun _=>aY (ai 2 V (wT 1 [] 6 9 [] [(9,(.bool true))] V fun _=>bn 4 (v:=true) V V V V ?_))
 obtain⟨b6,a9⟩:=Sv.view (OS.sv O E (i:=0) V);refine wrp 1 12 17 [] [(17,(.bool ((zQA1.getD 7 default).b==s)))] (Ha_ (Sv.ix (j:=7) (OS.sv O E (i:=0) V) e_ (show(7:Int)<(9:Int) from by decide)) (Hl_ 3 (ql 9 0 (vS (a9 7) (show 7<9 from by decide)) V V) Hn_)) (by kernel_rfl) V fun _=>zi 1 2 (fun ax=>?_) fun ax=>?_
 ·try simp only[BS]at ax
  refine wT 1 [] 2 2 [] [(2,(.bool true))] V fun _=>ae ⟨.inr V,_,V,true,_,fR,(HS.forget E),V,(by(simp_all[eH,iH];done))⟩
 try simp only[BS]at ax
 refine wU 1 [] 10 11 [4] [(4,(iI 8))] (vi (n:=(8:Int))) V fun _=>aY (ai 2 V (wT 1 [] 6 9 [] [(9,(.bool true))] V fun _=>bn 4 (v:=true) V V V V ?_))
 obtain⟨b7,ba⟩:=Sv.view (OS.sv O E (i:=0) V);refine wrp 1 12 17 [] [(17,(.bool ((zQA1.getD 8 default).b==s)))] (Ha_ (Sv.ix (j:=8) (OS.sv O E (i:=0) V) e_ (show(8:Int)<(9:Int) from by decide)) (Hl_ 3 (ql 9 0 (vS (ba 8) (show 8<9 from by decide)) V V) Hn_)) (by kernel_rfl) V fun _=>zi 1 2 (fun a0=>?_) fun a0=>?_
 ·try simp only[BS]at a0
  refine wT 1 [] 2 2 [] [(2,(.bool true))] V fun _=>ae ⟨.inr V,_,V,true,_,fR,(HS.forget E),V,(by(simp_all[eH,iH];done))⟩
 try simp only[BS]at a0
 refine wU 1 [] 10 11 [4] [(4,(iI 9))] (vi (n:=(9:Int))) V fun _=>aY (ai 2 V (wT 1 [] 6 9 [] [(9,(.bool false))] V fun _=>gK 5 (v:=false) V V V V (wT 1 [] 2 2 [] [(2,(.bool false))] V fun _=>?_)))
 refine ae ⟨.inr V,_,V,false,_,fR,(HS.forget E),V,(by(symm;unfold eH;rw[decide_eq_false_iff_not];unfold iH;intro h;simp only[a0m,a0f,or_false]at h;rcases h with h|h|h|h|h|h|h|h|h<;>simp_all))⟩
variable (ts:List Token)
variable (ex:FuncId) {F:Fz} {H:Heap} {R:List Fp}
theorem roffset_c{E:Option Addr}{O:Nat}{ax:Nat}(r:PrsT)(hs:HS (.of H []) F H [] R)(an:HC H.get ax 0 [(sL E r.l.length O),(iI r.i),(iI r.fin),(iI r.e.why),(iI r.e.at_)])(ar:SR F (sL E r.l.length O) r.l)(a0:in64 r.i)(a1:in64 r.fin)(a2:in64 r.e.why)(a3:in64 r.e.at_)(a4:du ts)(a6:tQ ts)(hta: ∀i,in64 (ts.getD i default).at_)(hts:r.l=ts)(hat:0<=r.i/\r.i<=(ts.length:Int))(a5:ts.length<=1000000):kKt ex 77 [(pT ax 0)] H fun v H'=> ∃(x:Int),H'=H/\v=iI x/\x=offV ts r.i r.fin:=by
 refine av Tryz.func77 V V (ai 1 V (wr 3 [] 2 2 [] [(2,(.int _ 0))] trivial V V fun _=>wrDp 1 3 12 [] [(12,(.bool (decide (r.i<(r.l.length:Int)))))] (Hl_ 3 (ql 3 1 (hc0 an) V V) (Hl_ 7 (ql 48 0 (hc0 an) V V) Hn_)) V V V fun _=>zd 1 2 (fun U=>?_) fun U=>?_))
 ·obtain⟨al,T⟩:=Sv.view (SR.sv ar hs);obtain⟨Y,Z⟩:=Token.fx (T r.i.toNat);refine wrDp 1 13 23 [2] [(2,(.int _ _))] (Hl_ 3 (ql 48 0 (hc0 an) V V) (Hl_ 7 (ql 3 1 (hc0 an) V V) (Ha_ (Sv.ix (SR.sv ar hs)) (Hl_ 10 (ql 3 2 (hc0 (Token.vw (T r.i.toNat) M)) V V) Hn_)))) V V V fun _=>ae ⟨.inr V,_,V,_,V,V,(by have e:=congrArg List.length hts;unfold offV;first|(rw[if_pos M,hts];done)|(rw[if_neg M];done))⟩
 refine wrp 1 24 27 [2] [(2,(.int _ _))] (Hl_ 3 (ql 3 2 an V V) Hn_) V V fun _=>ae ⟨.inr V,_,V,_,V,V,(by have e:=congrArg List.length hts;unfold offV;first|(rw[if_pos M,hts];done)|(rw[if_neg M];done))⟩
theorem roffset_c_q{E:Option Addr}{O:Nat}{T:Nat}(r:PrsT)(hs:HS (.of H []) F H [] R)(U:HC H.get T 0 [(sL E r.l.length O),(iI r.i),(iI r.fin),(iI r.e.why),(iI r.e.at_)])(Y:SR F (sL E r.l.length O) r.l)(Z:in64 r.i)(al:in64 r.fin)(an:in64 r.e.why)(ar:in64 r.e.at_)(ax:du ts)(a1:tQ ts)(hta: ∀i,in64 (ts.getD i default).at_)(hts:r.l=ts)(hat:0<=r.i/\r.i<=(ts.length:Int))(a0:ts.length<=1000000):kKt ex 77 [(pT T 0)] H fun v H'=>v=(iI (offV ts r.i r.fin))/\H'=H:=
 cq (roffset_c ts ex r hs U Y Z al an ar ax a1 hta hts hat a0) (by rintro _ _ ⟨_,rfl,rfl,rfl⟩;exact⟨V,V⟩)
abbrev Po1(H:Heap)(c_:Bool)(v:Value)(H':Heap):Prop:= ∃(o:Bool),H'=H/\v= .bool o/\o=c_
theorem rok_c{E:Option Addr}{O:Nat}{T:Nat}(r:PrsT)(H:Heap)(U:HC H.get T 0 [(sL E r.l.length O),(iI r.i),(iI r.fin),(iI r.e.why),(iI r.e.at_)])(Y:in64 r.i)(Z:in64 r.fin)(al:in64 r.e.why)(an:in64 r.e.at_):kKt ex 22 [(pT T 0)] H (Po1 H (!bE r.e)):=by refine av Tryz.func22 V V (ai 1 V (wr 2 [] 2 2 [] [(2,(.bool false))] trivial V V fun _=>wrp 1 2 8 [] [(2,(.bool (r.e.why==0)))] (Hl_ 4 (ql 31 3 U V V) Hn_) V V fun _=>ae ⟨.inr V,_,V,_,V,V,(bE_ok)⟩))
theorem fc{E:Option Addr}{O:Nat}{T:Nat}(r:PrsT)(H:Heap)(U:HC H.get T 0 [(sL E r.l.length O),(iI r.i),(iI r.fin),(iI r.e.why),(iI r.e.at_)])(Y:in64 r.i)(Z:in64 r.fin)(al:in64 r.e.why)(an:in64 r.e.at_):kKt ex 22 [(pT T 0)] H fun v H'=>v=(.bool (!bE r.e))/\H'=H:=
 cq (rok_c ex r H U Y Z al an) (by rintro _ _ ⟨_,rfl,rfl,rfl⟩;exact⟨V,V⟩)
theorem rat_c{O:Option Addr}{U:Nat}{ax:Nat}(r:PrsT)(k:Nat)(s:List UInt8)(hs:HS (.of H []) F H [] R)(an:HC H.get ax 0 [(sL O r.l.length U),(iI r.i),(iI r.fin),(iI r.e.why),(iI r.e.at_)])(ar:SR F (sL O r.l.length U) r.l)(a0:in64 r.i)(a1:in64 r.fin)(a2:in64 r.e.why)(a3:in64 r.e.at_)(a4:du ts)(a6:tQ ts)(hta: ∀i,in64 (ts.getD i default).at_)(hts:r.l=ts)(hat:0<=r.i/\r.i<=(ts.length:Int))(a5:ts.length<=1000000)(hk:k<=1):kKt ex 23 [(pT ax 0),(iI (k:Int)),(tX s)] H (Po1 H (atB ts r k s)):=by refine av Tryz.func23 V V (ai 1 V (wr 2 [] 6 6 [] [(6,(.bool false))] trivial V V fun _=>?_));obtain⟨al,T⟩:=Sv.view (SR.sv ar hs);obtain⟨Y,Z⟩:=Token.fx (T (r.i+(k:Int)).toNat);refine wrDp 1 6 55 [] [(6,(.bool (((!bE r.e&&(decide (r.i+(k:Int)<(r.l.length:Int))))&&((r.l.getD _ _).text.b==s))&&((r.l.getD _ _).kind !=2))))] (Hc_ 1 (fc ex r {H with log:=[]} an M M M M) (Ho_ 6 (.o (iI r.i)) (fun(E:_)=>(ql 3 1 (hc0 an) rfl rfl)) (Ha_ (fun(E:_)=>(vi (by(try simp only[BS]at E);(first|(dsimp only;omega)|omega|(rw[hts];omega))))) (Ho_ 12 (.o (sL _ _ _)) (fun(E:_)=>(ql 48 0 (hc0 an) V V)) (Ho_ 20 (.o (sL _ _ _)) (fun(E:_)=>(ql 48 0 (hc0 an) V V)) (Ho_ 24 (.o (iI r.i)) (fun(E:_)=>(ql 3 1 (hc0 an) V V)) (Ha_ (fun(E:_)=>(vi (by(try simp only[BS]at E);(first|(dsimp only;omega)|omega|(rw[hts];omega))))) (Ha_ (fun(E:_)=>(Sv.ix (SR.sv ar hs) (by(try simp only[BS]at E);(first|(dsimp only;omega)|omega|(rw[hts];omega))) (by(try simp only[BS]at E);(first|(dsimp only;omega)|omega|(rw[hts];omega))))) (Ho_ 29 (.o (tX (r.l.getD _ _).text.b)) (fun(E:_)=>(ql 9 1 (hc0 (Token.vw (T (r.i+(k:Int)).toNat) (by(try simp only[BS]at E);(first|(dsimp only;omega)|omega|(rw[hts];omega))))) V V)) (Ho_ 37 (.o (sL _ _ _)) (fun(E:_)=>(ql 48 0 (hc0 an) V V)) (Ho_ 41 (.o (iI r.i)) (fun(E:_)=>(ql 3 1 (hc0 an) V V)) (Ha_ (fun(E:_)=>(vi (by(try simp only[BS]at E);(first|(dsimp only;omega)|omega|(rw[hts];omega))))) (Ha_ (fun(E:_)=>(Sv.ix (SR.sv ar hs) (by(try simp only[BS]at E);(first|(dsimp only;omega)|omega|(rw[hts];omega))) (by(try simp only[BS]at E);(first|(dsimp only;omega)|omega|(rw[hts];omega))))) (Ho_ 46 (.o (iI _)) (fun(E:_)=>(ql 3 0 (hc0 (Token.vw (T (r.i+(k:Int)).toNat) (by(try simp only[BS]at E);(first|(dsimp only;omega)|omega|(rw[hts];omega))))) V V)) Hn_)))))))))))))) V V V fun _=>ae ⟨.inr V,_,V,_,V,V,(atB_of hts hat.1)⟩
theorem bZ{E:Option Addr}{O:Nat}{T:Nat}(r:PrsT)(k:Nat)(s:List UInt8)(hs:HS (.of H []) F H [] R)(U:HC H.get T 0 [(sL E r.l.length O),(iI r.i),(iI r.fin),(iI r.e.why),(iI r.e.at_)])(Y:SR F (sL E r.l.length O) r.l)(Z:in64 r.i)(al:in64 r.fin)(an:in64 r.e.why)(ar:in64 r.e.at_)(ax:du ts)(a1:tQ ts)(hta: ∀i,in64 (ts.getD i default).at_)(hts:r.l=ts)(hat:0<=r.i/\r.i<=(ts.length:Int))(a0:ts.length<=1000000)(hk:k<=1):kKt ex 23 [(pT T 0),(iI (k:Int)),(tX s)] H fun v H'=>v=(.bool (atB ts r k s))/\H'=H:=
 cq (rat_c ts ex r k s hs U Y Z al an ar ax a1 hta hts hat a0 hk) (by rintro _ _ ⟨_,rfl,rfl,rfl⟩;exact⟨V,V⟩)
structure Pr2(H:Heap)(b_r:Nat)(F:Fz)(ar_0:Option Addr)(r:PrsT)(kr_0:Nat)(R:List Fp)(ts:List Token):Prop where
 hs:HS (.of H [b_r]) F H [[(b_r,.cells [(sL ar_0 r.l.length kr_0),(iI r.i),(iI r.fin),(iI r.e.why),(iI r.e.at_)] none false)]] R
 hr_0:SR F (sL ar_0 r.l.length kr_0) r.l
 hr_1:in64 r.i:=by first|omega|(dsimp only;omega)|(rw[hts];omega)|exact j7 hta hat.1 M
 hr_2:in64 r.fin:=by first|omega|(dsimp only;omega)|(rw[hts];omega)|exact j7 hta hat.1 M
 hr_3:in64 r.e.why:=by first|omega|(dsimp only;omega)|(rw[hts];omega)|exact j7 hta hat.1 M
 hr_4:in64 r.e.at_:=by first|omega|(dsimp only;omega)|(rw[hts];omega)|exact j7 hta hat.1 M
 htk:du ts:=by first|assumption|omega|(dsimp only;omega)|exact cp X X|exact gi src|exact(bA src).2|exact eD src|exact a0g (bA src).1 e_
 htx: ∀i,(ts.getD i default).text.b.length<=1000000:=by first|assumption|omega|(dsimp only;omega)|exact cp X X|exact gi src|exact(bA src).2|exact eD src|exact a0g (bA src).1 e_
 hta: ∀i,in64 (ts.getD i default).at_:=by first|assumption|omega|(dsimp only;omega)|exact cp X X|exact gi src|exact(bA src).2|exact eD src|exact a0g (bA src).1 e_
 hts:r.l=ts:=by first|assumption|omega|(dsimp only;omega)|exact cp X X|exact gi src|exact(bA src).2|exact eD src|exact a0g (bA src).1 e_
 hat:0<=r.i/\r.i<=(ts.length:Int):=by first|assumption|omega|(dsimp only;omega)|exact cp X X|exact gi src|exact(bA src).2|exact eD src|exact a0g (bA src).1 e_
 htl:ts.length<=1000000:=by first|assumption|omega|(dsimp only;omega)|exact cp X X|exact gi src|exact(bA src).2|exact eD src|exact a0g (bA src).1 e_
theorem ratName_c{Z:Option Addr}{al:Nat}{ar:Nat}(r:PrsT)(k:Nat)(h0:Pr2 H ar F Z r al R ts)(hk:k<=1):kKt ex 52 [(pT ar 0),(iI (k:Int))] H fun v H'=> ∃(o:Bool) (F':Fz),Fz.le F F'/\HS (.of H [ar]) F' H' [(fP ar [(sL Z r.l.length al),(iI r.i),(iI r.fin),(iI r.e.why),(iI r.e.at_)])] R/\v= .bool o/\o=anQ ts r k:=by
 obtain⟨hs,b7,c7,c8,c9,dd,df,dn,hta,hts,hat,dk⟩:=h0;refine av Tryz.func52 V V (ai 1 V (wr 2 [] 4 4 [] [(4,(.bool false))] trivial V V fun _=>cC 4 53 [] [(4,(.bool (((!bE r.e&&(decide (r.i+(k:Int)<(r.l.length:Int))))&&((r.l.getD (r.i+(k:Int)).toNat default).kind==1))&&(!(eH (r.l.getD (r.i+(k:Int)).toNat default).text.b)))))] (fun H'=> ∃F',Fz.le F F'/\HS (Base.of H [ar]) F' H' [(fP ar [(sL Z r.l.length al),(iI r.i),(iI r.fin),(iI r.e.why),(iI r.e.at_)])] R) ?_ ?_))
 ·refine aC V (zfm _ (bH (W:=[]) (aX V V V) V V V (rok_c ex r _ (HS.hc hs.log0 (i:=0) V) M M M M) (kb V) ?_));rintro _ _ ⟨o9,rfl,rfl,rfl⟩;refine⟨fun b hb=>absurd hb a0f,fun bl a5=>?_⟩;have U:=HS.lg hs.log0 hs a5;generalize ({{H with log:=[]} with log:=bl}:Heap)=b9 at U⊢;refine zfm (.bool (!bE r.e)) (wf_gsT V V (fun T=>?_) (fun T=>?_))
  ·have an:=T;try simp only[BS]at an
   refine zfm _ (bk V T (wfv (eg V) (bk V T (zp 1 (bk V T ?_)))));refine zl 1 (HS.hc U.log0 (i:=0) V) (bk V T (zfm _ (bk V T (wfv (eA V V (gM (n:=r.i+(k:Int)) M)) (bk V T ?_)))));refine zfm _ (bk V T (wfv (v:=(pT ar 0)) (eg V) (bk V T (zp 0 (bk V T ?_)))));refine zl 0 (HS.hc U.log0 (i:=0) V) (bk V T (bf (gA V V (SR.sv b7 U.log0)) V V (lQ V) (jL _) (bk V T (wfv (bd V V V V) (wfv (v:=(.bool (decide (r.i+(k:Int)<(r.l.length:Int))))) (au V T V) ?_)))));refine zfm (.bool (decide (r.i+(k:Int)<(r.l.length:Int)))) (wf_gsT V V (fun O=>?_) (fun O=>?_))
   ·have ax:=O;try simp only[BS]at ax
    refine zfm _ (bk V O (wfv (v:=(pT ar 0)) (eg V) (bk V O (zp 0 (bk V O ?_)))));refine zl 0 (HS.hc U.log0 (i:=0) V) (bk V O (zfm _ (bk V O (wfv (eg V) (bk V O ?_)))));refine zp 1 (bk V O (zl 1 (HS.hc U.log0 (i:=0) V) (bk V O (zfm (.int _ _) (bk V O ?_)))));refine wfv (eA V V (gM M)) (bk V O (zy _ _ (SR.sv b7 U.log0) (bk V O (wfv (v:=(.pointer (some ⟨_,sO (sL _ _ _)+(r.i+(k:Int)).toNat *Rp.sz Token,_⟩))) (bP V V) (bk V O ?_)))));obtain⟨b5,a6,a3⟩:=Sv.at (SR.sv b7 U.log0) (bj (x:=default) (show(r.i+(k:Int)).toNat<r.l.length from by omega));obtain⟨rfl,b0,b1⟩:=a6;refine zl 0 a3 (bk V O (wfv (bd V V V V) (wfv (v:=(.bool ((r.l.getD _ _).kind==1))) (au V O V) (zfm (.bool ((r.l.getD _ _).kind==1)) (wf_gsT V V (fun E=>?_) (fun E=>?_))))))
    ·have a0:=E;try simp only[BS]at a0
     refine zfm _ (bk V E (wfv (v:=(pT ar 0)) (eg V) (bk V E (zp 0 (bk V E ?_)))));refine zl 0 (HS.hc U.log0 (i:=0) V) (bk V E (zfm _ (bk V E (wfv (eg V) (bk V E ?_)))));refine zp 1 (bk V E (zl 1 (HS.hc U.log0 (i:=0) V) (bk V E (zfm (.int _ _) (bk V E ?_)))));refine wfv (eA V V (gM M)) (bk V E (zy _ _ (SR.sv b7 U.log0) (bk V E (wfv (v:=(.pointer (some ⟨_,sO (sL _ _ _)+(r.i+(k:Int)).toNat *Rp.sz Token+1,_⟩))) (bP V V) (bk V E ?_)))));obtain⟨b6,a7,a4⟩:=Sv.at (SR.sv b7 U.log0) (bj (x:=default) (show(r.i+(k:Int)).toNat<r.l.length from by omega));obtain⟨rfl,b2,b3⟩:=a7;refine zl 1 a4 (bk V E (bH (W:=[]) (aX V V V) V V V (rreserved_c ex _ (HS.call U.log0)) (kb V) ?_));rintro _ a9 ⟨ch,b8,a2,Y,rfl,rfl⟩;refine⟨Wr.did Y.log,fun a8 a1=>?_⟩;replace Y:=HS.back U.log0 V Y;replace Y:=HS.lg Y U a1;generalize ({a9 with log:=a8}:Heap)=b4 at Y⊢;refine bk V E (wfv (cg V) (wfv (v:=(.bool (!(eH (r.l.getD _ _).text.b)))) (au V E V) (fa (.bool (!(eH (r.l.getD _ _).text.b))) V V V (dT ?_))));exact ap ⟨V,⟨_,(fT fR a2),HS.sub Y (List.Sublist.refl _)⟩,(by repeat' first|exact Lr|refine Lu V ?_),(agC (congrArg _ (show(!(eH (r.l.getD _ _).text.b))=(((!bE r.e&&(decide (r.i+(k:Int)<(r.l.length:Int))))&&((r.l.getD _ _).kind==1))&&(!(eH (r.l.getD _ _).text.b))) by simp only[↓T,↓O,↓E,BT])) agN)⟩
    have a0:=E;try simp only[BS]at a0
    refine aK V E V (aK V E V (aK V E V (aK V E V (aK V E V (aK V E V ?_)))));refine aK V E V (aK V E V (aK V E V (aK V E V (aK V E V (aK V E V ?_)))));refine aK V E V (aK V E V (wfv (v:=(.bool false)) (aD V E V) (fa (.bool false) V V V (dT ?_))));exact ap ⟨V,⟨_,fR,HS.sub U (List.Sublist.refl _)⟩,(by repeat' first|exact Lr|refine Lu V ?_),(agC (congrArg _ (show false=(((!bE r.e&&(decide (r.i+(k:Int)<(r.l.length:Int))))&&((r.l.getD _ _).kind==1))&&(!(eH (r.l.getD _ _).text.b))) by simp only[↓T,↓O,↓E,BT])) agN)⟩
   have ax:=O;try simp only[BS]at ax
   refine aK V O V (aK V O V (aK V O V (aK V O V (aK V O V (aK V O V ?_)))));refine aK V O V (aK V O V (aK V O V (aK V O V (aK V O V (aK V O V ?_)))));refine aK V O V (wfv (v:=(.bool false)) (aD V O V) (zfm (.bool false) (aK V V V (aK V V V (aK V V V ?_)))));refine aK V V V (aK V V V (aK V V V (aK V V V (aK V V V (aK V V V ?_)))));refine aK V V V (aK V V V (aK V V V (aK V V V (aK V V V (aK V V V ?_)))));refine wfv (v:=(.bool false)) (aD V V V) (fa (.bool false) V V V (dT ?_));exact ap ⟨V,⟨_,fR,HS.sub U (List.Sublist.refl _)⟩,(by repeat' first|exact Lr|refine Lu V ?_),(agC (congrArg _ (show false=(((!bE r.e&&(decide (r.i+(k:Int)<(r.l.length:Int))))&&((r.l.getD _ _).kind==1))&&(!(eH (r.l.getD _ _).text.b))) by simp only[↓T,↓O,BT])) agN)⟩
  have an:=T;try simp only[BS]at an
  refine aK V T V (aK V T V (aK V T V (aK V T V (aK V T V (aK V T V ?_)))));refine aK V T V (aK V T V (aK V T V (aK V T V (aK V T V (wfv (v:=(.bool false)) (aD V T V) ?_)))));refine zfm (.bool false) (aK V V V (aK V V V (aK V V V (aK V V V (aK V V V ?_)))));refine aK V V V (aK V V V (aK V V V (aK V V V (aK V V V (aK V V V ?_)))));refine aK V V V (aK V V V (aK V V V (wfv (v:=(.bool false)) (aD V V V) (zfm (.bool false) (aK V V V ?_)))));refine aK V V V (aK V V V (aK V V V (aK V V V (aK V V V (aK V V V ?_)))));refine aK V V V (aK V V V (aK V V V (aK V V V (aK V V V (aK V V V ?_)))));refine aK V V V (aK V V V (wfv (v:=(.bool false)) (aD V V V) (fa (.bool false) V V V (dT ?_))));exact ap ⟨V,⟨_,fR,HS.sub U (List.Sublist.refl _)⟩,(by repeat' first|exact Lr|refine Lu V ?_),(agC (congrArg Value.bool (show false=(((!bE r.e&&(decide (r.i+(k:Int)<(r.l.length:Int))))&&((r.l.getD (r.i+(k:Int)).toNat default).kind==1))&&(!(eH (r.l.getD (r.i+(k:Int)).toNat default).text.b))) by simp only[↓T,BT])) agN)⟩
 skip;rintro g8 H8 ⟨F8,ba,bb⟩;refine ai 1 V (ae ⟨.inr V,_,V,(((!bE r.e&&(decide (r.i+(k:Int)<(r.l.length:Int))))&&((r.l.getD (r.i+(k:Int)).toNat default).kind==1))&&(!(eH (r.l.getD (r.i+(k:Int)).toNat default).text.b))),_,(ba),(HS.first bb),V,(anQ_of hts hat.1)⟩)
theorem ratNum_c{O:Option Addr}{T:Nat}{ax:Nat}(r:PrsT)(k:Nat)(hs:HS (.of H []) F H [] R)(an:HC H.get ax 0 [(sL O r.l.length T),(iI r.i),(iI r.fin),(iI r.e.why),(iI r.e.at_)])(ar:SR F (sL O r.l.length T) r.l)(a0:in64 r.i)(a1:in64 r.fin)(a2:in64 r.e.why)(a3:in64 r.e.at_)(a4:du ts)(a6:tQ ts)(hta: ∀i,in64 (ts.getD i default).at_)(hts:r.l=ts)(hat:0<=r.i/\r.i<=(ts.length:Int))(a5:ts.length<=1000000)(hk:k<=1):kKt ex 103 [(pT ax 0),(iI (k:Int))] H (Po1 H (amQ ts r k)):=by refine av Tryz.func103 V V (ai 1 V (wr 2 [] 4 4 [] [(4,(.bool false))] trivial V V fun _=>?_));obtain⟨al,U⟩:=Sv.view (SR.sv ar hs);obtain⟨Y,Z⟩:=Token.fx (U (r.i+(k:Int)).toNat);refine wrDp 1 4 36 [] [(4,(.bool ((!bE r.e&&(decide (r.i+(k:Int)<(r.l.length:Int))))&&((r.l.getD _ _).kind==2))))] (Hc_ 1 (fc ex r {H with log:=[]} an M M M M) (Ho_ 6 (.o (iI r.i)) (fun(E:_)=>(ql 3 1 (hc0 an) rfl rfl)) (Ha_ (fun(E:_)=>(vi (by(try simp only[BS]at E);(first|(dsimp only;omega)|omega|(rw[hts];omega))))) (Ho_ 12 (.o (sL _ _ _)) (fun(E:_)=>(ql 48 0 (hc0 an) V V)) (Ho_ 20 (.o (sL _ _ _)) (fun(E:_)=>(ql 48 0 (hc0 an) V V)) (Ho_ 24 (.o (iI r.i)) (fun(E:_)=>(ql 3 1 (hc0 an) V V)) (Ha_ (fun(E:_)=>(vi (by(try simp only[BS]at E);(first|(dsimp only;omega)|omega|(rw[hts];omega))))) (Ha_ (fun(E:_)=>(Sv.ix (SR.sv ar hs) (by(try simp only[BS]at E);(first|(dsimp only;omega)|omega|(rw[hts];omega))) (by(try simp only[BS]at E);(first|(dsimp only;omega)|omega|(rw[hts];omega))))) (Ho_ 29 (.o (iI _)) (fun(E:_)=>(ql 3 0 (hc0 (Token.vw (U (r.i+(k:Int)).toNat) (by(try simp only[BS]at E);(first|(dsimp only;omega)|omega|(rw[hts];omega))))) V V)) Hn_))))))))) V V V fun _=>ae ⟨.inr V,_,V,_,V,V,(amQ_of hts hat.1)⟩
theorem mv{E:Option Addr}{O:Nat}{T:Nat}(r:PrsT)(k:Nat)(hs:HS (.of H []) F H [] R)(U:HC H.get T 0 [(sL E r.l.length O),(iI r.i),(iI r.fin),(iI r.e.why),(iI r.e.at_)])(Y:SR F (sL E r.l.length O) r.l)(Z:in64 r.i)(al:in64 r.fin)(an:in64 r.e.why)(ar:in64 r.e.at_)(ax:du ts)(a1:tQ ts)(hta: ∀i,in64 (ts.getD i default).at_)(hts:r.l=ts)(hat:0<=r.i/\r.i<=(ts.length:Int))(a0:ts.length<=1000000)(hk:k<=1):kKt ex 103 [(pT T 0),(iI (k:Int))] H fun v H'=>v=(.bool (amQ ts r k))/\H'=H:=
 cq (ratNum_c ts ex r k hs U Y Z al an ar ax a1 hta hts hat a0 hk) (by rintro _ _ ⟨_,rfl,rfl,rfl⟩;exact⟨V,V⟩)
end Go.Proofs.YtapgbjedgcpffaaGreat.qa
