/-
The parser of the reference: steps that move it. No condition but that its place lies in the list.
-/
import Derived.Test.YtapgbjedgcpffaaGreatZRL1
import Derived.Test.YtapgbjedgcpffaaGreatZRQA
noncomputable section
namespace Go.Proofs.YtapgbjedgcpffaaGreat.qb
open Go.R
set_option maxRecDepth 10000
set_option linter.unusedVariables false
set_option linter.unusedSimpArgs false
open w1 w3 l1 pt pa pb pc pd pe pf pg ph pi_ qa
abbrev zQB1:List ExpT:=[]
theorem j7{ts:List Token}{i f:Int}(h: ∀i,in64 (ts.getD i default).at_)(E:0<=i)(O:in64 f):in64 (offV ts i f):=by
 unfold offV;split
 ·exact h _
 exact O
theorem er_ok{ts:List Token}{r:PrsT}(h:ErE ts r)(hb:bE r.e=false):r.e.why=0/\r.e.at_=0:=by
 unfold bE at hb;rw[decide_eq_false_iff_not]at hb;rcases h with h|h
 ·exact h
 exact absurd (by rw[h.1];decide) hb
theorem cp{ts:List Token}{r:PrsT}{j:Int}(h:ErE ts r)(hb:bE r.e=false):ErE ts ⟨r.l,j,r.fin,⟨r.e.why,r.e.at_⟩⟩:=by have q:=er_ok h hb;exact Or.inl ⟨q.1,q.2⟩
theorem at_b{ts:List Token}{r:PrsT}{w:List UInt8}(h:atB ts r 0 w=true):bE r.e=false:=by unfold atB at h;rw[a03,a0u]at h;exact h.1
theorem an_b{ts:List Token}{r:PrsT}{k:Nat}(h:anQ ts r k=true):bE r.e=false:=by unfold anQ at h;rw[a03,a0u]at h;exact h.1
theorem an_lt{ts:List Token}{r:PrsT}(O:0<=r.i)(h:anQ ts r 0=true):r.i<(ts.length:Int):=by
 unfold anQ isN at h;rcases a0c (r.i.toNat+0) ts.length with E|E
 ·omega
 rw[bh E]at h;simp at h;exact absurd h.2.1 e_
theorem exA_n{ts:List Token}{r:PrsT}{s:List UInt8}{j:Int}{b:Bool}(E:0<=r.i)(h:atB ts r 0 s=false)(q:j=r.i)(qb:b=true):Oc (fun _=>expA ts s r.i.toNat) (bE r.e) r.i () j b:=⟨fun _=>⟨qb,q⟩,fun hb=>by
 unfold expA;rw[if_neg (fun k=>by unfold atB at h;rw[hb,a1v,k]at h;cases h),qb];exact .fail M⟩
theorem exA_y{ts:List Token}{r:PrsT}{s:List UInt8}(E:0<=r.i)(h:atB ts r 0 s=true):Oc (fun _=>expA ts s r.i.toNat) (bE r.e) r.i () (r.i+1) (bE r.e):=by have hb:=at_b h;unfold atB at h;rw[a03]at h;refine Oc.of hb ?_;unfold expA;rw[if_pos (show isA ts r.i.toNat s=true from h.2),hb];exact .val M
theorem nmQ_n{ts:List Token}{r:PrsT}{x:Str}{j:Int}{b:Bool}(E:0<=r.i)(h:anQ ts r 0=false)(q:j=r.i)(qb:b=true):Oc (fun _=>eb ts r.i.toNat) (bE r.e) r.i x j b:=⟨fun _=>⟨qb,q⟩,fun hb=>by
 unfold eb;rw[if_neg (fun k=>by unfold anQ at h;rw[hb,a1v,k]at h;cases h),qb];exact .fail M⟩
theorem nmQ_y{ts:List Token}{r:PrsT}(O:r.l=ts)(E:0<=r.i)(h:anQ ts r 0=true):Oc (fun _=>eb ts r.i.toNat) (bE r.e) r.i (⟨(r.l.getD (r.i+1-1).toNat default).text.b⟩:Str) (r.i+1) (bE r.e):=by have hb:=an_b h;unfold anQ at h;rw[a03]at h;refine Oc.of hb ?_;unfold eb;rw[if_pos (show isN ts r.i.toNat=true from h.2),hb,O,show(r.i+1-1).toNat=r.i.toNat by omega];exact .val M
theorem isM_lt{ts:List Token}{i:Int}(O:0<=i)(h:isM ts i.toNat=true):i<(ts.length:Int):=by
 unfold isM at h;rcases a0c i.toNat ts.length with E|E
 ·omega
 rw[bh E,decide_eq_true_eq]at h;exact absurd h e_
theorem pos_in{t:List UInt8}:in64 (((dF t 1000000).getD 0:Nat):Int):=by
 unfold dF;split
 ·next h=>show in64 ((val t:Nat):Int);have:=h.2;omega
 decide
theorem ok_all{t:List UInt8}(h:iN t=true):t.all fy=true/\t≠ []:=by unfold iN at h;simp only[a03,decide_eq_true_eq]at h;exact⟨h.1.2,fun e=>by rw[e]at h;exact absurd h.1.1.1 e_⟩
theorem ok_head{t:List UInt8}(h:iN t=true):t.headD 0≠45:=by
 obtain⟨E,O⟩:=ok_all h;cases t with
 |nil=>exact absurd V O
 |cons c l=>
  rw[a0o,a03]at E
  have:=nG E.1
  intro e
  rw[show c=45 from e]at this
  exact absurd this e_
theorem parse_num{t:List UInt8}(h:iN t=true):aQ t=if val t<=9223372036854775807 then some ((val t:Nat):Int) else none:=by
 unfold aQ dF;rw[if_neg (ok_head h)];by_cases k:val t<=9223372036854775807
 ·rw[if_pos ⟨h,k⟩,if_pos k]
 rw[if_neg (fun q=>k q.2),if_neg k]
theorem tok_num{ts:List Token}{i:Nat}(O:du ts)(h:isM ts i=true):iN (ts.getD i default).text.b=true/\val (ts.getD i default).text.b<=9223372036854775808:=by
 unfold isM at h;rw[decide_eq_true_eq]at h;rcases a0c i ts.length with E|E
 ·rcases O i E with k|k|k
  ·rw[k.1]at h;cases h
  ·exact k.2
  rw[k.1]at h;cases h
 rw[bh E]at h;cases h
theorem small_eq{ts:List Token}{i:Nat}(T:du ts)(h:isM ts i=true):d9 ts i=match dF (ts.getD i default).text.b 1000000 with|some n=> .ok ((n:Int),i+1)|none=> .error i:=by
 obtain⟨E,O⟩:=tok_num T h;have e:numV ts i=if val (ts.getD i default).text.b<=9223372036854775807 then some ((val (ts.getD i default).text.b:Nat):Int) else none:=parse_num E
 by_cases k:val (ts.getD i default).text.b<=1000000
 ·rw[if_pos M]at e;rw[show dF (ts.getD i default).text.b 1000000=some (val (ts.getD i default).text.b) from if_pos ⟨E,k⟩];unfold d9;rw[h,e];exact if_pos (by show(true&&true&&decide (((val (ts.getD i default).text.b:Nat):Int)<=1000000))=true;rw[decide_eq_true M];rfl)
 rw[show dF (ts.getD i default).text.b 1000000=none from if_neg (fun q=>k q.2)];unfold d9;refine if_neg (fun q=>?_);rw[a03,a03,decide_eq_true_eq,e]at q;by_cases k2:val (ts.getD i default).text.b<=9223372036854775807
 ·rw[if_pos k2]at q;have:((val (ts.getD i default).text.b:Nat):Int)<=1000000:=q.2;omega
 rw[if_neg k2]at q;exact absurd q.1.2 e_
theorem smQ_1{ts:List Token}{r:PrsT}{x j:Int}{b:Bool}(O:r.l=ts)(E:0<=r.i)(h:(bE r.e=true\/(r.l.length:Int)<=r.i)\/(r.l.getD r.i.toNat default).kind≠2)(q:j=r.i)(qb:b=true):Oc (fun _=>d9 ts r.i.toNat) (bE r.e) r.i x j b:=⟨fun _=>⟨qb,q⟩,fun hb=>by
 rw[O]at h;have T: ¬isM ts r.i.toNat=true:=fun k=>by
  rcases h with(h|h)|h
  ·rw[hb]at h;cases h
  ·have:=isM_lt E k;omega
  unfold isM at k;exact h (of_decide_eq_true k)
 unfold d9;rw[if_neg (fun k=>by rw[a03,a03]at k;exact T k.1.1),qb];exact .fail M⟩
theorem smQ_m{ts:List Token}{r:PrsT}(E:r.l=ts)(h:(bE r.e=false/\¬(r.l.length:Int)<=r.i)/\(r.l.getD r.i.toNat default).kind=2):isM ts r.i.toNat=true:=by rw[E]at h;unfold isM;exact decide_eq_true h.2
theorem smQ_2{ts:List Token}{r:PrsT}{x j:Int}{b:Bool}(T:du ts)(O:r.l=ts)(E:0<=r.i)(h:(bE r.e=false/\¬(r.l.length:Int)<=r.i)/\(r.l.getD r.i.toNat default).kind=2)(c:(dF (r.l.getD r.i.toNat default).text.b 1000000).isSome=false)(q:j=r.i)(qb:b=true):Oc (fun _=>d9 ts r.i.toNat) (bE r.e) r.i x j b:=⟨fun _=>⟨qb,q⟩,fun hb=>by
 have e:=small_eq T (smQ_m O h);rw[O]at c;rw[Option.isSome_eq_false_iff,Option.isNone_iff_eq_none]at c;rw[c]at e;rw[e,qb];exact .fail M⟩
theorem smQ_3{ts:List Token}{r:PrsT}(T:du ts)(O:r.l=ts)(E:0<=r.i)(h:(bE r.e=false/\¬(r.l.length:Int)<=r.i)/\(r.l.getD r.i.toNat default).kind=2)(c:(dF (r.l.getD r.i.toNat default).text.b 1000000).isSome=true):Oc (fun _=>d9 ts r.i.toNat) (bE r.e) r.i (((dF (r.l.getD r.i.toNat default).text.b 1000000).getD 0:Nat):Int) (r.i+1) (bE r.e):=Oc.of h.1.1 (by
 have e:=small_eq T (smQ_m O h);rw[O]at c⊢;obtain⟨n,U⟩:=Option.isSome_iff_exists.1 c;rw[U]at e⊢;rw[e,h.1.1];exact .val M)
def numQ(ts:List Token)(m:Bool)(i:Nat):Rs ExpT:=if m then .ok (numE ((aQ (45::(ts.getD i default).text.b)).getD 0),i+1) else if(numV ts i).isSome then .ok (numE ((numV ts i).getD 0),i+1) else .error i
theorem nuQ_1{ts:List Token}{r:PrsT}{m:Bool}(O:r.l=ts)(E:0<=r.i)(hb:bE r.e=false)(c:m=true)(d:(r.l.getD r.i.toNat default).text.b=[48]):Oc (fun _=>numQ ts m r.i.toNat) (bE r.e) r.i (⟨1,0,⟨[]⟩,0,[]⟩:ExpT) (r.i+1) (bE r.e):=Oc.of hb (by
 unfold numQ;rw[O]at d;rw[if_pos c,d,hb];exact .val M)
theorem neg_some{t:List UInt8}(h:iN t=true)(Z:val t<=9223372036854775808)(T:t≠ [48]):(aQ (45::t)).isSome=true:=by
 unfold aQ dF;rw[if_pos (show(45::t).headD 0=45 from V),if_pos (show iN (45::t).tail=true/\val (45::t).tail<=9223372036854775808 from⟨h,Z⟩)];show(match some (val t) with|some 0=>none|some n=>some (-(n:Int))|none=>none).isSome=true;cases e:val t with
 |succ n=>rfl
 |zero=>
  exfalso
  unfold iN at h
  simp only[a03,a0C,decide_eq_true_eq]at h
  obtain⟨⟨⟨k1,_⟩,U⟩,E⟩:=h
  cases t with
  |nil=>exact absurd k1 e_
  |cons c l=>
   rw[a0o,a03]at U
   have hr:=nG U.1
   rw[m4]at e
   have hp:0<10^l.length:=Nat.pos_of_ne_zero (by simp)
   have Y:(c.toNat-48) *10^l.length=0:=M
   have e2:c.toNat-48=0:=by
    rcases Nat.mul_eq_zero.1 Y with q|q
    ·exact q
    omega
   have O:c=48:=UInt8.toNat_inj.1 (show c.toNat=48 by omega)
   rcases E with E|E
   ·rw[O]at E;exact absurd E (by simp)
   have:l=[]:=by
    have:=beq_iff_eq.1 E;cases l with
    |nil=>rfl
    |cons _ _=>simp at this
   rw[O,this]at T;exact T V
theorem nuQ_2{ts:List Token}{r:PrsT}{m:Bool}{P:Prop}(O:du ts)(T:r.l=ts)(E:0<=r.i)(hi:r.i<(ts.length:Int))(hb:bE r.e=false)(U:isM ts r.i.toNat=true)(c:m=true)(d:(r.l.getD r.i.toNat default).text.b≠ [48])(f:(aQ ([45]++(r.l.getD r.i.toNat default).text.b)).isSome=false):P:=by rw[T]at d f;obtain⟨k1,k2⟩:=tok_num O U;have:=neg_some k1 k2 d;rw[show [45]++(ts.getD r.i.toNat default).text.b=45::(ts.getD r.i.toNat default).text.b from V,this]at f;cases f
theorem nuQ_3{ts:List Token}{r:PrsT}{m:Bool}(O:r.l=ts)(E:0<=r.i)(hb:bE r.e=false)(c:m=true):Oc (fun _=>numQ ts m r.i.toNat) (bE r.e) r.i (⟨1,(aQ ([45]++(r.l.getD r.i.toNat default).text.b)).getD 0,⟨[]⟩,0,[]⟩:ExpT) (r.i+1) (bE r.e):=Oc.of hb (by
 unfold numQ;rw[if_pos c,O,hb];exact .val M)
theorem nuQ_4{ts:List Token}{r:PrsT}{m:Bool}{x:ExpT}{j:Int}{b:Bool}(O:r.l=ts)(E:0<=r.i)(c:m=false)(d:(aQ (r.l.getD r.i.toNat default).text.b).isSome=false)(q:j=r.i)(qb:b=true):Oc (fun _=>numQ ts m r.i.toNat) (bE r.e) r.i x j b:=⟨fun _=>⟨qb,q⟩,fun hb=>by
 rw[O]at d;unfold numQ numV;rw[if_neg (by rw[c];decide),if_neg (by rw[d];decide),qb];exact .fail M⟩
theorem nuQ_5{ts:List Token}{r:PrsT}{m:Bool}(O:r.l=ts)(E:0<=r.i)(hb:bE r.e=false)(c:m=false)(d:(aQ (r.l.getD r.i.toNat default).text.b).isSome=true):Oc (fun _=>numQ ts m r.i.toNat) (bE r.e) r.i (⟨1,(aQ (r.l.getD r.i.toNat default).text.b).getD 0,⟨[]⟩,0,[]⟩:ExpT) (r.i+1) (bE r.e):=Oc.of hb (by
 rw[O]at d⊢;unfold numQ numV;rw[if_neg (by rw[c];decide),if_pos d,hb];exact .val M)
variable (ts:List Token)
variable (ex:FuncId) {F:Fz} {H:Heap} {R:List Fp}
abbrev Po3(F:Fz)(H:Heap)(b_r:Nat)(R:List Fp)(Φ:PrsT->Prop)(v:Value)(H':Heap):Prop:= ∃(r':PrsT) (am_0:Option Addr) (km_0:Nat) (F':Fz),Fz.le F F'/\HS (.of H [b_r]) F' H' [[(b_r,.cells [(sL am_0 r'.l.length km_0),(iI r'.i),(iI r'.fin),(iI r'.e.why),(iI r'.e.at_)] none false)]] R/\v= .tuple #[]/\in64 r'.i/\in64 r'.fin/\in64 r'.e.why/\in64 r'.e.at_/\SR F' (sL am_0 r'.l.length km_0) r'.l/\Φ r'
theorem jI{E:Option Addr}{O:Nat}{ar:Nat}(r:PrsT)(U:qa.Pr2 H ar F E r O R ts)(hE:ErE ts r):kKt ex 53 [(pT ar 0)] H (Po3 F H ar R fun r'=>(r'.i=r.i)/\(bE r'.e=true)/\(r'.l=ts)/\(r.i<=r'.i/\r'.i<=(ts.length:Int))/\(r'.fin=r.fin)/\(ErE ts r')):=by
 obtain⟨hs,al,ax,a0,a1,a2,a3,a5,hta,hts,hat,a4⟩:=U;refine av Tryz.func53 V V (ai 1 V (cP 1 2 7 [] [(7,(.bool (r.e.why==0)))] (Hr_ 4 0 Hn_) hs V V fun _=>zi 0 0 (fun c2=>?_) fun c2=>?_))
 ·try simp only[BS]at c2
  have c1:=c2;refine sgr 0 8 13 [] [] (Ho_ 2 (.o (.int _ _)) (qa.roffset_c_q ts ex r (HS.call hs) (h_ hs V) al M M M M M M M M M M) (Hr_ 6 0 Hn_)) hs V V fun Y Z T=>ap ⟨.inl V,_,V,(⟨r.l,r.i,_,(⟨2,_⟩:ErrT)⟩:PrsT),_,_,_,fR,(HS.first T),V,M,M,M,(j7 hta hat.1 M),al,k_,k_,X,M,k_,(.inr ⟨V,V⟩)⟩
 try simp only[BS]at c2
 have c1:=c2;refine ap ⟨.inl V,_,V,r,_,_,_,fR,(HS.first hs),V,M,M,M,M,al,k_,(decide_eq_true c1),X,M,k_,X⟩
theorem aP{T:Option Addr}{U:Nat}{bl:Nat}(r:PrsT)(s:List UInt8)(h0:qa.Pr2 H bl F T r U R ts)(hE:ErE ts r):kKt ex 26 [(pT bl 0),(tX s)] H (Po3 F H bl R fun r'=>(bE r'.e=false->r.i<r'.i)/\(r'.l=ts)/\(r.i<=r'.i/\r'.i<=(ts.length:Int))/\(r'.fin=r.fin)/\(ErE ts r')/\(Oc (fun n=>expA ts s r.i.toNat) (bE r.e) r.i () r'.i (bE r'.e))):=by
 obtain⟨hs,a4,b2,b3,b4,b5,b6,b8,hta,hts,hat,b7⟩:=h0;refine av Tryz.func26 V V (ai 2 V (wr 1 [(2,.o (.bool (atB ts r 0 s)))] 4 7 [] [(7,(.bool (!(atB ts r 0 s))))] (vA (qa.bZ ts ex r 0 s (HS.call hs) (h_ hs V) a4 M M M M M M M M M M M) trivial) V V fun _=>zi 1 1 (fun c2=>?_) fun c2=>?_))
 ·try simp only[BS]at c2
  have c1:=c2;refine ab (zm (pT bl 0) (zc (jI ts ex r (.mk (g_ hs V) a4) M) ?_));rintro _ H3 ⟨al,an,a3,F3,Y,E,rfl,ax,a0,a1,a2,O,ba,a9,a5,a6,a8,a7⟩;replace E:=hs.bO E;refine ah 1 V (ae ⟨.inr V,_,V,al,_,_,_,(Y),(HS.first E),V,M,M,M,M,O,(by(intro hb;have q:=(by assumption:bE _=true);rw[hb]at q;cases q)),X,X,X,X,(exA_n hat.1 c1 X X)⟩)
 try simp only[BS]at c2
 have c1:=c2;have c2:=hO hat.1 c1;refine sgr 0 10 16 [] [] (Hr_ 3 0 (Ha_ (vi) (Hr_ 7 0 Hn_))) hs V V fun bb H4 Z=>ap ⟨.inl V,_,V,(⟨r.l,r.i+1,_,_⟩:PrsT),_,_,_,fR,(HS.first Z),V,M,M,M,M,a4,M,X,M,k_,(cp hE (at_b c1)),(exA_y hat.1 c1)⟩
theorem gj{a0:Option Addr}{a1:Nat}{b8:Nat}(r:PrsT)(h0:qa.Pr2 H b8 F a0 r a1 R ts)(hE:ErE ts r):kKt ex 24 [(pT b8 0)] H fun v H'=> ∃(x:List UInt8) (r':PrsT) (T:Option Addr) (al:Nat) (F':Fz),Fz.le F F'/\HS (.of H [b8]) F' H' [(fP b8 [(sL T r'.l.length al),(iI r'.i),(iI r'.fin),(iI r'.e.why),(iI r'.e.at_)])] R/\v=tX x/\in64 r'.i/\in64 r'.fin/\in64 r'.e.why/\in64 r'.e.at_/\SR F' (sL T r'.l.length al) r'.l/\(bE r'.e=false->r.i<r'.i)/\(r'.l=ts)/\(r.i<=r'.i/\r'.i<=(ts.length:Int))/\(r'.fin=r.fin)/\(ErE ts r')/\(Oc (fun n=>eb ts r.i.toNat) (bE r.e) r.i (⟨x⟩:Str) r'.i (bE r'.e)):=by
 obtain⟨hs,bl,co,cv,cw,cL,c0,c4,hta,hts,hat,c3⟩:=h0;refine av Tryz.func24 V V (ai 1 V (wr 3 [] 2 2 [] [(2,(tX []))] trivial V V fun _=>ab (zm (pT b8 0) (zc (qa.ratName_c ts ex r 0 (.mk (g_ hs V) bl) M) ?_))));rintro _ H2 ⟨o2,F2,Y,E,rfl,rfl⟩;replace E:=hs.bO E;replace bl:=bl.mono Y;refine wro 1 2 [] 5 5 [] [(5,(.bool (!(anQ ts r 0))))] trivial V V fun _=>ah 1 V (zi 1 2 (fun U=>?_) fun U=>?_)
 ·try simp only[BS]at U
  have c1:=U;refine ab (zm (pT b8 0) (zc (jI ts ex r (.mk (g_ E V) bl) M) ?_));rintro _ H5 ⟨a3,a4,a9,F5,a2,Z,rfl,a5,a6,a7,a8,an,b6,b5,b1,b2,b4,b3⟩;replace Z:=E.bO Z;refine ah 2 V (wr 1 [] 2 2 [] [(2,(tX []))] trivial V V fun _=>ae ⟨.inr V,_,V,[],a3,_,_,_,(fT (Y) a2),(HS.first Z),V,M,M,M,M,an,(by(intro hb;have q:=(by assumption:bE _=true);rw[hb]at q;cases q)),X,X,X,X,(nmQ_n hat.1 c1 X X)⟩)
 try simp only[BS]at U
 have c1:=U;have c2:=an_lt hat.1 c1;refine sgr 2 8 14 [] [] (Hr_ 3 0 (Ha_ (vi) (Hr_ 7 0 Hn_))) E V V fun b7 H7 O=>?_
 obtain⟨b0,ax⟩:=Sv.view (SR.sv bl O);obtain⟨ba,bb⟩:=Token.fx (ax ((r.i+1)-1).toNat);refine sdr0 1 15 26 [2] [(2,(tX (r.l.getD _ _).text.b))] (Hr_ 3 0 (Hr_ 7 0 (Ha_ (vi M) (Ha_ (Sv.ix (SR.sv bl O) M (by(rw[hts];omega))) (Hl_ 11 (ql 9 1 (hc0 (Token.vw (ax ((r.i+1)-1).toNat) (by(rw[hts];omega)))) V V) Hn_))))) O V V V fun _=>ae ⟨.inr V,_,V,_,(⟨r.l,r.i+1,_,_⟩:PrsT),_,_,_,(Y),(HS.first O),V,M,M,M,M,bl,M,X,M,k_,(cp hE (an_b c1)),(nmQ_y hts hat.1 c1)⟩
theorem rsmall_c{Z:Option Addr}{a1:Nat}{cl:Nat}(r:PrsT)(h0:qa.Pr2 H cl F Z r a1 R ts)(hE:ErE ts r):kKt ex 25 [(pT cl 0)] H fun v H'=> ∃(x:Int) (r':PrsT) (Y:Option Addr) (a0:Nat) (F':Fz),Fz.le F F'/\HS (.of H [cl]) F' H' [(fP cl [(sL Y r'.l.length a0),(iI r'.i),(iI r'.fin),(iI r'.e.why),(iI r'.e.at_)])] R/\v=iI x/\in64 r'.i/\in64 r'.fin/\in64 r'.e.why/\in64 r'.e.at_/\SR F' (sL Y r'.l.length a0) r'.l/\(in64 x)/\(r'.l=ts)/\(r.i<=r'.i/\r'.i<=(ts.length:Int))/\(r'.fin=r.fin)/\(ErE ts r')/\(Oc (fun n=>d9 ts r.i.toNat) (bE r.e) r.i x r'.i (bE r'.e)):=by
 obtain⟨hs,ar,e2,e3,e4,e5,c4,et,hta,hts,hat,e7⟩:=h0;have e6:(r.l.length:Int)=(ts.length:Int):=by rw[hts]
 have e8:(r.l.getD r.i.toNat default).text.b.length<=1000000:=by rw[hts];exact et _
 refine av Tryz.func25 V V (ai 1 V (wr 3 [] 2 2 [] [(2,(.int _ 0))] trivial V V fun _=>?_));obtain⟨c9,a6⟩:=Sv.view (SR.sv ar hs);obtain⟨co,cw⟩:=Token.fx (a6 r.i.toNat);refine wrDp 1 5 33 [] [(33,(.bool (((!(!bE r.e))||(decide ((r.l.length:Int)<=r.i)))||((r.l.getD _ _).kind !=2))))] (Hc_ 1 (qa.fc ex r _ (hc0 (h_ hs V)) M M M M) (Ho_ 7 (.o (iI r.i)) (fun(O:_)=>(ql 3 1 (hc0 (h_ hs V)) V V)) (Ho_ 11 (.o (sL _ _ _)) (fun(O:_)=>(ql 48 0 (hc0 (h_ hs V)) V V)) (Ho_ 19 (.o (sL _ _ _)) (fun(O:_)=>(ql 48 0 (hc0 (h_ hs V)) V V)) (Ho_ 23 (.o (.int _ r.i)) (fun(O:_)=>(ql 3 1 (hc0 (h_ hs V)) V V)) (Ha_ (fun(O:_)=>(Sv.ix (SR.sv ar hs) (by(try simp only[BS]at O);(first|(dsimp only;omega)|omega|(rw[hts];omega)|exact j7 hta hat.1 M|exact pos_in)) (by(try simp only[BS]at O);(first|(dsimp only;omega)|omega|(rw[hts];omega)|exact j7 hta hat.1 M|exact pos_in)))) (Ho_ 26 (.o (iI _)) (fun(O:_)=>(ql 3 0 (hc0 (Token.vw (a6 r.i.toNat) (by(try simp only[BS]at O);(first|(dsimp only;omega)|omega|(rw[hts];omega)|exact j7 hta hat.1 M|exact pos_in)))) V V)) Hn_))))))) V V V fun _=>zi 1 2 (fun c5=>?_) fun c5=>?_
 ·try simp only[BS]at c5
  have c1:=c5;refine ab (zm (pT cl 0) (zc (jI ts ex r (.mk (g_ hs V) ar M M M M) M) ?_));rintro _ H6 ⟨b3,a3,a4,F6,b2,an,rfl,b4,b5,b6,b7,a5,d3,d2,dk,dn,d1,dt⟩;replace an:=hs.bO an;refine ah 2 V (wT 1 [] 2 2 [] [(2,(iI 0))] V fun _=>ae ⟨.inr V,_,V,0,b3,a3,a4,_,(b2),(HS.first an),V,M,M,M,M,a5,e_,X,X,X,X,(smQ_1 hts hat.1 c1 X X)⟩)
 try simp only[BS]at c5
 have c1:=c5;obtain⟨dd,a7⟩:=Sv.view (SR.sv ar hs);obtain⟨cL,c0⟩:=Token.fx (a7 r.i.toNat);refine sdr0 3 36 50 [3,4] [(3,(.int .u64 (((dF (r.l.getD r.i.toNat default).text.b 1000000).getD 0:Nat):Int))),(4,(.bool (dF (r.l.getD r.i.toNat default).text.b 1000000).isSome))] (Hr_ 3 0 (Hr_ 7 0 (Ha_ (Sv.ix (j:=r.i) (SR.sv ar hs)) (Hl_ 10 (ql 9 1 (hc0 (Token.vw (a7 r.i.toNat) M)) V V) (Hc_ 11 (w3.my ex (r.l.getD r.i.toNat default).text.b 1000000 {H with log:=[]} e_) Hn_))))) hs rfl rfl rfl fun _=>wT 1 [] 51 52 [] [(52,(.bool (!(dF (r.l.getD r.i.toNat default).text.b 1000000).isSome)))] rfl fun _=>zi 1 2 (fun E=>?_) fun E=>?_
 ·try simp only[BS]at E
  have c2:=E;refine ab (zm (pT cl 0) (zc (jI ts ex r (.mk (g_ hs V) ar M M M M) M) ?_));rintro _ c7 ⟨ba,U,ax,c6,a8,T,rfl,bb,bl,b0,b1,a2,cm,ck,b8,b9,ci,ch⟩;replace T:=hs.bO T;refine ah 2 V (wT 1 [] 2 2 [] [(2,(iI 0))] V fun _=>ae ⟨.inr V,_,V,0,ba,U,ax,_,(a8),(HS.first T),V,M,M,M,M,a2,e_,X,X,X,X,(smQ_2 c4 hts hat.1 c1 c2 X X)⟩)
 try simp only[BS]at E
 have c2:=E;refine sgr 2 55 61 [] [] (Hr_ 3 0 (Ha_ (vi (n:=r.i+1)) (Hr_ 7 0 Hn_))) hs V V fun c3 c8 a9=>wU 1 [] 62 63 [2] [(2,(iI (((dF (r.l.getD r.i.toNat default).text.b 1000000).getD 0:Nat):Int)))] (vi (n:=(((dF (r.l.getD r.i.toNat default).text.b 1000000).getD 0:Nat):Int)) (pos_in)) V fun _=>ae ⟨.inr V,_,V,(((dF (r.l.getD r.i.toNat default).text.b 1000000).getD 0:Nat):Int),(⟨r.l,r.i+1,r.fin,(⟨r.e.why,r.e.at_⟩:ErrT)⟩:PrsT),Z,a1,_,fR,(HS.first a9),V,M,M,M,M,ar,(pos_in),X,M,k_,(cp hE c1.1.1),(smQ_3 c4 hts hat.1 c1 c2)⟩
abbrev Po4(F:Fz)(H:Heap)(b_r:Nat)(R:List Fp)(Φ:ExpT->PrsT->Prop)(v:Value)(H':Heap):Prop:= ∃(x:ExpT) (ax_4:Option Addr) (kx_4:Nat) (r':PrsT) (am_0:Option Addr) (km_0:Nat) (F':Fz),Fz.le F F'/\HS (.of H [b_r]) F' H' [[(b_r,.cells [(sL am_0 r'.l.length km_0),(iI r'.i),(iI r'.fin),(iI r'.e.why),(iI r'.e.at_)] none false)]] R/\v= .agg ⟨[iI x.kind,iI x.n,tX x.name.b,iI x.op,sL ax_4 x.kids.length kx_4]⟩/\in64 x.kind/\in64 x.n/\in64 x.op/\SR F' (sL ax_4 x.kids.length kx_4) x.kids/\in64 r'.i/\in64 r'.fin/\in64 r'.e.why/\in64 r'.e.at_/\SR F' (sL am_0 r'.l.length km_0) r'.l/\Φ x r'
theorem rnumber_c{T:Option Addr}{U:Nat}{a3:Nat}(r:PrsT)(a0:Bool)(h0:qa.Pr2 H a3 F T r U R ts)(hE:ErE ts r)(O:bE r.e=false)(b2:isM ts r.i.toNat=true):kKt ex 104 [(pT a3 0),(.bool a0)] H (Po4 F H a3 R fun x r'=>(r'.l=ts)/\(r.i<=r'.i/\r'.i<=(ts.length:Int))/\(r'.fin=r.fin)/\(ErE ts r')/\(Oc (fun n=>numQ ts a0 r.i.toNat) (bE r.e) r.i x r'.i (bE r'.e))):=by
 obtain⟨hs,ar,hn,ho,hp,hq,hf,hg,hta,hts,hat,ht⟩:=h0;have c9:=isM_lt hat.1 b2;have hr:(r.l.length:Int)=(ts.length:Int):=by rw[hts]
 have hu:(r.l.getD r.i.toNat default).text.b.length<=1000000:=by rw[hts];exact hg _
 refine av Tryz.func104 V V (ai 1 V (ab (zn hs V fun b1 H2 E=>ah 2 V ?_)));obtain⟨g3,b3⟩:=Sv.view (SR.sv ar E);obtain⟨e5,e6⟩:=Token.fx (b3 r.i.toNat);refine sdr0 3 7 21 [5,6] [(5,(.int _ _)),(6,(.bool (aQ (r.l.getD _ _).text.b).isSome))] (Hr_ 3 0 (Hr_ 7 0 (Ha_ (Sv.ix (SR.sv ar E)) (Hl_ 10 (ql 9 1 (hc0 (Token.vw (b3 r.i.toNat) M)) V V) (Hc_ 11 (w3.mt ex _ _) Hn_))))) E V V V fun _=>wr 1 [] 22 22 [] [(22,(.bool a0))] trivial V V fun _=>zi 1 3 (fun c7=>?_) fun c7=>?_
 ·try simp only[BS]at c7
  have c1:=c7;obtain⟨g4,b4⟩:=Sv.view (SR.sv ar E);obtain⟨e7,e8⟩:=Token.fx (b4 r.i.toNat);refine sdr0 2 23 38 [5,6] [(5,(.int _ _)),(6,(.bool (aQ ([45]++(r.l.getD _ _).text.b)).isSome))] (Hr_ 3 0 (Hr_ 7 0 (Ha_ (Sv.ix (SR.sv ar E)) (Hl_ 10 (ql 9 1 (hc0 (Token.vw (b4 r.i.toNat) M)) V V) (Ha_ (show([45]:List UInt8).length+((r.l.getD _ _).text.b:List UInt8).length<=1099511627776 from by(have:([45]:List UInt8).length=1:=rfl;omega)) (Hc_ 12 (w3.mt ex _ _) Hn_)))))) E V V V fun _=>?_
  obtain⟨dn,a9⟩:=Sv.view (SR.sv ar E);obtain⟨dd,dk⟩:=Token.fx (a9 r.i.toNat);refine sdr0 1 39 50 [] [(50,(.bool ((r.l.getD _ _).text.b==([48]:List UInt8))))] (Hr_ 3 0 (Hr_ 7 0 (Ha_ (Sv.ix (SR.sv ar E)) (Hl_ 10 (ql 9 1 (hc0 (Token.vw (a9 r.i.toNat) M)) V V) Hn_)))) E V V V fun _=>zi 0 3 (fun Y=>?_) fun Y=>?_
  ·try simp only[BS]at Y
   have c2:=Y;refine wT 3 [] 1 0 [5,6] [(5,(iI 0)),(6,(.bool true))] V fun _=>wT 1 [] 51 52 [] [(52,(.bool false))] V fun _=>gK 2 (v:=false) V V V V (sgr 2 56 62 [] [] (Hr_ 3 0 (Ha_ (vi (n:=r.i+1)) (Hr_ 7 0 Hn_))) E V V fun fb f4 b7=>sgr 1 63 64 [] [] (Hr_ 2 1 Hn_) b7 V V fun fd f5 a4=>ae ⟨.inr V,_,(rC V (bS V V (i_ a4 V) V) rN),(⟨1,0,⟨[]⟩,0,zQB1⟩:ExpT),none,0,(⟨r.l,r.i+1,r.fin,(⟨r.e.why,r.e.at_⟩:ErrT)⟩:PrsT),T,U,_,fR,(HS.first a4),V,M,M,M,(SR.nil:SR F (sL none 0 0) zQB1),M,M,M,M,ar,X,M,k_,(cp hE O),(nuQ_1 hts hat.1 O c1 c2)⟩)
  try simp only[BS]at Y
  have c2:=Y;refine wT 1 [] 51 52 [] [(52,(.bool (!(aQ ([45]++(r.l.getD r.i.toNat default).text.b)).isSome)))] V fun _=>zi 1 2 (fun Z=>?_) fun Z=>?_
  ·try simp only[BS]at Z
   have c3:=Z;refine ab (zm (pT a3 0) (zc (jI ts ex r (.mk (g_ E V) ar M M M M) M) ?_));rintro _ f6 ⟨ch,a1,ba,ck,b5,an,rfl,co,cw,cL,c0,bl,e3,e1,dt,d2,ez,em⟩;replace an:=E.bO an;refine ah 2 V (sgr 1 55 55 [] [] (Hr_ 1 1 Hn_) an V V fun fi f7 a5=>ae ⟨.inr V,_,(rC V (bS V V (i_ a5 V) V) rN),(⟨0,0,⟨[]⟩,0,zQB1⟩:ExpT),none,0,ch,a1,ba,_,(b5),(HS.first a5),V,M,M,M,(SR.nil:SR ck (sL none 0 0) zQB1),M,M,M,M,bl,X,X,X,X,(nuQ_2 hf hts hat.1 c9 O b2 c1 c2 c3)⟩)
  try simp only[BS]at Z
  have c3:=Z;refine sgr 2 56 62 [] [] (Hr_ 3 0 (Ha_ (vi (n:=r.i+1)) (Hr_ 7 0 Hn_))) E V V fun fk f8 b8=>sgr 1 63 64 [] [] (Hr_ 2 1 Hn_) b8 V V fun fl f9 a6=>ae ⟨.inr V,_,(rC V (bS V V (i_ a6 V) V) rN),(⟨1,(aQ ([45]++(r.l.getD r.i.toNat default).text.b)).getD 0,⟨[]⟩,0,zQB1⟩:ExpT),none,0,(⟨r.l,r.i+1,r.fin,(⟨r.e.why,r.e.at_⟩:ErrT)⟩:PrsT),T,U,_,fR,(HS.first a6),V,M,(dl),M,(SR.nil:SR F (sL none 0 0) zQB1),M,M,M,M,ar,X,M,k_,(cp hE O),(nuQ_3 hts hat.1 O c1)⟩
 try simp only[BS]at c7
 have c1:=c7;refine wT 1 [] 51 52 [] [(52,(.bool (!(aQ (r.l.getD r.i.toNat default).text.b).isSome)))] V fun _=>zi 1 2 (fun al=>?_) fun al=>?_
 ·try simp only[BS]at al
  have c3:=al;refine ab (zm (pT a3 0) (zc (jI ts ex r (.mk (g_ E V) ar M M M M) M) ?_));rintro _ gm ⟨ci,a2,bb,cm,b6,ax,rfl,c4,c5,c6,c8,b0,e4,e2,d1,d3,e0,et⟩;replace ax:=E.bO ax;refine ah 2 V (sgr 1 55 55 [] [] (Hr_ 1 1 Hn_) ax V V fun fu go a7=>ae ⟨.inr V,_,(rC V (bS V V (i_ a7 V) V) rN),(⟨0,0,⟨[]⟩,0,zQB1⟩:ExpT),none,0,ci,a2,bb,_,(b6),(HS.first a7),V,M,M,M,(SR.nil:SR cm (sL none 0 0) zQB1),M,M,M,M,b0,X,X,X,X,(nuQ_4 hts hat.1 c1 c3 X X)⟩)
 try simp only[BS]at al
 have c3:=al;refine sgr 2 56 62 [] [] (Hr_ 3 0 (Ha_ (vi (n:=r.i+1)) (Hr_ 7 0 Hn_))) E V V fun f1 g1 b9=>sgr 1 63 64 [] [] (Hr_ 2 1 Hn_) b9 V V fun f2 g2 a8=>ae ⟨.inr V,_,(rC V (bS V V (i_ a8 V) V) rN),(⟨1,(aQ (r.l.getD r.i.toNat default).text.b).getD 0,⟨[]⟩,0,zQB1⟩:ExpT),none,0,(⟨r.l,r.i+1,r.fin,(⟨r.e.why,r.e.at_⟩:ErrT)⟩:PrsT),T,U,_,fR,(HS.first a8),V,M,(dl),M,(SR.nil:SR F (sL none 0 0) zQB1),M,M,M,M,ar,X,M,k_,(cp hE O),(nuQ_5 hts hat.1 O c1 c3)⟩
end Go.Proofs.YtapgbjedgcpffaaGreat.qb
