/-
Symbolic runs of the code that the law reaches, part 4. No condition but bounds on lengths.
-/
import Derived.Test.YtkpgbdkkgcdhmaaGreatZUV2
noncomputable section
namespace Go.Proofs.YtkpgbdkkgcdhmaaGreat
open Go.R
open Inhabited renaming default→n_
open List renaming getD→Y,length→Q
set_option maxRecDepth 10000
set_option maxHeartbeats 1600000
set_option linter.unusedVariables false
set_option linter.unusedSimpArgs false
open l1 w1 w3 pt pa pb pc pd pe pf pg ph ga gb ca cb cc cd ta tb bk bg da db dc dd de df dg dp dh km kp gp
namespace rt
open Go.R w1 w3 l1 pt pa pb pc pd pe pf pg ca cc cd ta tb gp
abbrev Wd:=Int×List UInt8
def wk(t:Token):Wd:=(t.j,t.D.b)
theorem scn{s t O:List UInt8}{a f b:Nat}{T:Int}(hd:s.drop a=t++O)(U:aL (t++O)=(T,t,0))(ht:0<Q t)(hb:spl false O=b):dJ (f+1) s a=consT ⟨T,⟨t⟩,(a:Int)⟩ (dJ f s (a+Q t+b))/\s.drop (a+Q t)=O:=by
 have Z:=congrArg List.length hd;rw[a17,a00]at Z;have E:s.drop (a+Q t)=O:=by rw[←a1F,hd,List.drop_left]
 refine⟨?_,E⟩;rw[dJ,if_pos M,hd,U,if_pos rfl];show consT _ (dJ f s (a+Q t+spl false (s.drop (a+Q t))))=_;rw[E,hb]
theorem scn_end{s:List UInt8}{a f:Nat}(hd:s.drop a=[]):dJ f s a=([],0,0):=by
 cases f with
 |zero=>rfl
 |succ f=>
  have E:=congrArg List.length hd
  rw[a17,a03]at E
  rw[dJ,if_neg M]
theorem tw_app{p:UInt8->Bool}: ∀{a b:List UInt8},a.all p=true->(∀c r,b=c::r->p c=false)->(a++b).takeWhile p=a
 | [],[],_,_=>rfl
 | [],c::r,_,h=>by rw[a0o,a1j,h c r rfl];rfl
 |x::a,b,ha,h=>by simp only[a0l,a04]at ha;rw[a0t,a1j,ha.1];show x::(a++b).takeWhile p=x::a;rw[tw_app ha.2 h]
def Nw(s:List UInt8):Prop:= ∀c r,s=c::r->br c=false
theorem Nw.c{c:UInt8}{s:List UInt8}(h:br c=false):Nw (c::s):=λd r e=>by injection e with e _;rw[←e];exact h
def Sc(s:List UInt8)(ws:List Wd):Prop:= ∀(S:List UInt8) (a f:Nat),S.drop a=s->Q s<f->∃l,dJ f S (a+spl false s)=(l,0,0)/\l.map wk=ws
theorem Sc.nil:Sc [] []:=λS a f h _=>⟨[],by rw[show a+spl false []=a from V,scn_end h],V⟩
section
variable {s w:List UInt8} {ws:List Wd} {k:Int} {c:UInt8}
theorem Sc.blank(h:Sc s ws)(hc:c=32\/c=10):Sc (c::s) ws:=λS a f hd U=>by
 have E:S.drop (a+1)=s:=by rw[←a1F,hd];rfl
 have e:spl false (c::s)=1+spl false s:=by rw[spl,if_pos (hc.elim .inl λh=> .inr (.inr (.inl h)))]
 have⟨l,O,T⟩:=h S (a+1) f E (by rw[a02]at U;omega);exact⟨l,by rw[e,←a0C];exact O,T⟩
theorem Sc.sp(h:Sc s ws):Sc (32::s) ws:=h.blank (.inl V)
theorem Sc.nl(h:Sc s ws):Sc (10::s) ws:=h.blank (.inr V)
theorem Sc.sps(h:Sc s ws): ∀{l:List UInt8},(∀x∈l,x=32)->Sc (l++s) ws
 | [],_=>h
 |x::l,hl=>by have:=hl x (a0m ..);subst this;exact(h.sps λy E=>hl y (a0c _ E)).sp
theorem Sc.word(h:Sc s ws)(hw:0<Q w)(T:spl false (w++s)=0)(hk:aL (w++s)=(k,w,0)):Sc (w++s) ((k,w)::ws):=λS a f hd hf=>by
 rw[a00]at hf;obtain⟨g,rfl⟩: ∃g,f=g+1:=⟨f-1,M⟩
 have⟨E,O⟩:=scn (f:=g) hd hk hw (b:=spl false s) V;have⟨l,U,Z⟩:=h S (a+Q w) g O M;refine⟨⟨k,⟨w⟩,(a:Int)⟩::l,?_,?_⟩
 ·rw[T];show dJ (g+1) S a=_;rw[E,U];rfl
 rw[a1f,Z];rfl
theorem spl_0(h: ¬(c=32\/c=9\/c=10\/c=13))(E:c≠35):spl false (c::s)=0:=by rw[spl,if_neg h,if_neg E]
theorem spl_w(h:br c=true):spl false (c::s)=0:=spl_0 (by rintro(rfl|rfl|rfl|rfl)<;>exact absurd h e_) (by rintro rfl;exact absurd h e_)
theorem Sc.pp(h:Sc s ws)(Z:inNm w=true)(hn:Nw s):Sc (w++s) ((1,w)::ws):=by
 unfold inNm at Z;simp only[a04,decide_eq_true_eq]at Z;have⟨⟨⟨E,O⟩,T⟩,U⟩:=Z;cases w with
 |nil=>exact absurd T e_
 |cons c w=>
  have E:cO c=true:=E
  have Z:aN (c::w++s)=Q (c::w):=by unfold aN;rw[tw_app O hn]
  refine h.word M (spl_w (by unfold br;rw[E];rfl)) ?_
  unfold aL
  have hd:bG c=false:=by
   cases e:bG c with
   |false=>rfl
   |true=>
    unfold cO at E;unfold bG at e
    simp only[a04,a0E,decide_eq_true_eq,beq_iff_eq]at E e
    omega
  rw[Z,if_neg M,if_neg (by show ¬bG c=true;rw[hd];decide),if_neg M,List.take_left]
theorem Sc.num{d:List UInt8}(h:Sc s ws)(hd:lB d=true)(U:val d<=9223372036854775808)(T:Nw s):Sc (d++s) ((2,d)::ws):=by
 have E:=im.1 hd;have ha:d.all br=true:=a0r.2 λc hc=>by have:=(a0r.1 E.2.2.1) c hc;unfold br;rw[show bG c=true from this,a1I]
 have Z:aN (d++s)=Q d:=by unfold aN;rw[tw_app ha T]
 cases d with
 |nil=>exact absurd E.1 e_
 |cons x d=>
  have O:bG x=true:=(a0r.1 E.2.2.1) x (a0m ..)
  refine h.word (Nat.succ_pos _) (spl_w (by unfold br;rw[O,a1I])) ?_
  unfold aL
  rw[Z,if_neg (by rw[a02];omega),if_pos (show bG (Y (x::d++s) 0 0)=true from O),List.take_left,if_pos ((ph.vn_iff m_).2 ⟨hd,U⟩)]
theorem Sc.sym(h:Sc s ws)(hc:c∈[43,45,42,47,37,38,124,94,126,63,58,59,44,40,41,123,125,91,93]):Sc (c::s) ((3,[c])::ws):=by
 have hq:br c=false/\¬(c=32\/c=9\/c=10\/c=13)/\c≠35/\c∈ek/\c≠60/\c≠62/\c≠61/\c≠33:=by revert c;decide
 have⟨O,T,U,Z,q5,E,q7,q8⟩:=hq;refine h.word (w:=[c]) Nat.one_pos (spl_0 T U) ?_;unfold aL;have hw:aN ([c]++s)=0:=by show((c::s).takeWhile br).length=0;rw[a1j,O];rfl
 have hs:cG ([c]++s)=1:=by
  show cG (c::s)=1;unfold cG;rw[if_neg,if_neg,if_pos (show(c::s).getD 0 0∈ek from Z)]
  ·show ¬(c::s.take 1=_\/c::s.take 1=_\/c::s.take 1=_\/c::s.take 1=_\/c::s.take 1=_\/c::s.take 1=_);rintro(e|e|e|e|e|e)<;>(injection e with e _;first|exact q5 e|exact E e|exact q7 e|exact q8 e)
  show ¬c::s.take 2=_;intro e;injection e with e _;exact E e
 rw[if_pos hw,hs,if_neg e_];rfl
theorem Sc.op{o:List UInt8}(h:Sc s ws)(Z:o∈[[43],[45],[42],[47],[37],[38],[124],[94],[60,60],[62,62,62],[62,62],[61,61],[33,61],[60],[60,61],[61],[63],[58]]):Sc (o++32::s) ((3,o)::ws):=by
 have hs:cG (o++32::s)=Q o/\aN (o++32::s)=0/\spl false (o++32::s)=0/\0<Q o:=by
  simp only[a0n,a0g,or_false]at Z;rcases Z with rfl|rfl|rfl|rfl|rfl|rfl|rfl|rfl|rfl|rfl|rfl|rfl|rfl|rfl|rfl|rfl|rfl|rfl<;>
   refine⟨?_,?_,V,by decide⟩<;>first
   |(show(List.takeWhile br _).length=0;rw[a0t,a1j];rfl)
   |(unfold cG;simp[ek])
 have⟨E,O,T,U⟩:=hs;refine h.sp.word U T ?_;unfold aL;rw[if_pos O,E,if_neg M,List.take_left]
end
def wdN(n:Int):List Wd:=if n<0 then [(3,[45]),(2,dec n.natAbs)] else [(2,dec n.toNat)]
def wdP(w:List Wd):List Wd:=(3,[40])::(w++[(3,[41])])
def wdF(e:ExpT)(m:Bool)(w:List Wd):List Wd:=if(e.j=4\/e.j=5)\/(m=true/\e.j=1) then wdP w else w
def wdK(ks:List ExpT)(ws:List (List Wd))(i:Nat)(m:Bool):List Wd:=wdF (Y ks i n_) m (Y ws i [])
def wdX(k n:Int)(nm:List UInt8)(o:Int)(ks:List ExpT)(ws:List (List Wd)):List Wd:=
 if k=1 then wdN n
 else if k=2 then [(1,nm)]
 else if k=3 then(1,nm)::(3,[91])::(Y ws 0 []++[(3,[93])])
 else if k=5 then wdK ks ws 0 false++(3,[63])::(wdK ks ws 1 false++(3,[58])::wdK ks ws 2 false)
 else if o=20 then(3,[45])::wdK ks ws 0 true
 else if o=21 then(3,[126])::wdK ks ws 0 false
 else wdK ks ws 0 false++(3,opX o)::wdK ks ws 1 false
mutual
def wdE:ExpT->List Wd
 |⟨k,n,nm,o,ks⟩=>wdX k n nm.b o ks (kR ks)
def kR:List ExpT->List (List Wd)
 | []=> []
 |e::l=>wdE e::kR l
end
theorem in_e{e:ExpT}(h:inE e):in64 e.n/\inE.inEs e.I:=by cases e;rwa [inE]at h
theorem pk: ∀{l:List ExpT},inE.inEs l->∀x∈l,inE x
 |e::l,h,x,hx=>by
  rw[inE.inEs]at h;rcases a0n.1 hx with rfl|hx
  ·exact h.1
  exact pk h.2 x hx
theorem wd_e(e:ExpT):wdE e=wdX e.j e.n e.pp.b e.op e.I (kR e.I):=by cases e;rw[wdE]
theorem wds_at: ∀{l:List ExpT} {i:Nat},i<Q l->Y (kR l) i []=wdE (Y l i n_)
 |e::l,0,_=>by rw[kR];rfl
 |e::l,i+1,h=>by rw[kR];exact wds_at (by simpa using h)
theorem wk_at{l:List ExpT}{i:Nat}(m:Bool)(h:i<Q l):wdK l (kR l) i m=wdF (Y l i n_) m (wdE (Y l i n_)):=by unfold wdK;rw[wds_at h]
section
variable {e:ExpT}
theorem wd_1(h:e.j=1):wdE e=wdN e.n:=by rw[wd_e,wdX,if_pos h]
theorem wd_2(h:e.j=2):wdE e=[(1,e.pp.b)]:=by rw[wd_e,wdX,if_neg M,if_pos h]
theorem wd_3(h:e.j=3)(k:(Q e.I:Int)=1):wdE e=(1,e.pp.b)::(3,[91])::(wdE (Y e.I 0 n_)++[(3,[93])]):=by rw[wd_e,wdX,if_neg M,if_neg M,if_pos h,wds_at M]
theorem wd_5(h:e.j=5)(k:(Q e.I:Int)=3):wdE e=wdF (Y e.I 0 n_) false (wdE (Y e.I 0 n_))++(3,[63])::(wdF (Y e.I 1 n_) false (wdE (Y e.I 1 n_))++(3,[58])::wdF (Y e.I 2 n_) false (wdE (Y e.I 2 n_))):=by rw[wd_e,wdX,if_neg M,if_neg M,if_neg M,if_pos h,wk_at _ M,wk_at _ M,wk_at _ M]
theorem wd_n(h:e.j=4)(o:e.op=20)(k:(Q e.I:Int)=1):wdE e=(3,[45])::wdF (Y e.I 0 n_) true (wdE (Y e.I 0 n_)):=by rw[wd_e,wdX,if_neg M,if_neg M,if_neg M,if_neg M,if_pos o,wk_at _ M]
theorem wd_t(h:e.j=4)(o:e.op=21)(k:(Q e.I:Int)=1):wdE e=(3,[126])::wdF (Y e.I 0 n_) false (wdE (Y e.I 0 n_)):=by rw[wd_e,wdX,if_neg M,if_neg M,if_neg M,if_neg M,if_neg M,if_pos o,wk_at _ M]
theorem wd_b(h:e.j=4)(o:e.op≠20)(E:e.op≠21)(k:(Q e.I:Int)=2):wdE e=wdF (Y e.I 0 n_) false (wdE (Y e.I 0 n_))++(3,opX e.op)::wdF (Y e.I 1 n_) false (wdE (Y e.I 1 n_)):=by rw[wd_e,wdX,if_neg M,if_neg M,if_neg M,if_neg M,if_neg o,if_neg E,wk_at _ M,wk_at _ M]
end
theorem nat_ok{n:Nat}(h:n<=9223372036854775808):lB (dec n)=true/\val (dec n)<=9223372036854775808:=⟨mD M,by rw[l7];exact h⟩
section
variable {s:List UInt8} {ws:List Wd}
theorem Sc.tn{n:Int}(h:Sc s ws)(U:in64 n)(T:Nw s):Sc (dI n++s) (wdN n++ws):=by
 have⟨E,O⟩:=U;unfold dI wdN;split
 ·have⟨k1,k2⟩:=nat_ok (n:=n.natAbs) M;exact(h.num k1 k2 T).sym e_
 have⟨k1,k2⟩:=nat_ok (n:=n.toNat) M;exact h.num k1 k2 T
theorem jQ{w:List UInt8}(h:vnm w=true):inNm w=true:=by unfold vnm at h;rw[a04]at h;exact h.1
theorem wfN_2{k n o c:Int}{nm:List UInt8}(h:k=2\/k=3)(w:wfN k n nm o c=true):vnm nm=true/\n=0/\o=0/\(k=2->c=0):=by
 unfold wfN at w;rcases h with h|h
 ·rw[if_neg M,if_pos h]at w;simp only[a04,beq_iff_eq]at w;exact⟨w.2,w.1.1.2,w.1.2,λ_=>w.1.1.1⟩
 rw[if_neg M,if_neg M,if_pos h]at w;simp only[a04,beq_iff_eq]at w;exact⟨w.2,w.1.1.2,w.1.2,λq=>by omega⟩
theorem opX_mem{o:Int}(h:4<=o/\o<=18):opX o∈[[43],[45],[42],[47],[37],[38],[124],[94],[60,60],[62,62,62],[62,62],[61,61],[33,61],[60],[60,61],[61],[63],[58]]:=by
 have:o=4\/o=5\/o=6\/o=7\/o=8\/o=9\/o=10\/o=11\/o=12\/o=13\/o=14\/o=15\/o=16\/o=17\/o=18:=M
 rcases this with rfl|rfl|rfl|rfl|rfl|rfl|rfl|rfl|rfl|rfl|rfl|rfl|rfl|rfl|rfl<;>decide
def ScE(e:ExpT):Prop:=wfE e=true->inE e->∀{s:List UInt8} {ws:List Wd},Nw s->Sc s ws->Sc (fmE e++s) (wdE e++ws)
theorem mj{e:ExpT}{m:Bool}(h:ScE e)(E:wfE e=true)(hi:inE e)(hs:Nw s)(k:Sc s ws):Sc (opF e m (fmE e)++s) (wdF e m (wdE e)++ws):=by
 unfold opF wdF;split
 ·have:=(h E hi (s:=41::s) (Nw.c e_) (k.sym (c:=41) e_)).sym (c:=40) e_;unfold wdP;simp only[a0b,a0t,a0o]at this⊢;exact this
 exact h E hi hs k
theorem oH(e:ExpT):ScE e:=exI (P:=ScE) (λe ih hw hi s ws hs k=>by
 have⟨hk,hn⟩:=ft hw;have⟨i0,ik⟩:=in_e hi;have kid: ∀{i:Nat},i<Q e.I->ScE (Y e.I i n_)/\wfE (Y e.I i n_)=true/\inE (Y e.I i n_):=λh=>⟨ih _ (cr h),i6 hk h,pk ik _ (cr h)⟩
 by_cases h1:e.j=1
 ·rw[fm_1 h1,wd_1 h1];exact k.tn i0 hs
 by_cases h2:e.j=2
 ·rw[fm_2 h2,wd_2 h2];exact k.pp (jQ (wfN_2 (.inl h2) hn).1) hs
 by_cases h3:e.j=3
 ·have c:=(wfN_3 h3 hn).1;have⟨E,O,T⟩:=kid (i:=0) M;rw[fm_3 h3 c,wd_3 h3 c];have:=((E O T (s:=93::s) (Nw.c e_) (k.sym (c:=93) e_)).sym (c:=91) e_).pp (jQ (wfN_2 (.inr h3) hn).1) (Nw.c e_);simp only[a0b,a0t,a0o]at this⊢;exact this
 by_cases h5:e.j=5
 ·have c:=wfN_5 h5 hn;have⟨E,O,T⟩:=kid (i:=0) M;have⟨b1,b2,b3⟩:=kid (i:=1) M;have⟨c1,c2,c3⟩:=kid (i:=2) M;rw[fm_5 h5 c,wd_5 h5 c];have:=mj E O T (m:=false) (Nw.c e_) ((mj b1 b2 b3 (m:=false) (Nw.c e_) ((mj c1 c2 c3 (m:=false) hs k).op (o:=[58]) e_).sp).op (o:=[63]) e_).sp;simp only[a0b,a0t,a0o]at this⊢;exact this
 have⟨U,q1,q2⟩:=wfN_4 h1 h2 h3 h5 hn;by_cases Z:e.op=20
 ·have c:=q2 (.inl Z);have⟨E,O,T⟩:=kid (i:=0) M;rw[fm_n U Z c,wd_n U Z c];exact(mj E O T hs k).sym e_
 by_cases o2:e.op=21
 ·have c:=q2 (.inr o2);have⟨E,O,T⟩:=kid (i:=0) M;rw[fm_t U o2 c,wd_t U o2 c];exact(mj E O T hs k).sym e_
 have⟨c,ho⟩:=q1 ⟨Z,o2⟩;have⟨E,O,T⟩:=kid (i:=0) M;have⟨b1,b2,b3⟩:=kid (i:=1) M;rw[fm_b U Z o2 c,wd_b U Z o2 c];have:=mj E O T (m:=false) (Nw.c e_) ((mj b1 b2 b3 (m:=false) hs k).op (o:=opX e.op) (opX_mem ho)).sp;simp only[a0b,a0t,a0o]at this⊢;exact this) _ e (a07 _)
end
theorem lim_eq{α:Type}{f g:Nat->Rs α}{r:Rs α}(h:Lim g r)(e:f=g):Lim f r:=e▸h
def Dw(ts:List Token)(i:Nat)(r:List Wd):Prop:=(ts.drop i).map wk=r
def hdW(r:List Wd):Wd:=r.headD (0,[])
section
variable {ts:List Token} {i:Nat} {r:List Wd} {x:Wd}
theorem Dw.tl(h:Dw ts i (x::r)):Dw ts (i+1) r:=by unfold Dw at h⊢;rw[←a1F,List.map_drop,h];rfl
theorem Dw.app{a b:List Wd}(h:Dw ts i (a++b)):Dw ts (i+Q a) b:=by unfold Dw at h⊢;rw[←a1F,List.map_drop,h,List.drop_left]
theorem Dw.hd(h:Dw ts i r):wk (Y ts i n_)=hdW r:=by
 unfold Dw at h;subst h;rw[a09];rcases a0p i (Q ts) with q|q
 ·rw[a08 q,a0O q];rfl
 rw[a1l q,a0Z q];rfl
theorem Dw.k(h:Dw ts i r):(Y ts i n_).j=(hdW r).1:=congrArg Prod.fst h.hd
theorem Dw.t(h:Dw ts i r):(Y ts i n_).D.b=(hdW r).2:=congrArg Prod.snd h.hd
theorem Dw.s(h:Dw ts i r)(w:List UInt8):isS ts i w=(decide ((hdW r).1=3)&&decide ((hdW r).2=w)):=by unfold isS;rw[h.k,h.t]
theorem Dw.kw(h:Dw ts i r)(w:List UInt8):isK ts i w=(decide ((hdW r).1=1)&&decide ((hdW r).2=w)):=by unfold isK;rw[h.k,h.t]
theorem Dw.n(h:Dw ts i r):isN ts i=(decide ((hdW r).1=1)&& !ig (hdW r).2):=by unfold isN;rw[h.k,h.t]
theorem Dw.m(h:Dw ts i r):isM ts i=decide ((hdW r).1=2):=by unfold isM;rw[h.k]
theorem Dw.exp{w:List UInt8}(h:Dw ts i ((3,w)::r)):i4 ts w i= .ok ((),i+1):=by unfold i4;rw[h.s];show(if(decide ((3:Int)=3)&&decide (w=w))=true then _ else _)=_;rw[decide_eq_true V,decide_eq_true rfl];rfl
theorem Dw.pp{w:List UInt8}(h:Dw ts i ((1,w)::r))(E:vnm w=true):iZ ts i= .ok ((⟨w⟩:Str),i+1):=by
 have O:ig w=false:=by unfold vnm at E;simpa using(Bool.and_eq_true_iff.1 E).2
 unfold iZ;rw[h.n];show(if(decide ((1:Int)=1)&& !ig w)=true then _ else _)=_;rw[decide_eq_true V,O];show Except.ok ((Y ts i n_).D,i+1)=_;rw[show(Y ts i n_).D=(⟨w⟩:Str) from congrArg Str.mk h.t]
theorem Dw.key{w:List UInt8}(h:Dw ts i ((1,w)::r)):isK ts i w=true:=by rw[h.kw];show(decide ((1:Int)=1)&&decide (w=w))=true;rw[decide_eq_true V,decide_eq_true rfl];rfl
theorem Dw.nokey{k:Int}{w v:List UInt8}(h:Dw ts i ((k,w)::r))(q:k≠1\/w≠v):isK ts i v=false:=by
 rw[h.kw];show(decide (k=1)&&decide (w=v))=false
 rcases q with q|q
 ·rw[decide_eq_false q];rfl
 rw[decide_eq_false q,a1a]
theorem Dw.sy{w:List UInt8}(h:Dw ts i ((3,w)::r)):isS ts i w=true:=by rw[h.s];show(decide ((3:Int)=3)&&decide (w=w))=true;rw[decide_eq_true V,decide_eq_true rfl];rfl
theorem Dw.nosy{k:Int}{w v:List UInt8}(h:Dw ts i ((k,w)::r))(q:k≠3\/w≠v):isS ts i v=false:=by
 rw[h.s];show(decide (k=3)&&decide (w=v))=false
 rcases q with q|q
 ·rw[decide_eq_false q];rfl
 rw[decide_eq_false q,a1a]
def Stp(r:List Wd):Prop:=(hdW r).1=3->(hdW r).2∈[[41],[93],[59],[44],[58]]
def Nbr(r:List Wd):Prop:=hdW r≠(3,[91])
theorem Stp.c{w:List UInt8}(h:w∈[[41],[93],[59],[44],[58]]):Stp ((3,w)::r):=λ_=>h
theorem Nbr.c{w:List UInt8}(h:w≠ [91]):Nbr ((3,w)::r):=λq=>h (show w=[91] from congrArg Prod.snd q)
theorem Stp.nbr(h:Stp r):Nbr r:=λe=>by have:=h (by rw[e]);rw[e]at this;revert this;decide
theorem Stp.op(h:Stp r)(d:Dw ts i r)(k:Nat):opK ts k i=0:=by
 unfold opK;rw[d.k,d.t];cases e:decide ((hdW r).1=3) with
 |false=>rfl
 |true=>
  have:=h (of_decide_eq_true e)
  have E:(opT (hdW r).2).1=0:=by simp only[a0n,a0g,or_false]at this;rcases this with q|q|q|q|q<;>(rw[q];decide)
  rw[E];split<;>rfl
theorem Stp.q(h:Stp r)(d:Dw ts i r):isS ts i [63]=false:=by
 rw[d.s];cases e:decide ((hdW r).1=3) with
 |false=>rfl
 |true=>
  have:=h (of_decide_eq_true e)
  simp only[a0n,a0g,or_false]at this
  rcases this with q|q|q|q|q<;>(rw[q];decide)
variable {e a b:ExpT} {j:Nat}
theorem bin_dn{q:Nat}(Z:q<=8)(h:Lim (λn=>binM ts n q i) (.ok (e,j))): ∀p,p<=q->(∀k,p<=k->k<q->opK ts k j=0)->Lim (λn=>binM ts n p i) (.ok (e,j)):=by
 intro p U;obtain⟨d,rfl⟩: ∃d,q=p+d:=⟨q-p,M⟩
 clear U;induction d generalizing p with
 |zero=>intro _;exact h
 |succ d ih=>
  intro T
  refine Lim.Gj (.seq (x:=e) (i:=j) ?_ ?_) λn=>by rw[binM,if_neg M]
  ·exact ih _ M (by rwa [show p+1+d=p+(d+1) by omega]) λk E O=>T k M M
  exact Lim.Gj (.Gk _) λn=>by rw[oV,if_pos (T p (a07 _) M)]
theorem bin_8(h:Lim (λn=>jM ts n i) (.ok (e,j))):Lim (λn=>binM ts n 8 i) (.ok (e,j)):=h.Gj λn=>by rw[binM,if_pos rfl]
theorem ex_of(h:Lim (λn=>binM ts n 0 i) (.ok (e,j)))(E:isS ts j [63]=false):Lim (λn=>ev ts n i) (.ok (e,j)):=
 Lim.Gj (g:=λn=>bnd (binM ts n 0 i) λc i=>if isS ts i [63] then bnd (ev ts n (i+1)) λa i=>bnd (i4 ts [58] i) λ_ i=>bnd (ev ts n i) λb i=> .ok (mkE 5 0 bP 0 [c,a,b],i) else .ok (c,i)) (.seq h (by rw[E];exact .Gk _)) λn=>by rw[ev]
theorem ex_un(d:Dw ts j r)(E:Stp r)(h:Lim (λn=>jM ts n i) (.ok (e,j))):Lim (λn=>ev ts n i) (.ok (e,j)):=
 ex_of (bin_dn (a07 _) (bin_8 h) 0 M λk _ _=>E.op d k) (E.q d)
theorem una_pri(E:isS ts i [45]=false)(O:isS ts i [126]=false)(T:isS ts i [33]=false)(U:isS ts i [40]=false)(h:Lim (λn=>priM ts n i) (.ok (e,j))):Lim (λn=>jM ts n i) (.ok (e,j)):=h.Gj λn=>by rw[jM,E,O,T,U];rfl
theorem una_k(d:Dw ts i r)(E:(hdW r).1≠3)(h:Lim (λn=>priM ts n i) (.ok (e,j))):Lim (λn=>jM ts n i) (.ok (e,j)):=by
 have k: ∀w,isS ts i w=false:=λw=>by rw[d.s,decide_eq_false E];rfl
 exact una_pri (k _) (k _) (k _) (k _) h
theorem una_par(d:Dw ts i (wdP (wdE e)++r))(h: ∀{i r},Stp r->Dw ts i (wdE e++r)->Lim (λn=>ev ts n i) (.ok (e,i+Q (wdE e)))):Lim (λn=>jM ts n i) (.ok (e,i+Q (wdP (wdE e)))):=by
 have d0:Dw ts i ((3,[40])::(wdE e++((3,[41])::r))):=by unfold wdP at d;simpa using d
 have E:=d0.tl;have O:=E.app;have T:=h (r:=(3,[41])::r) (.c e_) E;have k1:isS ts i [45]=false:=by rw[d0.s];rfl
 have k2:isS ts i [126]=false:=by rw[d0.s];rfl
 have U:isS ts i [33]=false:=by rw[d0.s];rfl
 have Z:isS ts i [40]=true:=by rw[d0.s];rfl
 refine Lim.Gj (.seq T ?_) λn=>by rw[jM,k1,k2,U,Z];rfl
 rw[O.exp];rw[show i+Q (wdP (wdE e))=i+1+Q (wdE e)+1 by unfold wdP;simp;omega];exact .Gk _
theorem num_d{n:Nat}(h:n<=9223372036854775807):bu (dec n)=some (n:Int):=by have:=nH (n:=(n:Int)) ⟨M,M⟩;unfold dI at this;rwa [if_neg M,show((n:Int)).toNat=n by omega]at this
theorem una_num{n:Int}(hn:in64 n)(d:Dw ts i (wdN n++r)):Lim (λm=>jM ts m i) (.ok (numE n,i+Q (wdN n))):=by
 have⟨U,Z⟩:=hn;unfold wdN at d⊢;split at d
 ·next E=>
  rw[if_pos E];have d0:Dw ts i ((3,[45])::(2,dec n.natAbs)::r):=d;have O:=d0.tl;have k1:isS ts i [45]=true:=by rw[d0.s];rfl
  have k2:isM ts (i+1)=true:=by rw[O.m];rfl
  have T:(Y ts (i+1) n_).D.b=dec n.natAbs:=O.t;have hp:=nH (n:=n) ⟨U,Z⟩;unfold dI at hp;rw[if_pos E]at hp;refine Lim.Gj (.Gk _) λm=>by rw[jM,if_pos k1,if_pos k2,T,hp];rfl
 next E=>
 rw[if_neg E];have d0:Dw ts i ((2,dec n.toNat)::r):=d;refine una_k d0 (show(2:Int)≠3 by decide) (Lim.Gj (g:=λ_=> .ok (_,i+1)) (.Gk _) λm=>?_);have k2:isM ts i=true:=by rw[d0.m];rfl
 have hv:numV ts i=some n:=by unfold numV;rw[show(Y ts i n_).D.b=dec n.toNat from d0.t,num_d M];congr 1;omega
 rw[priM,if_pos k2,hv];rfl
theorem e_mk{k n:Int}{nm:List UInt8}{o:Int}{ks:List ExpT}(E:e.j=k)(O:e.n=n)(T:e.pp.b=nm)(U:e.op=o)(Z:e.I=ks):mkE k n ⟨nm⟩ o ks=e:=by cases e;cases E;cases O;cases T;cases U;cases Z;rfl
theorem nJ{l:List ExpT}(h:(Q l:Int)=1):l=[Y l 0 n_]:=by
 match l,h with
 | [x],_=>rfl
 | [],h=>simp at h
 |x::y::l,h=>simp at h;omega
theorem two_of{l:List ExpT}(h:(Q l:Int)=2):l=[Y l 0 n_,Y l 1 n_]:=by
 match l,h with
 | [x,y],_=>rfl
 | [],h=>simp at h
 | [x],h=>simp at h
 |x::y::z::l,h=>simp at h;omega
theorem three_of{l:List ExpT}(h:(Q l:Int)=3):l=[Y l 0 n_,Y l 1 n_,Y l 2 n_]:=by
 match l,h with
 | [x,y,z],_=>rfl
 | [],h=>simp at h
 | [x],h=>simp at h
 | [x,y],h=>simp at h
 |x::y::z::u::l,h=>simp at h;omega
theorem wfN_1{k n o c:Int}{nm:List UInt8}(h:k=1)(w:wfN k n nm o c=true):c=0/\nm=[]/\o=0:=by unfold wfN at w;rw[if_pos h]at w;simp only[a04,beq_iff_eq]at w;exact⟨w.1.1,w.1.2,w.2⟩
theorem wfN_45{k n o c:Int}{nm:List UInt8}(h:k=4\/k=5)(w:wfN k n nm o c=true):n=0/\nm=[]/\(k=5->o=0):=by
 unfold wfN at w;rcases h with h|h
 ·rw[if_neg M,if_neg M,if_neg M,if_pos h]at w;simp only[a04,beq_iff_eq]at w;exact⟨w.1.1,w.1.2,λq=>by omega⟩
 rw[if_neg M,if_neg M,if_neg M,if_neg M,if_pos h]at w;simp only[a04,beq_iff_eq]at w;exact⟨w.1.1.2,w.1.2,λ_=>w.2⟩
theorem nil_of{l:List ExpT}(h:(Q l:Int)=0):l=[]:=a0e M
def PaE(ts:List Token)(e:ExpT):Prop:=wfE e=true->inE e->∀{i:Nat} {r:List Wd},Stp r->Dw ts i (wdE e++r)->Lim (λn=>ev ts n i) (.ok (e,i+Q (wdE e)))
theorem pa_at(hk:e.j=1\/e.j=2\/e.j=3)(ih: ∀x∈e.I,PaE ts x)(hw:wfE e=true)(hi:inE e)(hr:Nbr r)(d:Dw ts i (wdE e++r)):Lim (λn=>jM ts n i) (.ok (e,i+Q (wdE e))):=by
 have⟨wk,wn⟩:=ft hw;have⟨i0,ik⟩:=in_e hi;rcases hk with U|O|T
 ·rw[wd_1 U]at d⊢;have⟨c1,c2,E⟩:=wfN_1 U wn;have:=una_num i0 d;rwa [show numE e.n=e from e_mk U V c2 E (nil_of c1)]at this
 ·rw[wd_2 O]at d⊢;have⟨c1,c2,E,c4⟩:=wfN_2 (.inl O) wn;have d0:Dw ts i ((1,e.pp.b)::r):=d;have k1:isM ts i=false:=by rw[d0.m];rfl
  have k2:isS ts (i+1) [91]=false:=by
   rw[d0.tl.s];cases q:decide ((hdW r).1=3) with
   |false=>rfl
   |true=>
    rw[a1b]
    exact decide_eq_false λz=>hr (Prod.ext (of_decide_eq_true q) z)
  refine una_k d0 (show(1:Int)≠3 by decide) (Lim.Gj (g:=λn=>bnd _ _) ?_ λn=>by rw[priM,k1];rfl);rw[d0.pp c1];show Lim (λn=>if isS ts (i+1) [91]=true then _ else _) _;rw[k2];rw[show e=mkE 2 0 ⟨e.pp.b⟩ 0 [] from(e_mk O c2 V E (nil_of (c4 O))).symm];exact .Gk _
 have⟨c1,c2,E,_⟩:=wfN_2 (.inr T) wn;have c:=(wfN_3 T wn).1;rw[wd_3 T c]at d⊢;have d0:Dw ts i ((1,e.pp.b)::(3,[91])::(wdE (Y e.I 0 n_)++(3,[93])::r)):=by simpa using d
 have Z:=d0.tl;have d2:=Z.tl;have hm:=cr (l:=e.I) (i:=0) M;have p:=ih _ hm (i6 wk M) (pk ik _ hm) (r:=(3,[93])::r) (.c e_) d2;have d3:=d2.app;have k1:isM ts i=false:=by rw[d0.m];rfl
 have k2:isS ts (i+1) [91]=true:=by rw[Z.s];rfl
 refine una_k d0 (show(1:Int)≠3 by decide) (Lim.Gj (g:=λn=>bnd _ _) ?_ λn=>by rw[priM,k1];rfl);rw[d0.pp c1];show Lim (λn=>if isS ts (i+1) [91]=true then _ else _) _;rw[k2];refine .seq p ?_;rw[d3.exp];rw[show mkE 3 0 ⟨e.pp.b⟩ 0 [Y e.I 0 n_]=e from e_mk T c2 V E (nJ c)];rw[show i+Q ((1,e.pp.b)::(3,[91])::(wdE (Y e.I 0 n_)++[(3,[93])]))=i+1+1+Q (wdE (Y e.I 0 n_))+1 by simp;omega];exact .Gk _
theorem pa_op{m:Bool}(h:PaE ts e)(ih: ∀x∈e.I,PaE ts x)(hw:wfE e=true)(hi:inE e)(Z:Nbr r)(d:Dw ts i (wdF e m (wdE e)++r)):Lim (λn=>jM ts n i) (.ok (e,i+Q (wdF e m (wdE e)))):=by
 unfold wdF at d⊢;split at d
 ·next c=>rw[if_pos c];exact una_par d λZ d=>h hw hi Z d
 next c=>
 rw[if_neg c];have hk:e.j=1\/e.j=2\/e.j=3:=by
  by_cases E:e.j=1
  ·exact .inl E
  by_cases O:e.j=2
  ·exact .inr (.inl O)
  by_cases T:e.j=3
  ·exact .inr (.inr T)
  by_cases U:e.j=5
  ·exact absurd (.inl (.inr U)) c
  exact absurd (.inl (.inl (wfN_4 E O T U (ft hw).2).1)) c
 exact pa_at hk ih hw hi Z d
theorem op_lv{o:Int}(h:4<=o/\o<=18): ∃l:Nat,l<8/\opT (opX o)=(o,(l:Int),false)/\opX o≠ [63]/\opX o≠ [91]:=by
 have:o=4\/o=5\/o=6\/o=7\/o=8\/o=9\/o=10\/o=11\/o=12\/o=13\/o=14\/o=15\/o=16\/o=17\/o=18:=M
 rcases this with rfl|rfl|rfl|rfl|rfl|rfl|rfl|rfl|rfl|rfl|rfl|rfl|rfl|rfl|rfl
 ·exact⟨6,by decide,by decide,by decide,by decide⟩
 ·exact⟨6,by decide,by decide,by decide,by decide⟩
 ·exact⟨7,by decide,by decide,by decide,by decide⟩
 ·exact⟨7,by decide,by decide,by decide,by decide⟩
 ·exact⟨7,by decide,by decide,by decide,by decide⟩
 ·exact⟨2,by decide,by decide,by decide,by decide⟩
 ·exact⟨0,by decide,by decide,by decide,by decide⟩
 ·exact⟨1,by decide,by decide,by decide,by decide⟩
 ·exact⟨5,by decide,by decide,by decide,by decide⟩
 ·exact⟨5,by decide,by decide,by decide,by decide⟩
 ·exact⟨5,by decide,by decide,by decide,by decide⟩
 ·exact⟨3,by decide,by decide,by decide,by decide⟩
 ·exact⟨3,by decide,by decide,by decide,by decide⟩
 ·exact⟨4,by decide,by decide,by decide,by decide⟩
 exact⟨4,by decide,by decide,by decide,by decide⟩
theorem pa_bin{o:Int}(ho:4<=o/\o<=18){w v:List Wd}(hr:Stp r)(d:Dw ts i (w++(3,opX o)::(v++r)))(ha:Lim (λn=>jM ts n i) (.ok (a,i+Q w)))(hb:Lim (λn=>jM ts n (i+Q w+1)) (.ok (b,i+Q w+1+Q v))):Lim (λn=>ev ts n i) (.ok (mkE 4 0 bP o [a,b],i+Q w+1+Q v)):=by
 have⟨l,hl,ht,hq,_⟩:=op_lv ho;have E:=d.app;have O:=E.tl.app;have ok: ∀k,opK ts k (i+Q w)=if(l:Int)=(k:Int) then o else 0:=by
  intro k;unfold opK;rw[E.k,E.t];show(if(decide ((3:Int)=3)&&decide ((opT (opX o)).2.1=(k:Int)))=true then(opT (opX o)).1 else 0)=_;rw[ht];by_cases q:(l:Int)=(k:Int)
  ·rw[if_pos q,if_pos (by simp[q])]
  rw[if_neg q,if_neg (by simp[q])]
 have st: ∀k,opK ts k (i+Q w+1+Q v)=0:=λk=>hr.op O k
 have T:=bin_dn (a07 8) (bin_8 ha) (l+1) M λk T U=>by rw[ok,if_neg M]
 have U:=bin_dn (a07 8) (bin_8 hb) (l+1) M λk _ _=>st k
 have Z:Lim (λn=>binM ts n l i) (.ok (mkE 4 0 bP o [a,b],i+Q w+1+Q v)):=by
  refine Lim.Gj (.seq T ?_) λn=>by rw[binM,if_neg M]
  refine Lim.Gj (.seq U ?_) λn=>by rw[oV,if_neg (by rw[ok,if_pos rfl];omega)]
  refine Lim.Gj (.Gk _) λn=>?_
  rw[oV,if_pos (st _)];have:mkB ts (i+Q w) a b=mkE 4 0 bP o [a,b]:=by unfold mkB;rw[show(Y ts (i+Q w) n_).D.b=opX o from E.t,ht];rfl
  rw[this]
 exact ex_of (bin_dn M Z 0 M λk _ _=>st k) (hr.q O)
theorem pa_all(e:ExpT):PaE ts e/\∀x∈e.I,PaE ts x:=exI (P:=λe=>PaE ts e/\∀x∈e.I,PaE ts x) (λe ih=>⟨λhw hi i r hr d=>by
 have⟨hk,hn⟩:=ft hw;have⟨i0,ik⟩:=in_e hi;have kid: ∀{q:Nat} {m:Bool} {i:Nat} {r:List Wd},q<Q e.I->Nbr r->Dw ts i (wdF (Y e.I q n_) m (wdE (Y e.I q n_))++r)->Lim (λn=>jM ts n i) (.ok (Y e.I q n_,i+Q (wdF (Y e.I q n_) m (wdE (Y e.I q n_))))):=λh hr d=>pa_op (ih _ (cr h)).1 (ih _ (cr h)).2 (i6 hk h) (pk ik _ (cr h)) hr d
 by_cases h1:e.j=1\/e.j=2\/e.j=3
 ·exact ex_un d.app hr (pa_at h1 (λx hx=>(ih x hx).1) hw hi hr.nbr d)
 have g1:e.j≠1:=λq=>h1 (.inl q)
 have g2:e.j≠2:=λq=>h1 (.inr (.inl q))
 have g3:e.j≠3:=λq=>h1 (.inr (.inr q))
 by_cases T:e.j=5
 ·have c:=wfN_5 T hn;have⟨c1,c2,c3⟩:=wfN_45 (.inr T) hn;rw[wd_5 T c]at d⊢;have d0:Dw ts i (wdF (Y e.I 0 n_) false (wdE (Y e.I 0 n_))++(3,[63])::(wdF (Y e.I 1 n_) false (wdE (Y e.I 1 n_))++(3,[58])::(wdF (Y e.I 2 n_) false (wdE (Y e.I 2 n_))++r))):=by simpa using d
  have p0:=kid (q:=0) (m:=false) M (.c e_) d0;have E:=d0.app;have d2:=E.tl;have p1:=kid (q:=1) (m:=false) M (.c e_) d2;have d3:=d2.app;have p2:=kid (q:=2) (m:=false) M hr.nbr d3.tl;have d4:=d3.tl.app;have e1:=ex_un d3 (.c e_) p1;have e2:=ex_un d4 hr p2;have k0: ∀k,opK ts k (i+Q (wdF (Y e.I 0 n_) false (wdE (Y e.I 0 n_))))=0:=by intro k;unfold opK;rw[E.k,E.t];show(if(decide ((3:Int)=3)&&decide ((opT [63]).2.1=(k:Int)))=true then(opT [63]).1 else 0)=_;rw[show(opT [63]).1=0 by decide];split<;>rfl
  have b0:=bin_dn (a07 8) (bin_8 p0) 0 M λk _ _=>k0 k
  have kq:isS ts (i+Q (wdF (Y e.I 0 n_) false (wdE (Y e.I 0 n_)))) [63]=true:=by rw[E.s];rfl
  refine Lim.Gj (.seq b0 ?_) λn=>by rw[ev]
  rw[kq];refine .seq e1 ?_;rw[d3.exp];refine .seq (.Gk _) (.seq e2 ?_);rw[show mkE 5 0 bP 0 [Y e.I 0 n_,Y e.I 1 n_,Y e.I 2 n_]=e from e_mk T c1 c2 (c3 T) (three_of c)];rw[a00,a02,a00,a02,show ∀x y z:Nat,i+(x+(y+(z+1)+1))=i+x+1+y+1+z by intros;omega];exact .Gk _
 have⟨O,q1,q2⟩:=wfN_4 g1 g2 g3 T hn;have⟨c1,c2,c3⟩:=wfN_45 (.inl O) hn;by_cases U:e.op=20
 ·have c:=q2 (.inl U);rw[wd_n O U c]at d⊢;have d0:Dw ts i ((3,[45])::(wdF (Y e.I 0 n_) true (wdE (Y e.I 0 n_))++r)):=d;have E:=d0.tl;have p:=kid (q:=0) (m:=true) M hr.nbr E;have k1:isS ts i [45]=true:=by rw[d0.s];rfl
  have k2:isM ts (i+1)=false:=by
   rw[E.m];refine decide_eq_false ?_;unfold wdF;split
   ·show ¬((3:Int)=2);decide
   next q=>
   have a4:(Y e.I 0 n_).j=2\/(Y e.I 0 n_).j=3:=by
    have wk:=ft (i6 hk (i:=0) M);by_cases x1:(Y e.I 0 n_).j=1
    ·exact absurd (.inr ⟨V,x1⟩) q
    by_cases x2:(Y e.I 0 n_).j=2
    ·exact .inl x2
    by_cases x3:(Y e.I 0 n_).j=3
    ·exact .inr x3
    by_cases x5:(Y e.I 0 n_).j=5
    ·exact absurd (.inl (.inr x5)) q
    exact absurd (.inl (.inl (wfN_4 x1 x2 x3 x5 wk.2).1)) q
   have wk:=ft (i6 hk (i:=0) M);rcases a4 with x|x
   ·rw[wd_2 x];show ¬((1:Int)=2);decide
   rw[wd_3 x (wfN_3 x wk.2).1];show ¬((1:Int)=2);decide
  have u:Lim (λn=>jM ts n i) (.ok (e,i+Q ((3,[45])::wdF (Y e.I 0 n_) true (wdE (Y e.I 0 n_))))):=by
   refine Lim.Gj (.seq p ?_) λn=>by rw[jM,if_pos k1,if_neg (by rw[k2];decide)]
   rw[show mkE 4 0 bP 20 [Y e.I 0 n_]=e from e_mk O c1 c2 U (nJ c),a02,show i+(Q (wdF (Y e.I 0 n_) true (wdE (Y e.I 0 n_)))+1)=i+1+(Q (wdF (Y e.I 0 n_) true (wdE (Y e.I 0 n_)))) by omega];exact .Gk _
  exact ex_un d.app hr u
 by_cases Z:e.op=21
 ·have c:=q2 (.inr Z);rw[wd_t O Z c]at d⊢;have d0:Dw ts i ((3,[126])::(wdF (Y e.I 0 n_) false (wdE (Y e.I 0 n_))++r)):=d;have p:=kid (q:=0) (m:=false) M hr.nbr d0.tl;have k1:isS ts i [45]=false:=by rw[d0.s];rfl
  have k2:isS ts i [126]=true:=by rw[d0.s];rfl
  have u:Lim (λn=>jM ts n i) (.ok (e,i+Q ((3,[126])::wdF (Y e.I 0 n_) false (wdE (Y e.I 0 n_))))):=by
   refine Lim.Gj (.seq p ?_) λn=>by rw[jM,if_neg (by rw[k1];decide),if_pos k2]
   rw[show mkE 4 0 bP 21 [Y e.I 0 n_]=e from e_mk O c1 c2 Z (nJ c),a02,show i+(Q (wdF (Y e.I 0 n_) false (wdE (Y e.I 0 n_)))+1)=i+1+(Q (wdF (Y e.I 0 n_) false (wdE (Y e.I 0 n_)))) by omega];exact .Gk _
  exact ex_un d.app hr u
 have⟨c,ho⟩:=q1 ⟨U,Z⟩;rw[wd_b O U Z c]at d⊢;have d0:Dw ts i (wdF (Y e.I 0 n_) false (wdE (Y e.I 0 n_))++(3,opX e.op)::(wdF (Y e.I 1 n_) false (wdE (Y e.I 1 n_))++r)):=by simpa using d
 have⟨_,_,_,_,hb⟩:=op_lv ho;have pa:=kid (q:=0) (m:=false) M (.c hb) d0;have pb:=kid (q:=1) (m:=false) M hr.nbr d0.app.tl;have u:=pa_bin ho hr d0 pa pb;rw[show mkE 4 0 bP e.op [Y e.I 0 n_,Y e.I 1 n_]=e from e_mk O c1 c2 V (two_of c)]at u;rwa [a00,a02,show ∀x y:Nat,i+(x+(y+1))=i+x+1+y by intros;omega],λx hx=>(ih x hx).1⟩) _ e (a07 _)
theorem pa_ex(e:ExpT):PaE ts e:=(pa_all e).1
end
end rt
open rt
namespace ru
open Go.R w1 w3 l1 pt pa pb pc pd pe pf pg ca cc cd ta tb gp rt
def wdJ:Bool->List (List Wd)->List Wd
 |_,[]=> []
 |b,x::l=>(if b=true then [(3,[44])] else [])++(x++wdJ true l)
def wdS0(s:StmT)(t e:List Wd):List Wd:=
 if s.j=1 then(1,s.pp.b)::(3,[61])::(wdE s.val++[(3,[59])])
 else if s.j=2 then(1,s.pp.b)::(3,[91])::(wdE s.G2++(3,[93])::(3,[61])::(wdE s.val++[(3,[59])]))
 else if s.j=5 then(1,[111,117,116])::(wdE s.val++[(3,[59])])
 else if s.j=7 then [(1,[116,114,97,112]),(2,dec s.n.toNat),(3,[59])]
 else if s.j=4 then(1,[119,104,105,108,101])::(3,[40])::(wdE s.val++(3,[41])::(3,[123])::(t++[(3,[125])]))
 else if s.j=3 then(1,[105,102])::(3,[40])::(wdE s.val++(3,[41])::(3,[123])::(t++(3,[125])::(if 0<Q s.G7 then(1,[101,108,115,101])::(3,[123])::(e++[(3,[125])]) else [])))
 else(1,s.pp.b)::(3,[61])::(1,s.K.b)::(3,[40])::(wdJ false (kR s.y)++[(3,[41]),(3,[59])])
mutual
def wdS:StmT->List Wd
 |⟨k,nm,to,n,a,v,ar,t,e⟩=>wdS0 ⟨k,nm,to,n,a,v,ar,t,e⟩ (wdL t) (wdL e)
def wdL:List StmT->List Wd
 | []=> []
 |s::l=>wdS s++wdL l
end
theorem wd_s(s:StmT):wdS s=wdS0 s (wdL s.G4) (wdL s.G7):=by cases s;rw[wdS]
mutual
def mM:StmT->Prop
 |⟨_,_,_,_,a,v,ar,t,e⟩=>inE a/\inE v/\inE.inEs ar/\inL t/\inL e
def inL:List StmT->Prop
 | []=>True
 |s::l=>mM s/\inL l
end
theorem in_s{s:StmT}(h:mM s):inE s.G2/\inE s.val/\inE.inEs s.y/\inL s.G4/\inL s.G7:=by cases s;rwa [mM]at h
def nmW(s:Str):List Wd:=[(1,s.b)]
def wdAr(a:ArrT):List Wd:=[(1,[97,114,114,97,121]),(1,a.pp.b),(2,dec a.len.toNat),(3,[59])]
def wdLc(l:List Str):List Wd:=if 0<Q l then(1,[118,97,114])::wdJ false (l.map nmW) else []
def wdFn(f:FunT):List Wd:=(1,[102,117,110,99])::(1,f.pp.b)::(3,[40])::(wdJ false (f.A.map nmW)++(3,[41])::(wdLc f.B++(3,[123])::(wdL f.G6++(1,[114,101,116,117,114,110])::(wdE f.val++[(3,[59]),(3,[125])]))))
section
variable {s:StmT} {t e:List Wd}
theorem wk1(h:s.j=1):wdS0 s t e=(1,s.pp.b)::(3,[61])::(wdE s.val++[(3,[59])]):=by rw[wdS0,if_pos h]
theorem wk2(h:s.j=2):wdS0 s t e=(1,s.pp.b)::(3,[91])::(wdE s.G2++(3,[93])::(3,[61])::(wdE s.val++[(3,[59])])):=by rw[wdS0,if_neg M,if_pos h]
theorem wk5(h:s.j=5):wdS0 s t e=(1,[111,117,116])::(wdE s.val++[(3,[59])]):=by rw[wdS0,if_neg M,if_neg M,if_pos h]
theorem wk7(h:s.j=7):wdS0 s t e=[(1,[116,114,97,112]),(2,dec s.n.toNat),(3,[59])]:=by rw[wdS0,if_neg M,if_neg M,if_neg M,if_pos h]
theorem wk4(h:s.j=4):wdS0 s t e=(1,[119,104,105,108,101])::(3,[40])::(wdE s.val++(3,[41])::(3,[123])::(t++[(3,[125])])):=by rw[wdS0,if_neg M,if_neg M,if_neg M,if_neg M,if_pos h]
theorem wk3(h:s.j=3):wdS0 s t e=(1,[105,102])::(3,[40])::(wdE s.val++(3,[41])::(3,[123])::(t++(3,[125])::(if 0<Q s.G7 then(1,[101,108,115,101])::(3,[123])::(e++[(3,[125])]) else []))):=by rw[wdS0,if_neg M,if_neg M,if_neg M,if_neg M,if_neg M,if_pos h]
theorem wk6(h:s.j=6):wdS0 s t e=(1,s.pp.b)::(3,[61])::(1,s.K.b)::(3,[40])::(wdJ false (kR s.y)++[(3,[41]),(3,[59])]):=by rw[wdS0,if_neg M,if_neg M,if_neg M,if_neg M,if_neg M,if_neg M]
end
theorem kd_rng{s:StmT}(h:wfK s=true):1<=s.j/\s.j<=7:=by
 unfold wfK at h;repeat' split at h
 all_goals first|omega|cases h
theorem z_of{e:ExpT}(h:isZ e=true):e=zE:=by unfold isZ at h;simp only[a04,beq_iff_eq]at h;have⟨⟨⟨⟨E,O⟩,T⟩,U⟩,Z⟩:=h;exact(e_mk E O T U (nil_of Z)).symm
theorem fH{l:List StmT}(h:((Q l:Int)==0)=true):l=[]:=a0e (by have:=beq_iff_eq.1 h;omega)
theorem oN{l:List ExpT}(h:((Q l:Int)==0)=true):l=[]:=nil_of (beq_iff_eq.1 h)
theorem s_mk{s:StmT}{k n:Int}{nm to:List UInt8}{a v:ExpT}{ar:List ExpT}{t e:List StmT}(E:s.j=k)(O:s.pp.b=nm)(T:s.K.b=to)(U:s.n=n)(Z:s.G2=a)(h6:s.val=v)(h7:s.y=ar)(h8:s.G4=t)(h9:s.G7=e):mkS k ⟨nm⟩ ⟨to⟩ n a v ar t e=s:=by cases s;cases E;cases O;cases T;cases U;cases Z;cases h6;cases h7;cases h8;cases h9;rfl
theorem wf1{s:StmT}(h:s.j=1)(w:wfK s=true):vnm s.pp.b=true/\wfE s.val=true/\mkS 1 ⟨s.pp.b⟩ bP 0 zE s.val [] [] []=s:=by rw[wfK,if_pos h]at w;unfold flS at w;simp only[a04]at w;have⟨⟨⟨⟨⟨⟨⟨w1,E⟩,w3⟩,O⟩,T⟩,U⟩,Z⟩,w8⟩:=w;exact⟨w3,w8,s_mk h V (beq_iff_eq.1 O) (beq_iff_eq.1 T) (z_of U) V (oN Z) (fH w1) (fH E)⟩
theorem wf2{s:StmT}(h:s.j=2)(w:wfK s=true):vnm s.pp.b=true/\wfE s.G2=true/\wfE s.val=true/\mkS 2 ⟨s.pp.b⟩ bP 0 s.G2 s.val [] [] []=s:=by rw[wfK,if_neg M,if_pos h]at w;unfold flS at w;simp only[a04]at w;have⟨⟨⟨⟨⟨⟨⟨w1,E⟩,w3⟩,O⟩,T⟩,U⟩,Z⟩,w8⟩:=w;exact⟨w3,U,w8,s_mk h V (beq_iff_eq.1 O) (beq_iff_eq.1 T) V V (oN Z) (fH w1) (fH E)⟩
theorem onv{s:StmT}(w:onV s=true):s.pp.b=[]/\s.K.b=[]/\s.n=0/\s.G2=zE/\s.y=[]:=by unfold onV at w;simp only[a04]at w;exact⟨beq_iff_eq.1 w.1.1.1.1,beq_iff_eq.1 w.1.1.1.2,beq_iff_eq.1 w.1.1.2,z_of w.1.2,oN w.2⟩
theorem wf3{s:StmT}(h:s.j=3)(w:wfK s=true):wfE s.val=true/\mkS 3 bP bP 0 zE s.val [] s.G4 s.G7=s:=by rw[wfK,if_neg M,if_neg M,if_pos h,a04]at w;have⟨a,b,c,d,f⟩:=onv w.1;exact⟨w.2,s_mk h a b c d V f V V⟩
theorem wf4{s:StmT}(h:s.j=4)(w:wfK s=true):wfE s.val=true/\mkS 4 bP bP 0 zE s.val [] s.G4 []=s:=by rw[wfK,if_neg M,if_neg M,if_neg M,if_pos h,a04,a04]at w;have⟨a,b,c,d,f⟩:=onv w.1.1;exact⟨w.1.2,s_mk h a b c d V f V (fH w.2)⟩
theorem wf5{s:StmT}(h:s.j=5)(w:wfK s=true):wfE s.val=true/\mkS 5 bP bP 0 zE s.val [] [] []=s:=by rw[wfK,if_neg M,if_neg M,if_neg M,if_neg M,if_pos h,a04,a04]at w;have⟨a,b,c,d,f⟩:=onv w.1.2;have w1:=w.1.1;unfold flS at w1;rw[a04]at w1;exact⟨w.2,s_mk h a b c d V f (fH w1.1) (fH w1.2)⟩
theorem wf6{s:StmT}(h:s.j=6)(w:wfK s=true):vnm s.pp.b=true/\vnm s.K.b=true/\mkS 6 ⟨s.pp.b⟩ ⟨s.K.b⟩ 0 zE zE s.y [] []=s:=by rw[wfK,if_neg M,if_neg M,if_neg M,if_neg M,if_neg M,if_pos h]at w;unfold flS at w;simp only[a04]at w;have⟨⟨⟨⟨⟨⟨w1,E⟩,w3⟩,O⟩,T⟩,U⟩,Z⟩:=w;exact⟨w3,O,s_mk h V V (beq_iff_eq.1 T) (z_of U) (z_of Z) V (fH w1) (fH E)⟩
theorem wf7{s:StmT}(h:s.j=7)(w:wfK s=true):(0<=s.n/\s.n<=1000000)/\mkS 7 bP bP s.n zE zE [] [] []=s:=by rw[wfK,if_neg M,if_neg M,if_neg M,if_neg M,if_neg M,if_neg M,if_pos h]at w;unfold flS at w;simp only[a04,decide_eq_true_eq]at w;have⟨⟨⟨⟨⟨⟨⟨⟨w1,E⟩,w3⟩,O⟩,T⟩,U⟩,Z⟩,w8⟩,w9⟩:=w;exact⟨⟨T,U⟩,s_mk h (beq_iff_eq.1 w3) (beq_iff_eq.1 O) V (z_of Z) (z_of w8) (oN w9) (fH w1) (fH E)⟩
section
variable {s:List UInt8} {ws:List Wd}
theorem Sc.jn1(hs:Nw s)(h:Sc s ws): ∀{l:List Str} (b:Bool),(∀x∈l,vnm x.b=true)->Sc (jnR b l++s) (wdJ b (l.map nmW)++ws)/\Nw (jnR true l++s)
 | [],b,_=>⟨h,hs⟩
 |x::l,b,hl=>by
  have⟨O,T⟩:=Sc.jn1 hs h (l:=l) true λy U=>hl y (a0c _ U)
  have E:=O.pp (jQ (hl x (a0m ..))) T;refine⟨?_,Nw.c e_⟩;rw[a1f,jnR,wdJ];cases b with
  |false=>simpa[nmW] using E
  |true=>have:=E.sp.sym (c:=44) e_;simpa[nmW] using this
theorem Sc.jn2(hs:Nw s)(h:Sc s ws): ∀{l:List ExpT} (b:Bool),eQ l=true->inE.inEs l->Sc (jnR b (ko (fV l))++s) (wdJ b (kR l)++ws)/\Nw (jnR true (ko (fV l))++s)
 | [],b,_,_=>⟨h,hs⟩
 |x::l,b,hw,hi=>by
  rw[eQ,a04]at hw;rw[inE.inEs]at hi;have⟨O,T⟩:=Sc.jn2 hs h (l:=l) true hw.2 hi.2;have E:=oH x hw.1 hi.1 T O;refine⟨?_,Nw.c e_⟩;rw[fV,kR];show Sc (jnR b (⟨fmE x⟩::ko (fV l))++s) _;rw[jnR,wdJ];cases b with
  |false=>simpa using E
  |true=>have:=E.sp.sym (c:=44) e_;simpa using this
def ScS(s:StmT):Prop:=wfS s=true->mM s->∀{ind r:List UInt8} {ws:List Wd},(∀x∈ind,x=32)->Sc r ws->Sc (fmS s ind++r) (wdS s++ws)
theorem sc_l: ∀{l:List StmT},(∀s∈l,ScS s)->dB l=true->inL l->∀{ind r:List UInt8} {ws:List Wd},(∀x∈ind,x=32)->Sc r ws->Sc (eC l ind++r) (wdL l++ws)
 | [],_,_,_,_,_,_,_,k=>by rw[eC,wdL];exact k
 |s::l,h,hw,hi,ind,r,ws,hd,k=>by rw[dB,a04]at hw;rw[inL]at hi;rw[eC,wdL,a0b,a0b];exact h s (a0m ..) hw.1 hi.1 hd (sc_l (λx E=>h x (a0c _ E)) hw.2 hi.2 hd k)
theorem ind_2{ind:List UInt8}(h: ∀x∈ind,x=32): ∀x∈ind++[32,32],x=32:=λx E=>by
 rcases a0f.1 E with E|E
 ·exact h x E
 simpa using E
theorem sc_s(s:StmT):ScS s:=stI (P:=ScS) (λs h1 h2 hw hi ind r ws hd k=>by
 rw[wf_s,a04,a04,wfA,a04]at hw;have⟨⟨⟨a3,wk⟩,wt⟩,we⟩:=hw;have⟨ia,iv,a1,it,ie⟩:=in_s hi;rw[fm_s,wd_s,a0b];refine Sc.sps ?_ hd;have kn:=k.nl;have ks:=kn.sym (c:=59) e_;have kb:=kd_rng wk;have T:=λ{q:List UInt8} {v:List Wd} (k:Sc q v)=>sc_l h1 wt it (ind_2 hd) k
 have E:=λ{q:List UInt8} {v:List Wd} (k:Sc q v)=>sc_l h2 we ie (ind_2 hd) k
 by_cases k1:s.j=1
 ·have⟨w1,U,_⟩:=wf1 k1 wk;rw[fk_1 k1,wk1 k1];have:=((oH s.val U iv (Nw.c e_) ks).op (o:=[61]) e_).sp.pp (jQ w1) (Nw.c e_);simpa using this
 by_cases k2:s.j=2
 ·have⟨w1,U,w3,_⟩:=wf2 k2 wk;rw[fk_2 k2,wk2 k2];have:=((oH s.G2 U ia (Nw.c e_) (((oH s.val w3 iv (Nw.c e_) ks).op (o:=[61]) e_).sp.sym (c:=93) e_)).sym (c:=91) e_).pp (jQ w1) (Nw.c e_);simpa using this
 by_cases Z:s.j=3
 ·have⟨w1,_⟩:=wf3 Z wk;rw[fk_3 Z,wk3 Z];by_cases q:0<Q s.G7
  ·rw[if_pos q,if_pos q];have b1:=(kn.sym (c:=125) e_).sps hd;have b2:=(((E b1).nl.sym (c:=123) e_).sp.pp (w:=[101,108,115,101]) e_ (Nw.c e_)).sp;have O:=(T ((b2.sym (c:=125) e_).sps hd)).nl;have:=(((oH s.val w1 iv (Nw.c e_) ((O.sym (c:=123) e_).sp.sym (c:=41) e_)).sym (c:=40) e_).sp).pp (w:=[105,102]) e_ (Nw.c e_);simpa using this
  rw[if_neg q,if_neg q];have O:=(T ((kn.sym (c:=125) e_).sps hd)).nl;have:=(((oH s.val w1 iv (Nw.c e_) ((O.sym (c:=123) e_).sp.sym (c:=41) e_)).sym (c:=40) e_).sp).pp (w:=[105,102]) e_ (Nw.c e_);simpa using this
 by_cases k4:s.j=4
 ·have⟨w1,_⟩:=wf4 k4 wk;rw[fk_4 k4,wk4 k4];have O:=(T ((kn.sym (c:=125) e_).sps hd)).nl;have:=(((oH s.val w1 iv (Nw.c e_) ((O.sym (c:=123) e_).sp.sym (c:=41) e_)).sym (c:=40) e_).sp).pp (w:=[119,104,105,108,101]) e_ (Nw.c e_);simpa using this
 by_cases k5:s.j=5
 ·have⟨w1,_⟩:=wf5 k5 wk;rw[fk_5 k5,wk5 k5];have:=(oH s.val w1 iv (Nw.c e_) ks).sp.pp (w:=[111,117,116]) e_ (Nw.c e_);simpa using this
 by_cases k6:s.j=6
 ·have⟨w1,U,_⟩:=wf6 k6 wk;rw[fk_6 M M M M M M,wk6 k6];have b:=(Sc.jn2 (Nw.c e_) (ks.sym (c:=41) e_) false a3 a1).1;have:=((((b.sym (c:=40) e_).pp (jQ U) (Nw.c e_)).op (o:=[61]) e_).sp).pp (jQ w1) (Nw.c e_);simpa[jn8] using this
 have⟨w1,_⟩:=wf7 M wk;rw[fk_7 M,wk7 M];have⟨n1,n2⟩:=nat_ok (n:=s.n.toNat) M;have:=(ks.num n1 n2 (Nw.c e_)).sp.pp (w:=[116,114,97,112]) e_ (Nw.c e_);rw[show dI s.n=dec s.n.toNat by unfold dI;rw[if_neg M]];simpa using this) _ s (a07 _)
def inF(f:FunT):Prop:=inL f.G6/\inE f.val
theorem sc_a{a:ArrT}(T:vnm a.pp.b=true)(U:1<=a.len/\a.len<=16)(h:Sc s ws):Sc (arT a++s) (wdAr a++ws):=by have⟨E,O⟩:=nat_ok (n:=a.len.toNat) M;have:=(((h.nl.sym (c:=59) e_).num E O (Nw.c e_)).sp.pp (jQ T) (Nw.c e_)).sp.pp (w:=[97,114,114,97,121]) e_ (Nw.c e_);unfold arT wdAr;rw[show dI a.len=dec a.len.toNat by unfold dI;rw[if_neg M]];simpa using this
theorem sc_f{f:FunT}(hw:wfF f=true)(hi:inF f)(h:Sc s ws):Sc (fnT f++s) (wdFn f++ws):=by
 rw[wf_f,a04,a04,a0r]at hw;have⟨⟨w1,w2⟩,w3⟩:=hw;have hn: ∀x∈[f.pp]++f.A++f.B,vnm x.b=true:=w1;have O:=((h.nl.sym (c:=125) e_).nl.sym (c:=59) e_)
 have T:=(oH f.val w3 hi.2 (Nw.c e_) O).sp.pp (w:=[114,101,116,117,114,110]) e_ (Nw.c e_);have E:=(sc_l (λs _=>sc_s s) w2 hi.1 (ind:=[32,32]) m_ T.sp.sp).nl.sym (c:=123) e_;have U:Sc (lcT f.B++(123::10::(eC f.G6 [32,32]++(32::32::([114,101,116,117,114,110]++(32::(fmE f.val++(59::10::125::10::s)))))))) (wdLc f.B++(3,[123])::(wdL f.G6++(1,[114,101,116,117,114,110])::(wdE f.val++(3,[59])::(3,[125])::ws))):=by
  unfold lcT wdLc;by_cases q:0<Q f.B
  ·rw[if_pos q,if_pos q];have:=(Sc.jn1 (Nw.c e_) E.sp (l:=f.B) false λx hx=>hn x (by simp[hx])).1.sp.pp (w:=[118,97,114]) e_ (Nw.c e_);simpa[jn8] using this
  rw[if_neg q,if_neg q];exact E
 have Z:=((Sc.jn1 (Nw.c e_) (U.sp.sym (c:=41) e_) (l:=f.A) false λx hx=>hn x (by simp[hx])).1.sym (c:=40) e_).pp (w:=f.pp.b) (jQ (hn _ m_)) (Nw.c e_);have:=Z.sp.pp (w:=[102,117,110,99]) e_ (Nw.c e_);unfold fnT wdFn;simpa[jn8] using this
end
section
variable {ts:List Token} {i j:Nat} {r:List Wd}
theorem ei{w v:List UInt8}(h:vnm w=true)(E:v∈pt.mtk):w≠v:=by rintro rfl;unfold vnm ig at h;rw[decide_eq_true E]at h;simp at h
theorem isN_of{w:List UInt8}(h:Dw ts i ((1,w)::r))(E:vnm w=true):isN ts i=true:=by
 rw[h.n];unfold vnm at E;show(decide ((1:Int)=1)&& !ig w)=true
 rw[decide_eq_true V,(Bool.and_eq_true_iff.1 E).2];rfl
theorem small_of{n:Int}(h:Dw ts i ((2,dec n.toNat)::r))(E:0<=n/\n<=1000000):i7 ts i= .ok (n,i+1):=by
 have O:numV ts i=some n:=by unfold numV;rw[show(Y ts i default).D.b=dec n.toNat from h.t,num_d M];congr 1;omega
 unfold i7;rw[O,h.m];show(if(decide ((2:Int)=2)&&true&&decide (n<=1000000))=true then _ else _)=_;rw[decide_eq_true V,decide_eq_true E.2];rfl
theorem stp_j{b:Bool}{l:List (List Wd)}{r:List Wd}(hb:b=true)(h:Stp r):Stp (wdJ b l++r):=by
 subst hb;cases l with
 |nil=>exact h
 |cons x l=>exact .c e_
theorem wde_hd(e:ExpT):wfE e=true->∃k w r,wdE e=(k,w)::r/\(k≠3\/w∈[[40],[45],[126]]):=exI (P:=λe=>wfE e=true->∃k w r,wdE e=(k,w)::r/\(k≠3\/w∈[[40],[45],[126]])) (λe ih hw=>by
 have⟨hk,hn⟩:=ft hw;have kid: ∀{q:Nat} {m:Bool} (t:List Wd),q<Q e.I->∃k w r,wdF (Y e.I q default) m (wdE (Y e.I q default))++t=(k,w)::r/\(k≠3\/w∈[[40],[45],[126]]):=λt h=>by
  unfold wdF;split
  ·exact⟨3,_,_,V,.inr e_⟩
  have⟨k,w,r,e1,e2⟩:=ih _ (cr h) (i6 hk h);exact⟨k,w,_,by rw[e1];rfl,e2⟩
 by_cases h1:e.j=1
 ·rw[wd_1 h1];unfold wdN;split
  ·exact⟨3,_,_,V,.inr e_⟩
  exact⟨2,_,_,V,.inl e_⟩
 by_cases h2:e.j=2
 ·rw[wd_2 h2];exact⟨1,_,_,V,.inl e_⟩
 by_cases T:e.j=3
 ·rw[wd_3 T (wfN_3 T hn).1];exact⟨1,_,_,V,.inl e_⟩
 by_cases Z:e.j=5
 ·have c:=wfN_5 Z hn;rw[wd_5 Z c];exact kid _ M
 have⟨U,q1,q2⟩:=wfN_4 h1 h2 T Z hn;by_cases E:e.op=20
 ·rw[wd_n U E (q2 (.inl E))];exact⟨3,_,_,V,.inr e_⟩
 by_cases O:e.op=21
 ·rw[wd_t U O (q2 (.inr O))];exact⟨3,_,_,V,.inr e_⟩
 have c:=(q1 ⟨E,O⟩).1;rw[wd_b U E O c];exact kid _ M) _ e (a07 _)
theorem hd_ne{w:List UInt8}{r:List Wd}(h:w≠ [40]):hdW ((3,w)::r)≠(3,[40]):=λq=>h (show w=[40] from congrArg Prod.snd q)
theorem nocall(e:ExpT):wfE e=true->∀(r:List Wd),hdW r≠(3,[40])->∀w y,wdE e++r=(1,w)::y->hdW y≠(3,[40]):=exI (P:=λe=>wfE e=true->∀(r:List Wd),hdW r≠(3,[40])->∀w y,wdE e++r=(1,w)::y->hdW y≠(3,[40])) (λe ih hw r hr w y he=>by
 have⟨hk,hn⟩:=ft hw;have kid: ∀{q:Nat} {m:Bool} (t:List Wd),q<Q e.I->hdW t≠(3,[40])->wdF (Y e.I q default) m (wdE (Y e.I q default))++t=(1,w)::y->hdW y≠(3,[40]):=λt h ht he=>by
  unfold wdF at he;split at he
  ·injection he with E _;injection E with E _;exact absurd E e_
  exact ih _ (cr h) (i6 hk h) t ht w y he
 by_cases h1:e.j=1
 ·rw[wd_1 h1]at he;unfold wdN at he;split at he
  ·injection he with E _;injection E with E _;exact absurd E e_
  injection he with E _;injection E with E _;exact absurd E e_
 by_cases h2:e.j=2
 ·rw[wd_2 h2]at he;injection he with _ U;rw[←U];exact hr
 by_cases Z:e.j=3
 ·rw[wd_3 Z (wfN_3 Z hn).1]at he;injection he with _ U;rw[←U];exact hd_ne e_
 by_cases h5:e.j=5
 ·have c:=wfN_5 h5 hn;rw[wd_5 h5 c,a0b]at he;exact kid _ M (hd_ne e_) he
 have⟨h4,q1,q2⟩:=wfN_4 h1 h2 Z h5 hn;by_cases O:e.op=20
 ·rw[wd_n h4 O (q2 (.inl O))]at he;injection he with E _;injection E with E _;exact absurd E e_
 by_cases T:e.op=21
 ·rw[wd_t h4 T (q2 (.inr T))]at he;injection he with E _;injection E with E _;exact absurd E e_
 have⟨c,ho⟩:=q1 ⟨O,T⟩;rw[wd_b h4 O T c,a0b]at he;refine kid _ M (hd_ne λq=>?_) he;have:=opX_mem ho;rw[q]at this;revert this;decide) _ e (a07 _)
theorem pa_argl: ∀{l:List ExpT} {l0:List ExpT} {i:Nat},eQ l=true->inE.inEs l->Dw ts i (wdJ true (kR l)++(3,[41])::r)->Lim (λn=>argL ts n l0 i) (.ok (l0++l,i+Q (wdJ true (kR l))+1))
 | [],l0,i,_,_,d=>by
  rw[kR,wdJ]at d⊢;have d:Dw ts i ((3,[41])::r):=d;refine Lim.Gj ?_ λn=>by rw[argL,if_neg (by rw[d.nosy (.inr e_)];decide)]
  rw[d.exp,a0k];exact .Gk _
 |x::l,l0,i,hw,hi,d=>by
  rw[eQ,a04]at hw;rw[inE.inEs]at hi;rw[kR,wdJ]at d⊢;have d0:Dw ts i ((3,[44])::(wdE x++(wdJ true (kR l)++(3,[41])::r))):=by simpa using d
  have E:=d0.tl;have p:=pa_ex x hw.1 hi.1 (stp_j V (.c e_)) E;have q:=pa_argl (l0:=l0++[x]) hw.2 hi.2 E.app;refine Lim.Gj (.seq p ?_) λn=>by rw[argL,if_pos d0.sy]
  rw[a0b]at q;simp only[if_true,a00,a02,a03];rw[show ∀a b:Nat,i+(0+1+(a+b))+1=i+1+a+b+1 by intros;omega];exact q
theorem pa_args{l:List ExpT}(Z:eQ l=true)(hi:inE.inEs l)(d:Dw ts i ((3,[40])::(wdJ false (kR l)++(3,[41])::r))):Lim (λn=>argM ts n i) (.ok (l,i+1+Q (wdJ false (kR l))+1)):=by
 have E:=d.tl;unfold argM;rw[d.exp];refine .seq (.Gk _) ?_;cases l with
 |nil=>
  rw[kR,wdJ]at E⊢
  have E:Dw ts (i+1) ((3,[41])::r):=E
  show Lim (λn=>if isS ts (i+1) [41]=true then _ else _) _
  rw[E.sy];exact .Gk _
 |cons x l=>
  rw[eQ,a04]at Z
  rw[inE.inEs]at hi
  rw[kR,wdJ]at E⊢
  have O:Dw ts (i+1) (wdE x++(wdJ true (kR l)++(3,[41])::r)):=by simpa using E
  have p:=pa_ex x Z.1 hi.1 (stp_j V (.c e_)) O
  have q:=pa_argl (l0:=[x]) Z.2 hi.2 O.app
  have⟨w,v,rr,T,U⟩:=wde_hd x Z.1
  have k:isS ts (i+1) [41]=false:=by rw[T]at O;refine Dw.nosy O (U.imp id λq e=>?_);rw[e]at q;revert q;decide
  show Lim (λn=>if isS ts (i+1) [41]=true then _ else _) _
  rw[k]
  refine .seq p ?_
  simp only[a0j,if_false,a0o,a00]
  rw[show ∀a b:Nat,i+1+(a+b)+1=i+1+a+b+1 by intros;omega]
  exact q
theorem oF{w:List UInt8}(E:vnm w=true)(d:Dw ts i ((1,w)::r))(n:Nat):simM ts n i=(if isS ts (i+1) [91] then bnd (ev ts n (i+1+1)) λa i=>bnd (i4 ts [93] i) λ_ i=>bnd (i4 ts [61] i) λ_ i=>bnd (ev ts n i) λv i=> .ok (mkS 2 ⟨w⟩ bP 0 a v [] [] [],i)
  else bnd (i4 ts [61] (i+1)) λ_ i=>if isN ts i&&isS ts (i+1) [40] then bnd (iZ ts i) λf i=>bnd (argM ts n i) λl i=> .ok (mkS 6 ⟨w⟩ f 0 zE zE l [] [],i)
   else bnd (ev ts n i) λv i=> .ok (mkS 1 ⟨w⟩ bP 0 zE v [] [] [],i)):=by
 unfold simM
 rw[d.nokey (.inr (ei E e_)),d.nokey (.inr (ei E e_)),d.pp E];rfl
theorem pa_sim{s:StmT}(hk:s.j=1\/s.j=2\/s.j=5\/s.j=6\/s.j=7)(hw:wfS s=true)(hi:mM s){w:List Wd}(e:wdS s=w++[(3,[59])])(d:Dw ts i (w++(3,[59])::r)):Lim (λn=>simM ts n i) (.ok (s,i+Q w)):=by
 rw[wf_s,a04,a04,wfA,a04]at hw;have⟨⟨⟨a2,wk⟩,_⟩,_⟩:=hw;have⟨ia,iv,a1,_,_⟩:=in_s hi;rw[wd_s]at e;rcases hk with k|k|k|k|k
 ·have⟨w1,O,w3⟩:=wf1 k wk;rw[wk1 k]at e;obtain rfl:(1,s.pp.b)::(3,[61])::wdE s.val=w:=a1p (bs:=[(3,[59])]) (by simpa using e);have d0:Dw ts i ((1,s.pp.b)::(3,[61])::(wdE s.val++(3,[59])::r)):=d;have T:=d0.tl;have E:=T.tl;have p:=pa_ex s.val O iv (.c e_) E;have hz:(isN ts (i+1+1)&&isS ts (i+1+1+1) [40])=false:=by
   have⟨kk,vv,rr,Z,e2⟩:=wde_hd s.val O;by_cases k1:kk=1
   ·subst k1;have U:Dw ts (i+1+1) ((1,vv)::(rr++(3,[59])::r)):=by rw[Z]at E;exact E
    have:=nocall s.val O ((3,[59])::r) (hd_ne e_) vv (rr++(3,[59])::r) (by rw[Z];rfl);rw[U.tl.s];cases q:decide ((hdW (rr++(3,[59])::r)).1=3) with
    |false=>rw[Bool.false_and,a1a]
    |true=>rw[decide_eq_false (λz=>this (Prod.ext (of_decide_eq_true q) z))];simp
   have U:Dw ts (i+1+1) ((kk,vv)::(rr++(3,[59])::r)):=by rw[Z]at E;exact E
   rw[U.n];show((decide (kk=1)&&_)&&_)=false
   rw[decide_eq_false k1];rfl
  refine lim_eq ?_ (funext λn=>oF w1 d0 n);rw[T.nosy (.inr e_),T.exp];show Lim (λn=>if(isN ts (i+1+1)&&isS ts (i+1+1+1) [40])=true then _ else _) _;rw[hz];refine .seq p ?_;rw[show i+Q ((1,s.pp.b)::(3,[61])::wdE s.val)=i+1+1+(Q (wdE s.val)) by simp;omega];show Lim (λ_=> .ok (mkS 1 ⟨s.pp.b⟩ bP 0 zE s.val [] [] [],_)) _;rw[w3];exact .Gk _
 ·have⟨w1,O,w3,w4⟩:=wf2 k wk;rw[wk2 k]at e;obtain rfl:(1,s.pp.b)::(3,[91])::(wdE s.G2++(3,[93])::(3,[61])::wdE s.val)=w:=a1p (bs:=[(3,[59])]) (by simpa using e);have d0:Dw ts i ((1,s.pp.b)::(3,[91])::(wdE s.G2++(3,[93])::(3,[61])::(wdE s.val++(3,[59])::r))):=by simpa using d
  have T:=d0.tl;have E:=T.tl;have p:=pa_ex s.G2 O ia (.c e_) E;have U:=E.app;have q:=pa_ex s.val w3 iv (.c e_) U.tl.tl;refine lim_eq ?_ (funext λn=>oF w1 d0 n);rw[T.sy];refine .seq p ?_;rw[U.exp];refine .seq (.Gk _) ?_;rw[U.tl.exp];refine .seq (.Gk _) (.seq q ?_);show Lim (λ_=> .ok (mkS 2 ⟨s.pp.b⟩ bP 0 s.G2 s.val [] [] [],_)) _;rw[w4,show i+Q ((1,s.pp.b)::(3,[91])::(wdE s.G2++(3,[93])::(3,[61])::wdE s.val))=i+1+1+Q (wdE s.G2)+1+1+(Q (wdE s.val)) by simp;omega];exact .Gk _
 ·have⟨w1,O⟩:=wf5 k wk;rw[wk5 k]at e;obtain rfl:(1,[111,117,116])::wdE s.val=w:=a1p (bs:=[(3,[59])]) (by simpa using e);have d0:Dw ts i ((1,[111,117,116])::(wdE s.val++(3,[59])::r)):=d;have p:=pa_ex s.val w1 iv (.c e_) d0.tl;refine lim_eq (.seq p ?_) (funext λn=>by unfold simM;rw[d0.key];rfl);show Lim (λ_=> .ok (mkS 5 bP bP 0 zE s.val [] [] [],_)) _;rw[O,show i+Q ((1,[111,117,116])::wdE s.val)=i+1+(Q (wdE s.val)) by simp;omega];exact .Gk _
 ·have⟨w1,O,w3⟩:=wf6 k wk;rw[wk6 k]at e;obtain rfl:(1,s.pp.b)::(3,[61])::(1,s.K.b)::(3,[40])::(wdJ false (kR s.y)++[(3,[41])])=w:=a1p (bs:=[(3,[59])]) (by simpa using e);have d0:Dw ts i ((1,s.pp.b)::(3,[61])::(1,s.K.b)::(3,[40])::(wdJ false (kR s.y)++(3,[41])::(3,[59])::r)):=by simpa using d
  have T:=d0.tl;have E:=T.tl;have U:=E.tl;have p:=pa_args a2 a1 U;refine lim_eq ?_ (funext λn=>oF w1 d0 n);rw[T.nosy (.inr e_),T.exp];show Lim (λn=>if(isN ts (i+1+1)&&isS ts (i+1+1+1) [40])=true then _ else _) _;rw[isN_of E O,U.sy,E.pp O];refine .seq p ?_;show Lim (λ_=> .ok (mkS 6 ⟨s.pp.b⟩ ⟨s.K.b⟩ 0 zE zE s.y [] [],_)) _;rw[w3,show i+Q ((1,s.pp.b)::(3,[61])::(1,s.K.b)::(3,[40])::(wdJ false (kR s.y)++[(3,[41])]))=i+1+1+1+1+Q (wdJ false (kR s.y))+1 by simp;omega];exact .Gk _
 have⟨w1,O⟩:=wf7 k wk;rw[wk7 k]at e;obtain rfl:[(1,[116,114,97,112]),(2,dec s.n.toNat)]=w:=a1p (bs:=[(3,[59])]) (by simpa using e);have d0:Dw ts i ((1,[116,114,97,112])::(2,dec s.n.toNat)::(3,[59])::r):=d;refine lim_eq (g:=λ_=> .ok (s,i+2)) (.Gk _) (funext λn=>?_);unfold simM;rw[d0.nokey (.inr e_),d0.key,small_of d0.tl w1];show Except.ok (mkS 7 bP bP s.n zE zE [] [] [],i+1+1)=_;rw[O]
theorem wfS_p{s:StmT}(E:wfS s=true):wfK s=true/\dB s.G4=true/\dB s.G7=true:=by rw[wf_s,a04,a04,wfA,a04]at E;exact⟨E.1.1.2,E.1.2,E.2⟩
def Nel(r:List Wd):Prop:=hdW r≠(1,[101,108,115,101])
theorem Nel.k(h:Nel r)(d:Dw ts i r):isK ts i [101,108,115,101]=false:=by
 rw[d.kw];cases q:decide ((hdW r).1=1) with
 |false=>rfl
 |true=>rw[a1b];exact decide_eq_false λz=>h (Prod.ext (of_decide_eq_true q) z)
theorem Nel.s{w:List UInt8}:Nel ((3,w)::r):=λq=>absurd (show(3:Int)=1 from congrArg Prod.fst q) e_
theorem Nel.w{w:List UInt8}(h:w≠ [101,108,115,101]):Nel ((1,w)::r):=λq=>h (show w=_ from congrArg Prod.snd q)
theorem wds_hd{s:StmT}(Z:wfS s=true): ∃w t,wdS s=(1,w)::t/\w≠ [101,108,115,101]/\w≠ [114,101,116,117,114,110]:=by
 have⟨wk,_,_⟩:=wfS_p Z;have kb:=kd_rng wk;rw[wd_s];by_cases k1:s.j=1
 ·rw[wk1 k1];exact⟨_,_,V,ei (wf1 k1 wk).1 e_,ei (wf1 k1 wk).1 e_⟩
 by_cases k2:s.j=2
 ·rw[wk2 k2];exact⟨_,_,V,ei (wf2 k2 wk).1 e_,ei (wf2 k2 wk).1 e_⟩
 by_cases O:s.j=3
 ·rw[wk3 O];exact⟨_,_,V,by decide,by decide⟩
 by_cases T:s.j=4
 ·rw[wk4 T];exact⟨_,_,V,by decide,by decide⟩
 by_cases U:s.j=5
 ·rw[wk5 U];exact⟨_,_,V,by decide,by decide⟩
 by_cases E:s.j=6
 ·rw[wk6 E];exact⟨_,_,V,ei (wf6 E wk).1 e_,ei (wf6 E wk).1 e_⟩
 rw[wk7 M];exact⟨_,_,V,by decide,by decide⟩
theorem nel_l{l:List StmT}(O:dB l=true)(h:Nel r):Nel (wdL l++r):=by
 cases l with
 |nil=>exact h
 |cons s l=>
  rw[dB,a04]at O
  have⟨w,t,e,E,_⟩:=wds_hd O.1
  rw[wdL,e];exact Nel.w E
theorem pa_cond{e:ExpT}(O:wfE e=true)(hi:inE e)(d:Dw ts i ((3,[40])::(wdE e++(3,[41])::r))):Lim (λn=>condM ts n i) (.ok (e,i+1+Q (wdE e)+1)):=by have E:=d.tl;unfold condM;rw[d.exp];refine .seq (.Gk _) (.seq (pa_ex e O hi (.c e_) E) ?_);rw[E.app.exp];exact .Gk _
def PaS(ts:List Token)(s:StmT):Prop:=wfS s=true->mM s->∀{i:Nat} {r:List Wd},Nel r->Dw ts i (wdS s++r)->Lim (λn=>stmM ts n i) (.ok (s,i+Q (wdS s)))
theorem pa_l: ∀{l:List StmT} {l0:List StmT} {i:Nat},(∀s∈l,PaS ts s)->dB l=true->inL l->Dw ts i (wdL l++(3,[125])::r)->Lim (λn=>stsM ts n l0 i) (.ok (l0++l,i+Q (wdL l)+1))
 | [],l0,i,_,_,_,d=>by
  rw[wdL]at d⊢;have d:Dw ts i ((3,[125])::r):=d;refine Lim.Gj ?_ λn=>by rw[stsM,if_pos d.sy]
  rw[a0k];exact .Gk _
 |s::l,l0,i,h,hw,hi,d=>by
  rw[dB,a04]at hw;rw[inL]at hi;rw[wdL]at d⊢;have d0:Dw ts i (wdS s++(wdL l++(3,[125])::r)):=by simpa using d
  have p:=h s (a0m ..) hw.1 hi.1 (nel_l hw.2 .s) d0;have q:=pa_l (l0:=l0++[s]) (λx E=>h x (a0c _ E)) hw.2 hi.2 d0.app;have⟨w,t,e,_,_⟩:=wds_hd hw.1;have k:isS ts i [125]=false:=by rw[e]at d0;exact Dw.nosy d0 (.inl e_)
  refine Lim.Gj (.seq p ?_) λn=>by rw[stsM,if_neg (by rw[k];decide)]
  rw[a00,←a0C];rw[a0b]at q;exact q
theorem pa_b{l:List StmT}(h: ∀s∈l,PaS ts s)(E:dB l=true)(hi:inL l)(d:Dw ts i ((3,[123])::(wdL l++(3,[125])::r))):Lim (λn=>blkM ts n i) (.ok (l,i+1+Q (wdL l)+1)):=by have q:=pa_l (l0:=[]) h E hi d.tl;exact Lim.Gj q λn=>by rw[blkM,d.exp];rfl
theorem pa_s(s:StmT):PaS ts s:=stI (P:=PaS ts) (λs h1 h2 hw hi i r hr d=>by
 have⟨wk,wt,we⟩:=wfS_p hw;have⟨ia,iv,bf,it,ie⟩:=in_s hi;have kb:=kd_rng wk;by_cases k3:s.j=3
 ·have⟨w1,w2⟩:=wf3 k3 wk;rw[wd_s,wk3 k3]at d⊢;have d0:Dw ts i ((1,[105,102])::(3,[40])::(wdE s.val++(3,[41])::(3,[123])::(wdL s.G4++(3,[125])::((if 0<Q s.G7 then(1,[101,108,115,101])::(3,[123])::(wdL s.G7++[(3,[125])]) else [])++r)))):=by simpa using d
  have O:=d0.tl;have p:=pa_cond w1 iv O;have d2:=(O.tl.app).tl;have q:=pa_b h1 wt it d2;have T:=(d2.tl.app).tl;generalize hj:i+1+1+Q (wdE s.val)+1+1+Q (wdL s.G4)+1=j at T q;refine Lim.Gj (.seq p (.seq q ?_)) λn=>by rw[stmM,if_pos d0.key]
  by_cases c:0<Q s.G7
  ·rw[if_pos c]at T⊢;have Z:Dw ts j ((1,[101,108,115,101])::(3,[123])::(wdL s.G7++(3,[125])::r)):=by simpa using T
   rw[Z.key];refine .seq (pa_b h2 we ie Z.tl) ?_;show Lim (λ_=> .ok (mkS 3 bP bP 0 zE s.val [] s.G4 s.G7,_)) _;rw[w2];simp only[a00,a02,a03];rw[show ∀a b c:Nat,i+(a+(b+(c+(0+1)+1+1+1)+1+1)+1+1)=i+1+1+a+1+1+b+1+1+1+c+1 by intros;omega,hj];exact .Gk _
  rw[if_neg c]at T⊢;have Z:Dw ts j r:=T;rw[hr.k Z];show Lim (λ_=> .ok (mkS 3 bP bP 0 zE s.val [] s.G4 [],_)) _;rw[show mkS 3 bP bP 0 zE s.val [] s.G4 []=s by rw[←a0e (show Q s.G7=0 by omega)];exact w2];simp only[a00,a02,a03];rw[show ∀a b:Nat,i+(a+(b+(0+1)+1+1)+1+1)=i+1+1+a+1+1+b+1 by intros;omega,hj];exact .Gk _
 by_cases k4:s.j=4
 ·have⟨w1,w2⟩:=wf4 k4 wk;rw[wd_s,wk4 k4]at d⊢;have d0:Dw ts i ((1,[119,104,105,108,101])::(3,[40])::(wdE s.val++(3,[41])::(3,[123])::(wdL s.G4++(3,[125])::r))):=by simpa using d
  have O:=d0.tl;have p:=pa_cond w1 iv O;have q:=pa_b h1 wt it (O.tl.app).tl;refine Lim.Gj (.seq p (.seq q ?_)) λn=>by rw[stmM,if_neg (by rw[d0.nokey (.inr e_)];decide),if_pos d0.key]
  show Lim (λ_=> .ok (mkS 4 bP bP 0 zE s.val [] s.G4 [],_)) _;rw[w2];simp only[a00,a02,a03];rw[show ∀a b:Nat,i+(a+(b+(0+1)+1+1)+1+1)=i+1+1+a+1+1+b+1 by intros;omega];exact .Gk _
 obtain⟨w,e⟩: ∃w,wdS s=w++[(3,[59])]:=by
  rw[wd_s];by_cases k1:s.j=1
  ·rw[wk1 k1];exact⟨(1,s.pp.b)::(3,[61])::wdE s.val,by simp⟩
  by_cases k2:s.j=2
  ·rw[wk2 k2];exact⟨(1,s.pp.b)::(3,[91])::(wdE s.G2++(3,[93])::(3,[61])::wdE s.val),by simp⟩
  by_cases k5:s.j=5
  ·rw[wk5 k5];exact⟨(1,[111,117,116])::wdE s.val,by simp⟩
  by_cases U:s.j=6
  ·rw[wk6 U];exact⟨(1,s.pp.b)::(3,[61])::(1,s.K.b)::(3,[40])::(wdJ false (kR s.y)++[(3,[41])]),by simp⟩
  rw[wk7 M];exact⟨[_,_],V⟩
 have d0:Dw ts i (w++(3,[59])::r):=by rw[e]at d;simpa using d
 have p:=pa_sim M hw hi e d0;have⟨v,t,E,_,_⟩:=wds_hd hw;have hv:v≠ [105,102]/\v≠ [119,104,105,108,101]:=by
  rw[wd_s]at E;by_cases k1:s.j=1
  ·rw[wk1 k1]at E;injection E with E _;injection E with _ E;rw[←E];exact⟨ei (wf1 k1 wk).1 e_,ei (wf1 k1 wk).1 e_⟩
  by_cases k2:s.j=2
  ·rw[wk2 k2]at E;injection E with E _;injection E with _ E;rw[←E];exact⟨ei (wf2 k2 wk).1 e_,ei (wf2 k2 wk).1 e_⟩
  by_cases k5:s.j=5
  ·rw[wk5 k5]at E;injection E with E _;injection E with _ E;rw[←E];decide
  by_cases U:s.j=6
  ·rw[wk6 U]at E;injection E with E _;injection E with _ E;rw[←E];exact⟨ei (wf6 U wk).1 e_,ei (wf6 U wk).1 e_⟩
  rw[wk7 M]at E;injection E with E _;injection E with _ E;rw[←E];decide
 rw[E]at d;have O:Dw ts i ((1,v)::(t++r)):=d;refine Lim.Gj (.seq p ?_) λn=>by rw[stmM,if_neg (by rw[O.nokey (.inr hv.1)];decide),if_neg (by rw[O.nokey (.inr hv.2)];decide)]
 rw[d0.app.exp,e,a00,show i+(Q w+Q [((3:Int),([59]:List UInt8))])=i+Q w+1 from rfl];exact .Gk _) _ s (a07 _)
theorem pa_namL: ∀{l l0:List Str} {i:Nat},(∀x∈l,vnm x.b=true)->hdW r≠(3,[44])->Dw ts i (wdJ true (l.map nmW)++r)->Lim (λn=>namL ts n l0 i) (.ok (l0++l,i+Q (wdJ true (l.map nmW))))
 | [],l0,i,_,hr,d=>by
  have d:Dw ts i r:=d;have k:isS ts i [44]=false:=by
   rw[d.s];cases q:decide ((hdW r).1=3) with
   |false=>rfl
   |true=>rw[a1b];exact decide_eq_false λz=>hr (Prod.ext (of_decide_eq_true q) z)
  refine Lim.Gj ?_ λn=>by rw[namL,if_neg (by rw[k];decide)]
  rw[a0k];exact .Gk _
 |x::l,l0,i,hl,hr,d=>by
  have d0:Dw ts i ((3,[44])::(1,x.b)::(wdJ true (l.map nmW)++r)):=d;have q:=pa_namL (l0:=l0++[x]) (λy E=>hl y (a0c _ E)) hr d0.tl.tl;refine Lim.Gj ?_ λn=>by rw[namL,if_pos d0.sy]
  rw[d0.tl.pp (hl x (a0m ..))];rw[a0b]at q;rw[show i+Q (wdJ true ((x::l).map nmW))=i+1+1+(Q (wdJ true (l.map nmW))) by rw[a1f,wdJ];simp[nmW];omega];exact q
theorem pa_nam{x:Str}{l:List Str}(E: ∀y∈x::l,vnm y.b=true)(O:hdW r≠(3,[44]))(d:Dw ts i (wdJ false ((x::l).map nmW)++r)):Lim (λn=>namM ts n i) (.ok (x::l,i+Q (wdJ false ((x::l).map nmW)))):=by
 have d0:Dw ts i ((1,x.b)::(wdJ true (l.map nmW)++r)):=d;have q:=pa_namL (l0:=[x]) (λy T=>E y (a0c _ T)) O d0.tl;unfold namM;rw[d0.pp (E x (a0m ..)),show i+Q (wdJ false ((x::l).map nmW))=i+1+(Q (wdJ true (l.map nmW))) by
  rw[a1f,wdJ];simp[nmW];omega]
 exact q
theorem pa_bod: ∀{l l0:List StmT} {i:Nat},dB l=true->inL l->Dw ts i (wdL l++(1,[114,101,116,117,114,110])::r)->Lim (λn=>nu ts n l0 i) (.ok (l0++l,i+Q (wdL l)+1))
 | [],l0,i,_,_,d=>by
  rw[wdL]at d⊢;have d:Dw ts i ((1,[114,101,116,117,114,110])::r):=d;refine Lim.Gj ?_ λn=>by rw[nu,if_pos d.key]
  rw[a0k];exact .Gk _
 |s::l,l0,i,hw,hi,d=>by
  rw[dB,a04]at hw;rw[inL]at hi;rw[wdL]at d⊢;have d0:Dw ts i (wdS s++(wdL l++(1,[114,101,116,117,114,110])::r)):=by simpa using d
  have p:=pa_s s hw.1 hi.1 (nel_l hw.2 (.w e_)) d0;have q:=pa_bod (l0:=l0++[s]) hw.2 hi.2 d0.app;have⟨w,t,e,_,E⟩:=wds_hd hw.1;have k:isK ts i [114,101,116,117,114,110]=false:=by rw[e]at d0;exact Dw.nokey d0 (.inr E)
  refine Lim.Gj (.seq p ?_) λn=>by rw[nu,if_neg (by rw[k];decide)]
  rw[a00,←a0C];rw[a0b]at q;exact q
theorem hd_nc{k:Int}{w:List UInt8}{r:List Wd}(h:w≠ [44]):hdW ((k,w)::r)≠(3,[44]):=λq=>h (show w=[44] from congrArg Prod.snd q)
theorem pa_f{f:FunT}(hw:wfF f=true)(hi:inF f)(d:Dw ts i (wdFn f++r)):isK ts i [97,114,114,97,121]=false/\isK ts i [102,117,110,99]=true/\Lim (λn=>funM ts n (i+1)) (.ok (f,i+Q (wdFn f))):=by
 rw[wf_f,a04,a04,a0r]at hw;have⟨⟨w1,w2⟩,w3⟩:=hw;have hn: ∀x∈[f.pp]++f.A++f.B,vnm x.b=true:=w1;have d0:Dw ts i ((1,[102,117,110,99])::(1,f.pp.b)::(3,[40])::(wdJ false (f.A.map nmW)++(3,[41])::(wdLc f.B++(3,[123])::(wdL f.G6++(1,[114,101,116,117,114,110])::(wdE f.val++(3,[59])::(3,[125])::r))))):=by unfold wdFn at d;simpa using d
 refine⟨d0.nokey (.inr e_),d0.key,?_⟩;have U:=d0.tl;have Z:=U.tl;have O:=Z.tl;have d4:=O.app;have E:=d4.tl;have d6:=E.app;have d7:=d6.tl;have b:=pa_bod (l0:=[]) w2 hi.1 d7;have d8:=d7.app.tl;have v:=pa_ex f.val w3 hi.2 (.c e_) d8;have d9:=d8.app;have hp:Lim (λn=>if isS ts (i+1+1+1) [41] then .ok (([]:List Str),i+1+1+1) else namM ts n (i+1+1+1)) (.ok (f.A,i+1+1+1+Q (wdJ false (f.A.map nmW)))):=by
  cases hq:f.A with
  |nil=>
   rw[hq]at O
   have O:Dw ts (i+1+1+1) ((3,[41])::_):=O
   rw[O.sy];exact .Gk _
  |cons x l=>
   rw[hq]at O
   have hl: ∀y∈x::l,vnm y.b=true:=λy hy=>hn y (by rw[hq];simp only[a0f];exact .inl (.inr hy))
   have al:Dw ts (i+1+1+1) ((1,x.b)::_):=O
   rw[al.nosy (.inl e_)]
   exact pa_nam hl (hd_nc e_) O
 have hl:Lim (λn=>if isK ts (i+1+1+1+Q (wdJ false (f.A.map nmW))+1) [118,97,114] then namM ts n (i+1+1+1+Q (wdJ false (f.A.map nmW))+1+1) else .ok (([]:List Str),i+1+1+1+Q (wdJ false (f.A.map nmW))+1)) (.ok (f.B,i+1+1+1+Q (wdJ false (f.A.map nmW))+1+Q (wdLc f.B))):=by
  cases hq:f.B with
  |nil=>
   rw[hq]at E
   have E:Dw ts _ ((3,[123])::_):=E
   rw[E.nokey (.inl e_)];exact .Gk _
  |cons x l=>
   rw[hq]at E
   have hl: ∀y∈x::l,vnm y.b=true:=λy hy=>hn y (by rw[hq];simp only[a0f];exact .inr hy)
   have T:Dw ts (i+1+1+1+Q (wdJ false (f.A.map nmW))+1) ((1,[118,97,114])::(wdJ false ((x::l).map nmW)++(3,[123])::(wdL f.G6++(1,[114,101,116,117,114,110])::(wdE f.val++(3,[59])::(3,[125])::r)))):=by unfold wdLc at E;rw[if_pos m_]at E;exact E
   rw[T.key]
   have:=pa_nam hl (hd_nc e_) T.tl
   rw[show(wdLc (x::l)).length=1+(Q (wdJ false ((x::l).map nmW))) by unfold wdLc;rw[if_pos m_,a02,Nat.add_comm],←a0C]
   exact this
 unfold funM;rw[U.pp (hn _ m_)];refine .seq (.Gk _) ?_;rw[Z.exp];refine .seq (.Gk _) (.seq hp ?_);rw[d4.exp];refine .seq (.Gk _) (.seq hl ?_);rw[d6.exp];refine .seq (.Gk _) (.seq b (.seq v ?_));rw[d9.exp];refine .seq (.Gk _) ?_;rw[d9.tl.exp];have e:i+Q (wdFn f)=i+1+1+1+Q (wdJ false (f.A.map nmW))+1+Q (wdLc f.B)+1+Q (wdL f.G6)+1+Q (wdE f.val)+1+1:=by unfold wdFn;simp only[a00,a02,a03];omega
 rw[e];exact .Gk _
theorem pa_a{a:ArrT}(E:vnm a.pp.b=true)(O:1<=a.len/\a.len<=16)(d:Dw ts i (wdAr a++r)):isK ts i [97,114,114,97,121]=true/\iZ ts (i+1)= .ok (a.pp,i+1+1)/\i7 ts (i+1+1)= .ok (a.len,i+1+1+1)/\i4 ts [59] (i+1+1+1)= .ok ((),i+1+1+1+1):=by have d0:Dw ts i ((1,[97,114,114,97,121])::(1,a.pp.b)::(2,dec a.len.toNat)::(3,[59])::r):=d;exact⟨d0.key,d0.tl.pp E,small_of d0.tl.tl M,d0.tl.tl.tl.exp⟩
theorem dw_lt{x:Wd}(d:Dw ts i (x::r)):i<Q ts:=by
 rcases a0p i (Q ts) with h|h
 ·exact h
 unfold Dw at d;rw[a0Z h]at d;cases d
theorem pr_a{a:ArrT}{a0:List ArrT}{f0:List FunT}{R:Rs (List ArrT×List FunT)}(hn:vnm a.pp.b=true)(Z:1<=a.len/\a.len<=16)(d:Dw ts i (wdAr a++r))(h:Lim (λn=>kH ts n (a0++[a]) f0 (i+Q (wdAr a))) R):Lim (λn=>kH ts n a0 f0 i) R:=by
 have⟨E,O,T,U⟩:=pa_a hn Z d;have hi:i<Q ts:=dw_lt (x:=(1,[97,114,114,97,121])) d;refine Lim.Gj ?_ λn=>by rw[kH,if_neg M,if_pos E]
 rw[O];refine .seq (.Gk _) ?_;rw[T];refine .seq (.Gk _) ?_;rw[U];exact .seq (.Gk _) h
theorem pr_f{f:FunT}{a0:List ArrT}{f0:List FunT}{R:Rs (List ArrT×List FunT)}(Z:wfF f=true)(U:inF f)(d:Dw ts i (wdFn f++r))(h:Lim (λn=>kH ts n a0 (f0++[f]) (i+Q (wdFn f))) R):Lim (λn=>kH ts n a0 f0 i) R:=by
 have⟨E,O,T⟩:=pa_f Z U d;have hi:i<Q ts:=dw_lt (x:=(1,[102,117,110,99])) d;refine Lim.Gj ?_ λn=>by rw[kH,if_neg M,if_neg (by rw[E];decide)]
 rw[show keyM ts [102,117,110,99] i= .ok ((),i+1) by unfold keyM;rw[if_pos O]];exact .seq (.Gk _) (.seq T h)
theorem pr_e{a0:List ArrT}{f0:List FunT}(d:Dw ts i [])(hi:i<=Q ts):Lim (λn=>kH ts n a0 f0 i) (.ok ((a0,f0),i)):=by
 have:Q ts<=i:=by unfold Dw at d;have:=congrArg List.length d;rw[a1m,a17,a03]at this;omega
 exact Lim.Gj (.Gk _) λn=>by rw[kH,if_pos this]
end
def GdP(p:PrgT):Prop:=(∀a∈p.d,vnm a.pp.b=true/\1<=a.len/\a.len<=16)/\∀f∈p.U,wfF f=true/\inF f
def wdPr(p:PrgT):List Wd:=p.d.flatMap wdAr++p.U.flatMap wdFn
theorem sc_p{p:PrgT}(h:GdP p){s:List UInt8}{ws:List Wd}(k:Sc s ws):Sc (txP p++s) (wdPr p++ws):=by
 have U: ∀l:List FunT,(∀f∈l,wfF f=true/\inF f)->Sc (l.flatMap fnT++s) (l.flatMap wdFn++ws):=by
  intro l;induction l with
  |nil=>intro _;exact k
  |cons f l ih=>
   intro h
   have:=sc_f (h f (a0m ..)).1 (h f (a0m ..)).2 (ih λg T=>h g (a0c _ T))
   simpa using this
 have ha: ∀l:List ArrT,(∀a∈l,vnm a.pp.b=true/\1<=a.len/\a.len<=16)->Sc (l.flatMap arT++(p.U.flatMap fnT++s)) (l.flatMap wdAr++(p.U.flatMap wdFn++ws)):=by
  intro l;induction l with
  |nil=>intro _;exact U _ h.2
  |cons a l ih=>
   intro h
   have⟨E,O⟩:=h a (a0m ..)
   have:=sc_a E O (ih λg T=>h g (a0c _ T))
   simpa using this
 have:=ha _ h.1;unfold txP wdPr;simpa using this
theorem pr_p{ts:List Token}{p:PrgT}(h:GdP p){r:List Wd}{R:Rs (List ArrT×List FunT)}{i:Nat}{a0:List ArrT}{f0:List FunT}(d:Dw ts i (wdPr p++r))(k:Lim (λn=>kH ts n (a0++p.d) (f0++p.U) (i+Q (wdPr p))) R):Lim (λn=>kH ts n a0 f0 i) R:=by
 have U: ∀(l:List FunT) (i:Nat) (a0:List ArrT) (f0:List FunT),(∀f∈l,wfF f=true/\inF f)->Dw ts i (l.flatMap wdFn++r)->Lim (λn=>kH ts n a0 (f0++l) (i+Q (l.flatMap wdFn))) R->Lim (λn=>kH ts n a0 f0 i) R:=by
  intro l;induction l with
  |nil=>intro i a0 f0 _ d k;simpa using k
  |cons f l ih=>
   intro i a0 f0 h d k
   rw[a1r,a0b]at d
   refine pr_f (h f (a0m ..)).1 (h f (a0m ..)).2 d (ih _ a0 _ (λg T=>h g (a0c _ T)) d.app ?_)
   rw[a1r,a00,←a0C]at k
   rw[a0b];exact k
 have ha: ∀(l:List ArrT) (q:List Wd) (i:Nat) (a0:List ArrT) (f0:List FunT),(∀a∈l,vnm a.pp.b=true/\1<=a.len/\a.len<=16)->Dw ts i (l.flatMap wdAr++q)->Lim (λn=>kH ts n (a0++l) f0 (i+Q (l.flatMap wdAr))) R->Lim (λn=>kH ts n a0 f0 i) R:=by
  intro l q;induction l with
  |nil=>intro i a0 f0 _ d k;simpa using k
  |cons a l ih=>
   intro i a0 f0 h d k
   rw[a1r,a0b]at d
   have⟨E,O⟩:=h a (a0m ..)
   refine pr_a E O d (ih _ _ f0 (λg T=>h g (a0c _ T)) d.app ?_)
   rw[a1r,a00,←a0C]at k
   rw[a0b];exact k
 unfold wdPr at d k;rw[a0b]at d;refine ha _ _ i a0 f0 h.1 d (U _ _ _ f0 h.2 d.app ?_);rw[a00,←a0C]at k;exact k
theorem sc_scan{s:List UInt8}{ws:List Wd}(T:Q s<=20000)(h:Sc s ws): ∃ts,bU s=(ts,0,0)/\ts.map wk=ws:=by have⟨l,E,O⟩:=h s 0 (Q s+1) V (a0y _);refine⟨l,?_,O⟩;unfold bU;rw[if_neg M];rw[a0x]at E;exact E
theorem par_lim{s:List UInt8}{ts:List Token}{p:PrgT}{e:ErrT}{x:List ArrT×List FunT}{j:Nat}(hs:bU s=(ts,0,0))(h:Lim (λn=>kH ts n [] [] 0) (.ok (x,j)))(q:ParR s p e):p=⟨x.1,x.2⟩/\e=⟨0,0⟩:=by
 unfold ParR at q;rw[hs,if_pos rfl]at q;have⟨y,i,b,U,_,O,T⟩:=q;rcases U with⟨hb,l,_,k⟩|⟨_,l,_,k⟩
 ·have:=k.uniq h;injection this with E;injection E with E Z;rw[hb]at O T;rw[←E];exact⟨O,T⟩
 have:=k.uniq h;cases this
theorem round{p q:PrgT}{e:ErrT}(h:GdP p)(U:Q (txP p)<=20000)(r:ParR (txP p) q e):q=p/\e=⟨0,0⟩:=by
 have hs:=sc_p h Sc.nil;rw[a0k,a0k]at hs;have⟨ts,T,E⟩:=sc_scan U hs;have d:Dw ts 0 (wdPr p++[]):=by unfold Dw;rw[a0k];exact E
 have O:Dw ts (0+Q (wdPr p)) []:=d.app;have Z:Q (wdPr p)=Q ts:=by rw[←E,a1m]
 have k:=pr_p h (a0:=[]) (f0:=[]) d (pr_e O M);have:=par_lim T k r;exact⟨this.1,this.2⟩
end ru
open ru
namespace gq
open Go.R w3 l1 pt ga gb ca cb cc cd ta tb gp
structure PF(p:PrgT):Prop where
 f:ffP p [102]=0
 g:ffP p [103]=1
 pf:Q (Y p.U 0 n_).A=2
 pg:Q (Y p.U 1 n_).A=1
structure GS(f:Int)(p:PrgT)(d:Nat)(s:StmT):Prop where
 nd:ndS s<=200 *nS s
 len: ∀ind:List UInt8,Q ind+2 *d<=20->Q (fmS s ind)<=2200 *nS s
 ds: ∀k,dS s k<=k+d
 T:tdS s=false
 wf:wfS s=true
 nb:nbS s
 df:dfS (bo f) abG p s=true
 ar:arS p s=true
structure GL(f:Int)(p:PrgT)(d:Nat)(l:List StmT):Prop where
 nd:fw l<=200 *nSs l
 len: ∀ind:List UInt8,Q ind+2 *d<=20->Q (eC l ind)<=2200 *nSs l
 ds: ∀k,dSs l k<=k+d
 T:dF l=false
 wf:dB l=true
 nb:oQ l
 df:i5 (bo f) abG p l=true
 ar:nv p l=true
section
variable {f:Int} {p:PrgT} {d:Nat}
theorem GL.nil:GL f p d []:=⟨a07 _,λ_ _=>a0h _,λ_=>a0h _,V,V,by rw[oQ];trivial,V,V⟩
theorem GL.cons{s:StmT}{l:List StmT}(a:GS f p d s)(b:GL f p d l):GL f p d (s::l):=by
 refine⟨?_,λind h=>?_,λk=>?_,?_,?_,?_,?_,?_⟩
 ·rw[fw,nSs];have:=a.nd;have:=b.nd;omega
 ·rw[eC,nSs,a00];have:=a.len ind h;have:=b.len ind h;omega
 ·rw[dSs];have:=a.ds k;have:=b.ds k;omega
 ·rw[dF,a.T,b.T];rfl
 ·rw[dB,a.wf,b.wf];rfl
 ·rw[oQ];exact⟨a.nb,b.nb⟩
 ·rw[i5,a.df,b.df];rfl
 rw[nv,a.ar,b.ar];rfl
def GT(f:Int)(p:PrgT)(d:Nat)(l:List StmT):Prop:=l=[]\/∃e,d=e+1/\GL f p e l
theorem GT.all{l:List StmT}(h:GT f p d l):fw l<=200 *nSs l/\(∀ind:List UInt8,Q ind+2 *d<=20->Q (eC l (ind++[32,32]))<=2200 *nSs l)/\(∀k,dSs l (k+1)<=k+d)/\dF l=false/\dB l=true/\oQ l/\i5 (bo f) abG p l=true/\nv p l=true:=by
 rcases h with rfl|⟨e,rfl,h⟩
 ·have h:GL f p 0 []:= .nil;exact⟨h.nd,λ_ _=>a0h _,λ_=>a0h _,h.T,h.wf,h.nb,h.df,h.ar⟩
 exact⟨h.nd,λind k=>h.len _ (by rw[a00];show Q ind+2+2 *e<=20;omega),λk=>by have:=h.ds (k+1);omega,h.T,h.wf,h.nb,h.df,h.ar⟩
theorem GS.of{s:StmT}{A a_:Nat}(ht:GT f p d s.G4)(he:GT f p d s.G7)(ha:ndE s.G2<=A)(hv:ndE s.val<=a_)(hr:A+a_+hR s.y<=190)(hl: ∀ind t e:List UInt8,Q ind<=20->Q (fmK s ind t e)<=2170+Q t+Q e)(b0:dpE s.G2<=20)(b1:dpE s.val<=20)(ar:(s.y.any λx=>decide (20<dpE x))=false)(hw:eQ s.y=true)(hk:wfK s=true)(hn:Q s.pp.b<=1/\(Q s.K.b)<=1)(aA:nbE s.G2/\nbE s.val/\gD s.y)(an:dfK (bo f) abG p s=true)(al:arK p s=true):GS f p d s:=by
 have⟨t1,t2,t3,t4,t5,t6,t7,t8⟩:=ht.all;have⟨e1,E,O,T,U,Z,e7,e8⟩:=he.all;refine⟨?_,λind h=>?_,λk=>?_,?_,?_,?_,?_,?_⟩
 ·rw[ns_s,n_s];omega
 ·rw[fm_s,n_s,a00];have:=hl ind (eC s.G4 (ind++[32,32])) (eC s.G7 (ind++[32,32])) M;have:=t2 ind h;have:=E ind h
  omega
 ·rw[d_s];have:=t3 k;have:=O k;omega
 ·rw[td_s,decide_eq_false M,decide_eq_false M,t4,T,ar];rfl
 ·rw[wf_s,wfA,hw,hk,t5,U];rfl
 ·have⟨q1,q2,q3⟩:=aA;cases s;rw[nbS];exact⟨Nat.lt_of_le_of_lt hn.1 e_,Nat.lt_of_le_of_lt hn.2 e_,q1,q2,q3,t6,Z⟩
 ·rw[df_s,an,t7,e7];rfl
 rw[ar_s,al,t8,e8];rfl
end
theorem zE_ok:ndE zE<=1/\dpE zE<=20/\isZ zE=true/\nbE zE/\∀f:Int,dfE (bo f) abG zE=true:=by
 refine⟨by decide,by decide,by decide,?_,λf=>?_⟩
 ·show nbE ⟨0,0,bP,0,[]⟩;rw[nbE];exact⟨by decide,by rw[gD];trivial⟩
 rw[df_e];rfl
theorem ge_b{f:Int}{d:Nat}{e:ExpT}(h:GE f d e)(hd:d<=4):ndE e<=121/\(Q (fmE e))<=2100/\dpE e<=20:=by
 have E:Nd d<=121/\Ld d<=2100:=by
  rcases d with _|_|_|_|_|d
  ·decide
  ·decide
  ·decide
  ·decide
  ·decide
  omega
 have:=h.nd;have:=h.len;have:=h.dp
 omega
theorem ge_b3{f:Int}{d:Nat}{e:ExpT}(h:GE f d e)(hd:d<=3):ndE e<=40/\(Q (fmE e))<=696:=by
 have E:Nd d<=40/\Ld d<=696:=by
  rcases d with _|_|_|_|d
  ·decide
  ·decide
  ·decide
  ·decide
  omega
 have:=h.nd;have:=h.len
 omega
def Ct(r q:RdT)(n w:Nat):Prop:=q.l<:+r.l/\n+Q q.l<=Q r.l/\q.n=r.n+(w:Int)/\(w=0\/q.n<=10)
theorem Ct.z(r:RdT):Ct r r 0 0:=⟨a1Z _,M,M,.inl V⟩
theorem Ct.tr{r q t:RdT}{n w m v:Nat}(a:Ct r q n w)(b:Ct q t m v):Ct r t (n+m) (w+v):=by have⟨E,T,U,Z⟩:=a;have⟨O,b2,b3,b4⟩:=b;exact⟨O.trans E,M,M,M⟩
theorem args_ok{f:Int}: ∀(k:Nat) {r:RdT},InR r->k<=2->Q (bT f k r).1=k/\hR (bT f k r).1<=40 *k/\(∀b,Q (jnR b (ko (fV (bT f k r).1)))<=700 *k)/\((bT f k r).1.any λx=>decide (20<dpE x))=false/\eQ (bT f k r).1=true/\gD (bT f k r).1/\fC (bo f) abG (bT f k r).1=true/\(bT f k r).2.l<:+r.l/\(bT f k r).2.n=r.n
 |0,r,_,_=>⟨V,a07 _,λb=>by cases b<;>exact a07 _,V,V,by rw[bT,gD];trivial,V,a1Z _,V⟩
 |k+1,r,h,hk=>by
  have⟨E,O,T⟩:=jD (f:=f) 2 h;have O:=O.trans (dK r);have⟨U,b2,Z,b4,b5,b6,b7,b8,b9⟩:=args_ok (f:=f) k (h.of O) M;have q:=ge_b3 E e_;rw[bT];refine⟨by rw[a02,U],?_,λb=>?_,?_,?_,?_,?_,b8.trans O,b9.trans T⟩
  ·rw[hR];omega
  ·show(jnR b (ko (fV (_::_)))).length<=_;rw[fV];show(jnR b (⟨_⟩::ko (fV _))).length<=_
   rw[jnR,a00,a00];have:=Z true;have:Q (if b=true then([44,32]:List UInt8) else [])<=2:=by split<;>decide
   show _+Q (fmE (ap f 2 r).1)+_<=_;omega
  ·rw[a22,b4,decide_eq_false (by have:=(ge_b E e_).2.2;omega)];rfl
  ·rw[eQ,E.wf,b5];rfl
  ·rw[gD];exact⟨E.nb,b6⟩
  rw[fC,E.df,b7];rfl
section
variable {f:Int} {p:PrgT} {d:Nat} {sub:Nat->RdT->List StmT×RdT} {flat:Bool}
theorem stB_ok(hp:PF p)(hs: ∀m r,InR r->GT f p d (sub m r).1/\Ct r (sub m r).2 (nSs (sub m r).1) (wSs (sub m r).1)){r:RdT}(hr:InR r):GS f p d (gK sub flat f r).1/\Ct (au r) (gK sub flat f r).2 (nS (gK sub flat f r).1-1) (wS (gK sub flat f r).1):=by
 have hn:InR (au r):=hr.of (dK r);have hi:InR (nr (au r)):=hn;have⟨Z,z2,z3,z4,z5⟩:=zE_ok;have⟨k1,k2,k3⟩:=nm_ok f _ (nm_mem f (hdG r));have T:GT f p d []:= .inl V;have c0: ∀{q:RdT},q.l<:+(au r).l->q.n=(au r).n->Ct (au r) q 0 0:=λh1 h2=>⟨h1,by have:=h1.length_le;omega,M,.inl V⟩
 have cL: ∀{a b q:RdT} {n w:Nat},a.l<:+(au r).l->a.n=(au r).n->Ct a q n w->Ct (au r) q n w:=λh1 h2 h3=>by have:=(c0 h1 h2).tr h3;rwa [a0x,a0x]at this
 unfold gK;split
 ·have⟨E,O,U⟩:=jD (f:=f) 4 hn;have q:=ge_b E e_;refine⟨GS.of (A:=1) (a_:=121) T T Z q.1 (by show _+0<=_;omega) (λind t e h=>?_) z2 q.2.2 V V ?_ ⟨by show(nmG f (hdG r)).b.length<=1;omega,a0h _⟩ ⟨z4,E.nb,by show gD [];rw[gD];trivial⟩ ?_ V,c0 (O.trans (dK _)) U⟩
  ·rw[fk_1 rfl];show((nmG f (hdG r)).b++[32,61,32]++fmE (ap f 4 (au r)).1++[59,10]).length<=_
   simp only[a00,a02,a03];omega
  ·show(((((((true&&true)&&vnm (nmG f (hdG r)).b)&&true)&&true)&&isZ zE)&&true)&&wfE (ap f 4 (au r)).1)=true;rw[k2,z3,E.wf];rfl
  unfold dfK swK;show(true&&dfE _ _ zE&&dfE _ _ (ap f 4 (au r)).1&&eI (bo f) (nmG f (hdG r)).b)=true;rw[z5,E.df,k3];rfl
 split
 ·have⟨E,O,U⟩:=jD (f:=f) 2 hn;have O:=O.trans (dK _);have⟨b1,b2,b3⟩:=jD (f:=f) 3 (hn.of O);have⟨m1,m2,m3⟩:=ab_ok _ (ab_mem _ (a1R (ah ((hdG r).tdiv 16) 1000) e_));have q:=ge_b3 E e_;have q2:=ge_b3 b1 e_
  refine⟨GS.of (A:=40) (a_:=40) T T q.1 q2.1 (by show _+0<=_;omega) (λind t e h=>?_) (ge_b E e_).2.2 (ge_b b1 e_).2.2 V V ?_ ⟨by show(Y abG _ n_).b.length<=1;omega,a0h _⟩ ⟨E.nb,b1.nb,by show gD [];rw[gD];trivial⟩ ?_ V,c0 ((b2.trans (dK _)).trans O) (b3.trans U)⟩
  ·rw[fk_2 rfl];show((Y abG _ n_).b++[91]++fmE (ap f 2 (au r)).1++[93,32,61,32]++fmE (ap f 3 (ap f 2 (au r)).2).1++[59,10]).length<=_
   simp only[a00,a02,a03];omega
  ·show(((((((true&&true)&&vnm (Y abG (ah ((hdG r).tdiv 16) 1000%2) n_).b)&&true)&&true)&&wfE (ap f 2 (au r)).1)&&true)&&wfE (ap f 3 (ap f 2 (au r)).2).1)=true;rw[m2,E.wf,b1.wf];rfl
  unfold dfK swK;show(true&&dfE _ _ (ap f 2 (au r)).1&&dfE _ _ (ap f 3 (ap f 2 (au r)).2).1&&eI abG (Y abG (ah ((hdG r).tdiv 16) 1000%2) n_).b)=true;rw[E.df,b1.df,m3];rfl
 split
 ·have⟨E,O,U⟩:=jD (f:=f) 3 hn;have O:=O.trans (dK _);have⟨t1,t2⟩:=hs 3 _ (hn.of O);have⟨e1,e2⟩:=hs 2 _ ((hn.of O).of t2.1);have q:=ge_b3 E e_;refine⟨GS.of (A:=1) (a_:=40) t1 e1 Z q.1 (by show _+0<=_;omega) (λind t e h=>?_) z2 (ge_b E e_).2.2 V V ?_ ⟨a0h _,a0h _⟩ ⟨z4,E.nb,by show gD [];rw[gD];trivial⟩ ?_ V,?_⟩
  ·rw[fk_3 rfl];have: ∀{b:Prop} [Decidable b],Q (if b then [32,101,108,115,101,32,123,10]++e++ind++[125] else [])<=9+Q e+Q ind:=by
    intro b _;split
    ·simp only[a00,a02,a03];omega
    exact a0h _
   have:=this (b:=0<Q (mkS 3 bP bP 0 zE (ap f 3 (au r)).1 [] (sub 3 (ap f 3 (au r)).2).1 (sub 2 (sub 3 (ap f 3 (au r)).2).2).1).G7);simp only[a00,a02,a03]at this⊢;show _+Q (fmE (ap f 3 (au r)).1)+_+_+_+_+_+_<=_;omega
  ·show((((((true&&true)&&true)&&isZ zE)&&true))&&wfE (ap f 3 (au r)).1)=true;rw[z3,E.wf];rfl
  ·unfold dfK swK;show(true&&dfE _ _ zE&&dfE _ _ (ap f 3 (au r)).1&&true)=true;rw[z5,E.df];rfl
  rw[n_s,w_s];have:=cL (b:=r) O U (t2.tr e2);show Ct _ _ (1+nSs (sub 3 _).1+nSs (sub 2 _).1-1) (0+wSs (sub 3 _).1+wSs (sub 2 _).1);rwa [a0x,a0C,Nat.add_sub_cancel_left]
 split
 ·next c9 dk=>
  have⟨E,O,U⟩:=jD (f:=f) 3 hi;have O:=O.trans (dK _);have⟨t1,t2⟩:=hs 3 _ (hi.of O);have q:=ge_b3 E e_;refine⟨GS.of (A:=1) (a_:=40) t1 T Z q.1 (by show _+0<=_;omega) (λind t e h=>?_) z2 (ge_b E e_).2.2 V V ?_ ⟨a0h _,a0h _⟩ ⟨z4,E.nb,by show gD [];rw[gD];trivial⟩ ?_ V,?_⟩
  ·rw[fk_4 rfl];show([119,104,105,108,101,32,40]++fmE (ap f 3 (nr (au r))).1++[41,32,123,10]++t++ind++[125,10]).length<=_
   simp only[a00,a02,a03];omega
  ·show(((((((true&&true)&&true)&&isZ zE)&&true))&&wfE (ap f 3 (nr (au r))).1)&&true)=true;rw[z3,E.wf];rfl
  ·unfold dfK swK;show(true&&dfE _ _ zE&&dfE _ _ (ap f 3 (nr (au r))).1&&true)=true;rw[z5,E.df];rfl
  rw[n_s,w_s];have c8:=kG_loops (flat:=flat) (r:=r) M;have h1:Ct (au r) (ap f 3 (nr (au r))).2 0 1:=⟨O,by have q1:=O.length_le;have q2:Q (nr (au r)).l=Q (au r).l:=rfl;omega,by rw[U];rfl,.inr (by rw[U];show(au r).n+1<=10;omega)⟩
  have:=h1.tr t2;show Ct _ _ (1+nSs (sub 3 _).1+0-1) (1+wSs (sub 3 _).1+0);rwa [a25,a25,Nat.add_sub_cancel_left,←a0x (nSs _)]
 split
 ·have⟨E,O,U⟩:=jD (f:=f) 3 hn;have q:=ge_b3 E e_;refine⟨GS.of (A:=1) (a_:=40) T T Z q.1 (by show _+0<=_;omega) (λind t e h=>?_) z2 (ge_b E e_).2.2 V V ?_ ⟨a0h _,a0h _⟩ ⟨z4,E.nb,by show gD [];rw[gD];trivial⟩ ?_ V,c0 (O.trans (dK _)) U⟩
  ·rw[fk_5 rfl];show([111,117,116,32]++fmE (ap f 3 (au r)).1++[59,10]).length<=_
   simp only[a00,a02,a03];omega
  ·show(((true&&true)&&((((true&&true)&&true)&&isZ zE)&&true))&&wfE (ap f 3 (au r)).1)=true;rw[z3,E.wf];rfl
  unfold dfK swK;show(true&&dfE _ _ zE&&dfE _ _ (ap f 3 (au r)).1&&true)=true;rw[z5,E.df];rfl
 split
 ·have⟨b1,b2,b3,b4,b5,b6,b7,b8,b9⟩:=args_ok (f:=f) (2-ah ((hdG r).tdiv 16) 1000%2) hn M;have e2: ∀m,m<2->Q (Y ([⟨[102]⟩,⟨[103]⟩]:List Str) m n_).b=1/\vnm (Y ([⟨[102]⟩,⟨[103]⟩]:List Str) m n_).b=true/\ffP p (Y ([⟨[102]⟩,⟨[103]⟩]:List Str) m n_).b=(m:Int)/\(Q (Y p.U m n_).A)=2-m:=by
   intro m hm;rcases m with _|_|m
   ·exact⟨V,by decide,hp.f,hp.pf⟩
   ·exact⟨V,by decide,hp.g,hp.pg⟩
   omega
  have hm:=a1R (ah ((hdG r).tdiv 16) 1000) (show 0<2 by decide);have⟨v1,v2,v3,v4⟩:=e2 _ hm;refine⟨GS.of (A:=1) (a_:=1) T T Z Z (by show _+hR (bT f (2-ah ((hdG r).tdiv 16) 1000%2) (au r)).1<=_;omega) (λind t e h=>?_) z2 z2 b4 b5 ?_ ⟨by show(nmG f (hdG r)).b.length<=1;omega,by show(Y ([⟨[102]⟩,⟨[103]⟩]:List Str) (ah ((hdG r).tdiv 16) 1000%2) n_).b.length<=1;omega⟩ ⟨z4,z4,b6⟩ ?_ ?_,c0 b8 b9⟩
  ·rw[fk_6 (show(6:Int)≠1 by decide) (show(6:Int)≠2 by decide) (show(6:Int)≠5 by decide) (show(6:Int)≠7 by decide) (show(6:Int)≠4 by decide) (show(6:Int)≠3 by decide)];show((nmG f (hdG r)).b++[32,61,32]++(Y ([⟨[102]⟩,⟨[103]⟩]:List Str) (ah ((hdG r).tdiv 16) 1000%2) n_).b++[40]++jnR false (ko (fV (bT f (2-ah ((hdG r).tdiv 16) 1000%2) (au r)).1))++[41,59,10]).length<=_;have:=b3 false;simp only[a00,a02,a03];omega
  ·show((((((true&&true)&&vnm (nmG f (hdG r)).b)&&vnm (Y ([⟨[102]⟩,⟨[103]⟩]:List Str) (ah ((hdG r).tdiv 16) 1000%2) n_).b)&&true)&&isZ zE)&&isZ zE)=true;rw[k2,v2,z3];rfl
  ·unfold dfK swK;show(fC _ _ (bT f (2-ah ((hdG r).tdiv 16) 1000%2) (au r)).1&&dfE _ _ zE&&dfE _ _ zE&&(eI (bo f) (nmG f (hdG r)).b&&decide (0<=ffP p (Y ([⟨[102]⟩,⟨[103]⟩]:List Str) (ah ((hdG r).tdiv 16) 1000%2) n_).b)))=true;rw[b7,z5,k3,v3,decide_eq_true M];rfl
  show(!(true&&((Q (bT f (2-ah ((hdG r).tdiv 16) 1000%2) (au r)).1:Int) !=(Q (Y p.U (ffP p (Y ([⟨[102]⟩,⟨[103]⟩]:List Str) (ah ((hdG r).tdiv 16) 1000%2) n_).b).toNat n_).A:Int))))=true;rw[v3,Int.toNat_natCast,v4,b1,bne_self_eq_false];rfl
 have hq:=di (n:=(hdG r).tdiv 16) (m:=1000) e_;refine⟨GS.of (A:=1) (a_:=1) T T Z Z (by show _+0<=_;omega) (λind t e h=>?_) z2 z2 V V ?_ ⟨a0h _,a0h _⟩ ⟨z4,z4,by show gD [];rw[gD];trivial⟩ ?_ V,Ct.z _⟩
 ·rw[fk_7 rfl];have:=tx_le (n:=((ah ((hdG r).tdiv 16) 1000:Nat):Int)) M;show([116,114,97,112,32]++dI ((ah ((hdG r).tdiv 16) 1000:Nat):Int)++[59,10]).length<=_;simp only[a00,a02,a03];omega
 ·show((((((((true&&true)&&true)&&true)&&decide ((0:Int)<=((ah ((hdG r).tdiv 16) 1000:Nat):Int)))&&decide (((ah ((hdG r).tdiv 16) 1000:Nat):Int)<=1000000))&&isZ zE)&&isZ zE)&&true)=true;rw[decide_eq_true M,decide_eq_true M,z3];rfl
 unfold dfK swK;show(true&&dfE _ _ zE&&dfE _ _ zE&&true)=true;rw[z5];rfl
theorem row_ok(hs: ∀r,InR r->GS f p d (cj f d r).1/\Ct (au r) (cj f d r).2 (nS (cj f d r).1-1) (wS (cj f d r).1)): ∀(k:Nat) {r:RdT},InR r->GL f p d (jT (cj f d) k r).1/\Ct r (jT (cj f d) k r).2 (nSs (jT (cj f d) k r).1) (wSs (jT (cj f d) k r).1)
 |0,r,_=>⟨.nil,.z _⟩
 |k+1,r,h=>by
  rw[jT];split
  ·exact⟨.nil,.z _⟩
  next hl=>
  have⟨a,b⟩:=hs r h;have E:Ct r (cj f d r).2 (nS (cj f d r).1) (wS (cj f d r).1):=by
   have⟨c1,c2,O,T⟩:=b;have:Q (au r).l+1=Q r.l:=by
    show Q r.l.tail+1=_;cases e:r.l with
    |nil=>exact absurd e hl
    |cons x l=>rfl
   exact⟨c1.trans (dK r),M,O,T⟩
  have⟨c,e⟩:=row_ok hs k (h.of E.1);refine⟨.cons a c,?_⟩;rw[nSs,wSs];exact E.tr e
theorem st_ok(E:PF p): ∀(d:Nat) {r:RdT},InR r->GS f p d (cj f d r).1/\Ct (au r) (cj f d r).2 (nS (cj f d r).1-1) (wS (cj f d r).1)
 |0,r,h=>stB_ok E (λm r _=>⟨.inl V,.z r⟩) h
 |d+1,r,h=>stB_ok (d:=d+1) E (λm q O=>by
   have⟨a,b⟩:=row_ok (λr h=>st_ok E d h) (ah (hdG q) (m+1)) (O.of (dK q));refine⟨.inr ⟨d,V,a⟩,?_⟩;have c:Ct q (au q) 0 0:=⟨dK q,by have:=(dK q).length_le;omega,by show q.n=q.n+0;omega,.inl V⟩
   have:=c.tr b;rwa [a0x,a0x]at this) h
theorem sts_ok(O:PF p)(d E:Nat){r:RdT}(h:InR r):GL f p d (aS f d E r).1/\Ct r (aS f d E r).2 (nSs (aS f d E r).1) (wSs (aS f d E r).1):=by
 obtain⟨a,b⟩:=row_ok (λr h=>st_ok O d h) (ah (hdG r) (E+1)) (h.of (dK r));refine⟨a,?_⟩;have c:Ct r (au r) 0 0:=⟨dK r,by have:=(dK r).length_le;omega,by show r.n=r.n+0;omega,.inl V⟩
 have:=c.tr b;rwa [a0x,a0x]at this
end
theorem pg_pf(l:List Int):PF (bm l):=⟨V,V,V,V⟩
theorem rd_in{l:List Int}(h: ∀x∈l,in64 x):InR (rdG l):=λx E=>h x (List.mem_of_mem_take E)
theorem pg_parts{l:List Int}(h: ∀x∈l,in64 x):(GL 0 (bm l) 3 (cn l).1/\GE 0 3 (eF l).1/\GL 1 (bm l) 2 (cW l).1/\GE 1 3 (ii l).1)/\nSs (cn l).1+nSs (cW l).1<=60/\wSs (cn l).1<=10/\wSs (cW l).1<=10:=by
 have T:=rd_in h;have hp:=pg_pf l;have⟨U,Z,a3,O,a5⟩:=sts_ok (f:=0) hp 3 5 (T.of (dK _));have hA:InR (cn l).2:=(T.of (dK _)).of Z;have⟨b1,E,b3⟩:=jD (f:=0) 3 hA;have E:=E.trans (dK _);have hB:InR (eF l).2:=hA.of E;have⟨c1,c2,c3,c4,c5⟩:=sts_ok (f:=1) hp 2 3 hB;have⟨d1,d2,d3⟩:=jD (f:=1) 3 (hB.of c2);refine⟨⟨U,b1,c1,d1⟩,?_,?_,?_⟩
 ·have k1:nSs (cn l).1+Q (cn l).2.l<=Q (au (rdG l)).l:=a3;have k2:nSs (cW l).1+Q (cW l).2.l<=Q (eF l).2.l:=c3;have k3:Q (eF l).2.l<=Q (cn l).2.l:=E.length_le;have k4:=(dK (rdG l)).length_le;have k5:Q (rdG l).l<=60:=take60 l;omega
 ·have k1:(cn l).2.n=0+(wSs (cn l).1:Int):=O;have k2:wSs (cn l).1=0\/(cn l).2.n<=10:=a5;omega
 have k1:(cn l).2.n=0+(wSs (cn l).1:Int):=O;have k3:(eF l).2.n=(cn l).2.n:=b3;have k4:(cW l).2.n=(eF l).2.n+(wSs (cW l).1:Int):=c4;have k5:wSs (cW l).1=0\/(cW l).2.n<=10:=c5;omega
end gq
open gq
namespace gr
open Go.R w3 l1 pt ga gb ca cc cd ta tb gp gq rt ru
theorem hd_nil{r:RdT}(h:r.l=[]):ah (hdG r) 16=0:=by unfold hdG;rw[h];decide
theorem nx_lt{r:RdT}(h:r.l≠ []):Q (au r).l+1=Q r.l:=by
 show Q r.l.tail+1=_;cases e:r.l with
 |nil=>exact absurd e h
 |cons x l=>rfl
theorem nx_le(r:RdT):Q (au r).l<=Q r.l:=(dK r).length_le
theorem oX{f n:Int}{b:Bool}(h:in64 n):Q (fmE (gn f n b))<=20:=(leaf_ok (f:=f) (d:=0) (b:=b) h).len
theorem py{f:Int}: ∀(d:Nat) {r:RdT},InR r->Q (fmE (ap f d r).1)+60 *Q (ap f d r).2.l<=60 *Q r.l+20
 |0,r,h=>by have T:Q (fmE (ap f 0 r).1)<=20:=oX (hd_in h);have:=nx_le r;show _+60 *Q (au r).l<=_;omega
 |d+1,r,h=>by
  have hn:InR (au r):=h.of (dK r);have Z:=py (f:=f) d hn;have⟨g1,E,_⟩:=jD (f:=f) d hn;have E:=E.trans (dK _);have b1:=py (f:=f) d (hn.of E);have⟨g2,O,_⟩:=jD (f:=f) d (hn.of E);have O:=O.trans (dK _);have c1:=py (f:=f) d ((hn.of E).of O);by_cases hl:r.l=[]
  ·have U:ap f (d+1) r=(gn f (hdG r) false,au r):=by rw[ap,if_pos (by rw[hd_nil hl];decide)]
   rw[U];have T:Q (fmE (gn f (hdG r) false))<=20:=oX (hd_in h);have:=nx_le r;show(fmE (gn f (hdG r) false)).length+60 *Q (au r).l<=_;omega
  have hx:=nx_lt hl;rw[ap];split
  ·have T:Q (fmE (gn f (hdG r) false))<=20:=oX (hd_in h);show(fmE (gn f (hdG r) false)).length+60 *Q (au r).l<=_;omega
  split
  ·have k1:=(ab_ok _ (ab_mem _ (a1R (ah ((hdG r).tdiv 16) 1000) (show 0<2 by decide)))).1;rw[fm_3 V rfl];show((_++[91])++fmE (ap f d (au r)).1++[93]).length+60 *Q (ap f d (au r)).2.l<=_;simp only[a00,a02,a03];show(Y abG (ah ((hdG r).tdiv 16) 1000%2) default).b.length+_+_+_+_<=_;omega
  split
  ·rw[fm_5 V rfl];show((((opF (ap f d (au r)).1 false (fmE (ap f d (au r)).1)++[32,63,32])++opF (ap f d (ap f d (au r)).2).1 false (fmE (ap f d (ap f d (au r)).2).1))++[32,58,32])++opF (ap f d (ap f d (ap f d (au r)).2).2).1 false (fmE (ap f d (ap f d (ap f d (au r)).2).2).1)).length+60 *Q (ap f d (ap f d (ap f d (au r)).2).2).2.l<=_;have:=f8 (ap f d (au r)).1 false (fmE (ap f d (au r)).1);have:=f8 (ap f d (ap f d (au r)).2).1 false (fmE (ap f d (ap f d (au r)).2).1);have:=f8 (ap f d (ap f d (ap f d (au r)).2).2).1 false (fmE (ap f d (ap f d (ap f d (au r)).2).2).1);simp only[a00,a02,a03];omega
  split
  ·rcases a1s (ah ((hdG r).tdiv 16) 1000) with e|e<;>rw[e]
   ·rw[fm_n V V rfl];show([45]++opF (ap f d (au r)).1 true (fmE (ap f d (au r)).1)).length+60 *Q (ap f d (au r)).2.l<=_;have:=f8 (ap f d (au r)).1 true (fmE (ap f d (au r)).1);simp only[a00,a02,a03];omega
   rw[fm_t V V rfl];show([126]++opF (ap f d (au r)).1 false (fmE (ap f d (au r)).1)).length+60 *Q (ap f d (au r)).2.l<=_;have:=f8 (ap f d (au r)).1 false (fmE (ap f d (au r)).1);simp only[a00,a02,a03];omega
  have hm:=a1R (ah ((hdG r).tdiv 16) 1000) (show 0<15 by decide);rw[fm_b V (show(4:Int)+_≠20 by omega) (show(4:Int)+_≠21 by omega) rfl];show((((opF (ap f d (au r)).1 false (fmE (ap f d (au r)).1)++[32])++opX (4+((ah ((hdG r).tdiv 16) 1000%15:Nat):Int)))++[32])++opF (ap f d (ap f d (au r)).2).1 false (fmE (ap f d (ap f d (au r)).2).1)).length+60 *Q (ap f d (ap f d (au r)).2).2.l<=_;have:=f8 (ap f d (au r)).1 false (fmE (ap f d (au r)).1);have:=f8 (ap f d (ap f d (au r)).2).1 false (fmE (ap f d (ap f d (au r)).2).1);have:=opX_le (4+((ah ((hdG r).tdiv 16) 1000%15:Nat):Int));simp only[a00,a02,a03];omega
structure RwG(d:Nat)(r:RdT)(x:List StmT×RdT):Prop where
 i:InR x.2
 le:Q x.2.l<=Q r.l
 tx: ∀ind:List UInt8,Q ind+2 *d<=10->Q (eC x.1 ind)+100 *Q x.2.l<=100 *Q r.l
 n:inL x.1
structure StG(d:Nat)(r:RdT)(x:StmT×RdT):Prop where
 i:InR x.2
 le:Q x.2.l+1<=Q r.l
 tx: ∀ind:List UInt8,Q ind+2 *d<=10->Q (fmS x.1 ind)+100 *Q x.2.l<=100 *Q r.l
 n:mM x.1
theorem RwG.nil{d:Nat}{r:RdT}(h:InR r):RwG d r ([],r):=⟨h,a07 _,λind _=>by rw[eC];show 0+100 *Q r.l<=_;omega,by rw[inL];trivial⟩
theorem RwG.nx{d:Nat}{r:RdT}{x:List StmT×RdT}(h:RwG d (au r) x):RwG d r x:=⟨h.i,a0i h.le (nx_le r),λind k=>a0i (h.tx ind k) (Nat.mul_le_mul_left 100 (nx_le r)),h.n⟩
theorem row_g{d:Nat}{f:Int}(hs: ∀r,InR r->r.l≠ []->StG d r (cj f d r)): ∀(k:Nat) {r:RdT},InR r->RwG d r (jT (cj f d) k r)
 |0,r,h=> .nil h
 |k+1,r,h=>by
  rw[jT];split
  ·exact .nil h
  next hl=>
  have a:=hs r h hl;have b:=row_g hs k a.i;refine⟨b.i,by have:=a.le;have:=b.le;show(jT (cj f d) k (cj f d r).2).2.l.length<=_;omega,λind q=>?_,?_⟩
  ·rw[eC,a00];have:=a.tx ind q;have:=b.tx ind q
   show _+_+100 *Q (jT (cj f d) k (cj f d r).2).2.l<=_;omega
  rw[inL];exact⟨a.n,b.n⟩
theorem nm_1(f n:Int):Q (nmG f n).b=1:=(nm_ok f _ (nm_mem f n)).1
structure XpG(r:RdT)(x:ExpT×RdT):Prop where
 i:InR x.2
 le:Q x.2.l<=Q r.l
 tx:Q (fmE x.1)+60 *Q x.2.l<=60 *Q r.l+20
 n:inE x.1
theorem xp_g(f:Int)(d:Nat){r:RdT}(h:InR r):XpG r (ap f d r):=by have⟨O,E,_⟩:=jD (f:=f) d h;have E:=E.trans (dK _);exact⟨h.of E,E.length_le,py d h,O.S⟩
theorem args_g{f:Int}: ∀(k:Nat) {r:RdT},InR r->k<=2->InR (bT f k r).2/\(Q (bT f k r).2.l)<=Q r.l/\(∀b,Q (jnR b (ko (fV (bT f k r).1)))+60 *Q (bT f k r).2.l<=60 *Q r.l+22 *k)/\inE.inEs (bT f k r).1
 |0,r,h,_=>⟨h,a07 _,λb=>by show 0+60 *Q r.l<=_;omega,by show inE.inEs [];rw[inE.inEs];trivial⟩
 |k+1,r,h,hk=>by
  have a:=xp_g f 2 h;have⟨E,O,T,U⟩:=args_g (f:=f) k a.i M;refine⟨E,a0i O a.le,λb=>?_,?_⟩
  ·show(jnR b (ko (fV ((ap f 2 r).1::(bT f k (ap f 2 r).2).1)))).length+_<=_;rw[fV];show(jnR b (⟨fmE (ap f 2 r).1⟩::ko (fV (bT f k (ap f 2 r).2).1))).length+60 *Q (bT f k (ap f 2 r).2).2.l<=_;rw[jnR,a00,a00];have:=T true;have:=a.tx;have:Q (if b=true then([44,32]:List UInt8) else [])<=2:=by cases b<;>decide
   show _+Q (fmE (ap f 2 r).1)+_+_<=_;omega
  show inE.inEs ((ap f 2 r).1::_);rw[inE.inEs];exact⟨a.n,U⟩
theorem zE_in:inE zE:=by show inE ⟨0,0,bP,0,[]⟩;rw[inE];exact⟨by decide,by rw[inE.inEs];trivial⟩
theorem nls:inE.inEs []:=by rw[inE.inEs];trivial
theorem nll:inL []:=by rw[inL];trivial
theorem stB_g{f:Int}{d:Nat}{sub:Nat->RdT->List StmT×RdT}{flat:Bool}(hs: ∀m r,InR r->∀ind:List UInt8,Q ind+2 *d<=10->InR (sub m r).2/\(Q (sub m r).2.l)<=Q r.l/\(Q (eC (sub m r).1 (ind++[32,32])))+100 *Q (sub m r).2.l<=100 *Q r.l/\inL (sub m r).1){r:RdT}(hr:InR r)(hl:r.l≠ [])(hd:2 *d<=10):StG d r (gK sub flat f r):=by
 have hn:InR (au r):=hr.of (dK r);have hx:=nx_lt hl;have k1:=nm_1 f (hdG r);have k2:=(ab_ok _ (ab_mem _ (a1R (ah ((hdG r).tdiv 16) 1000) (show 0<2 by decide)))).1;unfold gK;split
 ·have a:=xp_g f 4 hn;refine⟨a.i,by have:=a.le;show(ap f 4 (au r)).2.l.length+1<=_;omega,λind q=>?_,?_⟩
  ·rw[fm_s,fk_1 rfl];show(ind++((nmG f (hdG r)).b++[32,61,32]++fmE (ap f 4 (au r)).1++[59,10])).length+100 *Q (ap f 4 (au r)).2.l<=_;have:=a.tx;have:=a.le
   simp only[a00,a02,a03];omega
  show mM ⟨_,_,_,_,_,_,_,_,_⟩;rw[mM];exact⟨zE_in,a.n,nls,nll,nll⟩
 split
 ·have a:=xp_g f 2 hn;have b:=xp_g f 3 a.i;refine⟨b.i,by have:=a.le;have:=b.le;show(ap f 3 (ap f 2 (au r)).2).2.l.length+1<=_;omega,λind q=>?_,?_⟩
  ·rw[fm_s,fk_2 rfl];show(ind++((Y abG (ah ((hdG r).tdiv 16) 1000%2) default).b++[91]++fmE (ap f 2 (au r)).1++[93,32,61,32]++fmE (ap f 3 (ap f 2 (au r)).2).1++[59,10])).length+100 *Q (ap f 3 (ap f 2 (au r)).2).2.l<=_;have:=a.tx;have:=a.le;have:=b.tx;have:=b.le
   simp only[a00,a02,a03];omega
  show mM ⟨_,_,_,_,_,_,_,_,_⟩;rw[mM];exact⟨a.n,b.n,nls,nll,nll⟩
 split
 ·have a:=xp_g f 3 hn;have t:=λind h=>hs 3 _ a.i ind h
  have E:=t [] (by show 0+_<=_;omega);have e:=λind h=>hs 2 _ E.1 ind h
  have O:=e [] (by show 0+_<=_;omega);refine⟨O.1,by have:=a.le;have:=E.2.1;have:=O.2.1;show(sub 2 (sub 3 (ap f 3 (au r)).2).2).2.l.length+1<=_;omega,λind q=>?_,?_⟩
  ·rw[fm_s,fk_3 rfl];show(ind++([105,102,32,40]++fmE (ap f 3 (au r)).1++[41,32,123,10]++eC (sub 3 (ap f 3 (au r)).2).1 (ind++[32,32])++ind++[125]++(if 0<Q (sub 2 (sub 3 (ap f 3 (au r)).2).2).1 then [32,101,108,115,101,32,123,10]++eC (sub 2 (sub 3 (ap f 3 (au r)).2).2).1 (ind++[32,32])++ind++[125] else [])++[10])).length+100 *Q (sub 2 (sub 3 (ap f 3 (au r)).2).2).2.l<=_;have:=a.tx;have:=a.le;have:=(t ind q).2.2.1;have:=E.2.1;have:=(e ind q).2.2.1;have:=O.2.1
   have:Q (if 0<Q (sub 2 (sub 3 (ap f 3 (au r)).2).2).1 then [32,101,108,115,101,32,123,10]++eC (sub 2 (sub 3 (ap f 3 (au r)).2).2).1 (ind++[32,32])++ind++[125] else [])<=9+Q (eC (sub 2 (sub 3 (ap f 3 (au r)).2).2).1 (ind++[32,32]))+Q ind:=by
    split
    ·simp only[a00,a02,a03];omega
    exact a0h _
   simp only[a00,a02,a03]at *;omega
  show mM ⟨_,_,_,_,_,_,_,_,_⟩;rw[mM];exact⟨zE_in,a.n,nls,E.2.2.2,O.2.2.2⟩
 split
 ·have a:=xp_g f 3 (r:=nr (au r)) hn;have t:=λind h=>hs 3 _ a.i ind h
  have E:=t [] (by show 0+_<=_;omega);have ea:Q (nr (au r)).l=Q (au r).l:=rfl;refine⟨E.1,by have:=a.le;have:=E.2.1;show(sub 3 (ap f 3 (nr (au r))).2).2.l.length+1<=_;omega,λind q=>?_,?_⟩
  ·rw[fm_s,fk_4 rfl];show(ind++([119,104,105,108,101,32,40]++fmE (ap f 3 (nr (au r))).1++[41,32,123,10]++eC (sub 3 (ap f 3 (nr (au r))).2).1 (ind++[32,32])++ind++[125,10])).length+100 *Q (sub 3 (ap f 3 (nr (au r))).2).2.l<=_;have:=a.tx;have:=a.le;have:=(t ind q).2.2.1;have:=E.2.1
   simp only[a00,a02,a03]at *;omega
  show mM ⟨_,_,_,_,_,_,_,_,_⟩;rw[mM];exact⟨zE_in,a.n,nls,E.2.2.2,nll⟩
 split
 ·have a:=xp_g f 3 hn;refine⟨a.i,by have:=a.le;show(ap f 3 (au r)).2.l.length+1<=_;omega,λind q=>?_,?_⟩
  ·rw[fm_s,fk_5 rfl];show(ind++([111,117,116,32]++fmE (ap f 3 (au r)).1++[59,10])).length+100 *Q (ap f 3 (au r)).2.l<=_;have:=a.tx;have:=a.le
   simp only[a00,a02,a03];omega
  show mM ⟨_,_,_,_,_,_,_,_,_⟩;rw[mM];exact⟨zE_in,a.n,nls,nll,nll⟩
 split
 ·have⟨T,b2,U,Z⟩:=args_g (f:=f) (2-ah ((hdG r).tdiv 16) 1000%2) hn M;have k3:Q (Y ([⟨[102]⟩,⟨[103]⟩]:List Str) (ah ((hdG r).tdiv 16) 1000%2) default).b=1:=by rcases a1s (ah ((hdG r).tdiv 16) 1000) with e|e<;>rw[e]<;>rfl
  refine⟨T,by show(bT f (2-ah ((hdG r).tdiv 16) 1000%2) (au r)).2.l.length+1<=_;omega,λind q=>?_,?_⟩
  ·rw[fm_s,fk_6 (show(6:Int)≠1 by decide) (show(6:Int)≠2 by decide) (show(6:Int)≠5 by decide) (show(6:Int)≠7 by decide) (show(6:Int)≠4 by decide) (show(6:Int)≠3 by decide)];show(ind++((nmG f (hdG r)).b++[32,61,32]++(Y ([⟨[102]⟩,⟨[103]⟩]:List Str) (ah ((hdG r).tdiv 16) 1000%2) default).b++[40]++jn8 (ko (fV (bT f (2-ah ((hdG r).tdiv 16) 1000%2) (au r)).1))++[41,59,10])).length+100 *Q (bT f (2-ah ((hdG r).tdiv 16) 1000%2) (au r)).2.l<=_;have:=U false;have e:Q (jn8 (ko (fV (bT f (2-ah ((hdG r).tdiv 16) 1000%2) (au r)).1)))=Q (jnR false (ko (fV (bT f (2-ah ((hdG r).tdiv 16) 1000%2) (au r)).1))):=rfl;simp only[a00,a02,a03];omega
  show mM ⟨_,_,_,_,_,_,_,_,_⟩;rw[mM];exact⟨zE_in,zE_in,Z,nll,nll⟩
 have hq:=di (n:=(hdG r).tdiv 16) (m:=1000) e_;refine⟨hn,by show(au r).l.length+1<=_;omega,λind q=>?_,?_⟩
 ·rw[fm_s,fk_7 rfl];have:=tx_le (n:=((ah ((hdG r).tdiv 16) 1000:Nat):Int)) M;show(ind++([116,114,97,112,32]++dI ((ah ((hdG r).tdiv 16) 1000:Nat):Int)++[59,10])).length+100 *Q (au r).l<=_;simp only[a00,a02,a03];omega
 show mM ⟨_,_,_,_,_,_,_,_,_⟩;rw[mM];exact⟨zE_in,zE_in,nls,nll,nll⟩
theorem sub_g{d:Nat}{f:Int}(hs: ∀r,InR r->r.l≠ []->StG d r (cj f d r))(m:Nat){q:RdT}(E:InR q):RwG d q (subG (cj f d) m q):=(row_g hs (ah (hdG q) (m+1)) (E.of (dK q))).nx
theorem RwG.G2{d:Nat}{r:RdT}{x:List StmT×RdT}(a:RwG d r x)(ind:List UInt8)(h:Q ind+2 *(d+1)<=10):InR x.2/\(Q x.2.l)<=Q r.l/\(Q (eC x.1 (ind++[32,32])))+100 *Q x.2.l<=100 *Q r.l/\inL x.1:=
 ⟨a.i,a.le,a.tx _ (by rw[a00];show Q ind+2+_<=_;omega),a.n⟩
theorem st_g{f:Int}: ∀(d:Nat),2 *d<=10->∀{r:RdT},InR r->r.l≠ []->StG d r (cj f d r)
 |0,hd,r,h,E=>stB_g (λm r h ind _=>⟨h,a07 _,by rw[eC];show 0+100 *Q r.l<=_;omega,nll⟩) h E hd
 |d+1,hd,r,h,E=>stB_g (d:=d+1) (λm q O ind hi=>(sub_g (λr h E=>st_g d M h E) m O).G2 ind hi) h E hd
theorem sts_g{f:Int}(d E:Nat)(hd:2 *d<=10){r:RdT}(h:InR r):RwG d r (aS f d E r):=(row_g (λr h O=>st_g d hd h O) (ah (hdG r) (E+1)) (h.of (dK r))).nx
theorem pg_text{l:List Int}(h: ∀x∈l,in64 x):Q (txP (bm l))<=9000/\(inL (cn l).1/\inE (eF l).1)/\inL (cW l).1/\inE (ii l).1:=by have E:=rd_in h;have a:=sts_g (f:=0) 3 5 e_ (E.of (dK (rdG l)));have b:=xp_g 0 3 (r:=(cn l).2) a.i;have c:=sts_g (f:=1) 2 3 e_ (r:=(eF l).2) b.i;have d:=xp_g 1 3 (r:=(cW l).2) c.i;have k5:Q (rdG l).l<=60:=take60 l;have k4:=nx_le (rdG l);refine⟨?_,⟨a.n,b.n⟩,c.n,d.n⟩;have p1:=di (n:=hdG (rdG l)) (m:=4) e_;have p2:=di (n:=(hdG (rdG l)).tdiv 4) (m:=4) e_;have q1:=tx_le (n:=1+(ah (hdG (rdG l)) 4:Int)) M;have q2:=tx_le (n:=1+(ah ((hdG (rdG l)).tdiv 4) 4:Int)) M;have q3:Q (eC (cn l).1 [32,32])+100 *Q (cn l).2.l<=100 *Q (au (rdG l)).l:=a.tx [32,32] e_;have q4:Q (eC (cW l).1 [32,32])+100 *Q (cW l).2.l<=100 *Q (eF l).2.l:=c.tx [32,32] e_;have q5:Q (fmE (eF l).1)+60 *Q (eF l).2.l<=60 *Q (cn l).2.l+20:=b.tx;have q6:Q (fmE (ii l).1)+60 *Q (ii l).2.l<=60 *Q (cW l).2.l+20:=d.tx;have r1:Q (cn l).2.l<=Q (au (rdG l)).l:=a.le;have r2:Q (eF l).2.l<=Q (cn l).2.l:=b.le;have O:Q (jn8 [⟨[120]⟩,⟨[121]⟩])=4:=rfl;have T:Q (lcT [⟨[105]⟩,⟨[106]⟩])=9:=rfl;have U:Q (jn8 [⟨[110]⟩])=1:=rfl;have Z:Q (lcT [⟨[105]⟩])=6:=rfl;show((arT _++(arT _++[]))++(fnT _++(fnT _++[]))).length<=_;unfold arT fnT;simp only[a00,a02,a03];show _+1+1+Q (dI (1+(ah (hdG (rdG l)) 4:Int)))+_+_+_<=_;omega
theorem pg_chk{l:List Int}(h: ∀x∈l,in64 x):chk (bm l)=0:=by
 have⟨⟨a,b,c,d⟩,h1,h2,h3⟩:=pg_parts h;have p1:=di (n:=hdG (rdG l)) (m:=4) e_;have p2:=di (n:=(hdG (rdG l)).tdiv 4) (m:=4) e_;have vb:=ge_b b e_;have vd:=ge_b d e_;have E:exL (bm l)=false:=by
  have hA:dgB ⟨⟨[102]⟩,[⟨[120]⟩,⟨[121]⟩],[⟨[105]⟩,⟨[106]⟩],(cn l).1,(eF l).1⟩=false:=by have:=a.ds 0;unfold dgB;show(decide (6<2)||decide (8<2)||decide (200<nSs (cn l).1)||decide (16<wSs (cn l).1)||decide (20<dSs (cn l).1 0)||dF (cn l).1||decide (20<dpE (eF l).1))=false;rw[decide_eq_false (show ¬200<nSs (cn l).1 by omega),decide_eq_false (show ¬16<wSs (cn l).1 by omega),decide_eq_false (show ¬20<dSs (cn l).1 0 by omega),a.T,decide_eq_false (show ¬20<dpE (eF l).1 by omega)];rfl
  have hC:dgB ⟨⟨[103]⟩,[⟨[110]⟩],[⟨[105]⟩],(cW l).1,(ii l).1⟩=false:=by have:=c.ds 0;unfold dgB;show(decide (6<1)||decide (8<1)||decide (200<nSs (cW l).1)||decide (16<wSs (cW l).1)||decide (20<dSs (cW l).1 0)||dF (cW l).1||decide (20<dpE (ii l).1))=false;rw[decide_eq_false (show ¬200<nSs (cW l).1 by omega),decide_eq_false (show ¬16<wSs (cW l).1 by omega),decide_eq_false (show ¬20<dSs (cW l).1 0 by omega),c.T,decide_eq_false (show ¬20<dpE (ii l).1 by omega)];rfl
  show(decide (4<2)||decide (8<2)||((decide ((1:Int)+(ah (hdG (rdG l)) 4:Int)<1)||decide ((16:Int)<1+(ah (hdG (rdG l)) 4:Int)))||((decide ((1:Int)+(ah ((hdG (rdG l)).tdiv 4) 4:Int)<1)||decide ((16:Int)<1+(ah ((hdG (rdG l)).tdiv 4) 4:Int)))||false))||(dgB ⟨⟨[102]⟩,[⟨[120]⟩,⟨[121]⟩],[⟨[105]⟩,⟨[106]⟩],(cn l).1,(eF l).1⟩||(dgB ⟨⟨[103]⟩,[⟨[110]⟩],[⟨[105]⟩],(cW l).1,(ii l).1⟩||false)))=false;rw[hA,hC,decide_eq_false (show ¬((1:Int)+(ah (hdG (rdG l)) 4:Int)<1) by omega),decide_eq_false (show ¬((16:Int)<1+(ah (hdG (rdG l)) 4:Int)) by omega),decide_eq_false (show ¬((1:Int)+(ah ((hdG (rdG l)).tdiv 4) 4:Int)<1) by omega),decide_eq_false (show ¬((16:Int)<1+(ah ((hdG (rdG l)).tdiv 4) 4:Int)) by omega)];rfl
 have O:wfP (bm l)=true:=by
  have hA:wfF ⟨⟨[102]⟩,[⟨[120]⟩,⟨[121]⟩],[⟨[105]⟩,⟨[106]⟩],(cn l).1,(eF l).1⟩=true:=by rw[wf_f];show(true&&dB (cn l).1&&wfE (eF l).1)=true;rw[a.wf,b.wf];rfl
  have hC:wfF ⟨⟨[103]⟩,[⟨[110]⟩],[⟨[105]⟩],(cW l).1,(ii l).1⟩=true:=by rw[wf_f];show(true&&dB (cW l).1&&wfE (ii l).1)=true;rw[c.wf,d.wf];rfl
  show(true&&(wfF ⟨⟨[102]⟩,[⟨[120]⟩,⟨[121]⟩],[⟨[105]⟩,⟨[106]⟩],(cn l).1,(eF l).1⟩&&(wfF ⟨⟨[103]⟩,[⟨[110]⟩],[⟨[105]⟩],(cW l).1,(ii l).1⟩&&true)))=true;rw[hA,hC];rfl
 have T:dupP (bm l)=false:=rfl;have U:(bm l).U.all (dfF (bm l))=true:=by show((i5 (bo 0) abG (bm l) (cn l).1&&dfE (bo 0) abG (eF l).1)&&((i5 (bo 1) abG (bm l) (cW l).1&&dfE (bo 1) abG (ii l).1)&&true))=true;rw[a.df,b.df,c.df,d.df];rfl
 have Z:(bm l).U.all (arF (bm l))=true:=by show(nv (bm l) (cn l).1&&(nv (bm l) (cW l).1&&true))=true;rw[a.ar,c.ar];rfl
 exact ck_0 E O T U Z
theorem pg_gd{l:List Int}(h: ∀x∈l,in64 x):GdP (bm l):=by
 have⟨⟨a,b,c,d⟩,_⟩:=pg_parts h;have⟨_,E,O⟩:=pg_text h;have T:=di (n:=hdG (rdG l)) (m:=4) e_;have U:=di (n:=(hdG (rdG l)).tdiv 4) (m:=4) e_;refine⟨λq hq=>?_,λf Z=>?_⟩
 ·rcases a0n.1 hq with rfl|hq
  ·refine⟨(by decide:vnm [97]=true),?_,?_⟩
   ·show(1:Int)<=1+(ah (hdG (rdG l)) 4:Int);omega
   show(1:Int)+(ah (hdG (rdG l)) 4:Int)<=16;omega
  obtain rfl:=a0I.1 hq;refine⟨(by decide:vnm [98]=true),?_,?_⟩
  ·show(1:Int)<=1+(ah ((hdG (rdG l)).tdiv 4) 4:Int);omega
  show(1:Int)+(ah ((hdG (rdG l)).tdiv 4) 4:Int)<=16;omega
 rcases a0n.1 Z with rfl|Z
 ·refine⟨?_,E⟩;rw[wf_f];show(true&&dB (cn l).1&&wfE (eF l).1)=true;rw[a.wf,b.wf];rfl
 obtain rfl:=a0I.1 Z;refine⟨?_,O⟩;rw[wf_f];show(true&&dB (cW l).1&&wfE (ii l).1)=true;rw[c.wf,d.wf];rfl
end gr
open gr
namespace ln
open Go.R w3 l1 pt ga gb ca cc cd ta tb bk bg km kp db dc dd de df dg dh dp
theorem md{α:Type} [Rp α] [Inhabited α]{F}{v:Value}{l:List α}(h:SR F v l){x:α}(E:x∈l): ∃cs,Rp.rep F cs x:=by obtain⟨i,hi,rfl⟩:=a1E E;have⟨cf,hc⟩:=h.Gg;have:=((hc i).1 n_ hi).1;rw[a09,a08 hi]at this;exact⟨_,this⟩
mutual
def inE:ExpT->Prop
 |⟨_,n,_,_,ks⟩=>in64 n/\inEs ks
def inEs:List ExpT->Prop
 | []=>True
 |e::l=>inE e/\inEs l
end
mutual
def inS:StmT->Prop
 |⟨_,_,_,n,a,v,ar,t,e⟩=>in64 n/\inE a/\inE v/\inEs ar/\inSs t/\inSs e
def inSs:List StmT->Prop
 | []=>True
 |s::l=>inS s/\inSs l
end
theorem po: ∀{l:List ExpT},(∀x∈l,inE x)->inEs l
 | [],_=>by rw[inEs];trivial
 |e::l,h=>by rw[inEs];exact⟨h e m_,po λx E=>h x (by simp[E])⟩
theorem lN: ∀{l:List StmT},(∀x∈l,inS x)->inSs l
 | [],_=>by rw[inSs];trivial
 |e::l,h=>by rw[inSs];exact⟨h e m_,lN λx E=>h x (by simp[E])⟩
theorem inE_lv{F}: ∀d cs (x:ExpT),(ExpT.lv d).r F cs x->inE x
 |0,_,_,h=>h.elim
 |d+1,cs,x,⟨T,k4,e,U,E,Z,O⟩=>by
  have:inEs x.I:=po λy hy=>by have⟨c,hc⟩:= @md ExpT (ExpT.lv d).rp _ _ _ _ O _ hy;exact inE_lv d c y hc
  cases x;rw[inE];exact⟨E,this⟩
theorem inE_rp{F}{cs:List Value}{x:ExpT}(h:Rp.rep F cs x):inE x:=by have⟨d,h⟩:=h;exact inE_lv d cs x h
theorem pn{F}{v:Value}{l:List ExpT}(h:SR F v l):inEs l:=po λx E=>by have⟨cs,hc⟩:=md h E;exact inE_rp hc
theorem inE_mk{e:ExpT}(h:in64 e.n)(k:inEs e.I):inE e:=by cases e;rw[inE];exact⟨h,k⟩
theorem inS_lv{F}: ∀d cs (x:StmT),(StmT.lv d).r F cs x->inS x
 |0,_,_,h=>h.elim
 |d+1,cs,x,⟨a8,k8,a5,ba,a6,bb,a7,bf,a9,bl,e,h0,U,h2,Z,h4,h5,h6,h7,h8,h9,E,O,T⟩=>by
  have q1:inSs x.G4:=lN λy hy=>by have⟨c,hc⟩:= @md StmT (StmT.lv d).rp _ _ _ _ O _ hy;exact inS_lv d c y hc
  have q2:inSs x.G7:=lN λy hy=>by have⟨c,hc⟩:= @md StmT (StmT.lv d).rp _ _ _ _ T _ hy;exact inS_lv d c y hc
  have q3:=inE_mk Z (pn h8);have q4:=inE_mk h6 (pn h9);have q5:=pn E;cases x;rw[inS];exact⟨U,q3,q4,q5,q1,q2⟩
theorem inSs_sr{F}{v:Value}{l:List StmT}(h:SR F v l):inSs l:=lN λx E=>by have⟨cs,d,hc⟩:=md h E;exact inS_lv d cs x hc
def inP(p:PrgT):Prop:=(∀a∈p.d,in64 a.len)/\∀f∈p.U,inSs f.G6/\inE f.val
theorem inP_sr{F}{v w:Value}{p:PrgT}(E:SR F v p.d)(O:SR F w p.U):inP p:=by
 refine⟨λa ha=>?_,λf hf=>?_⟩
 ·obtain⟨cs,rfl,hc⟩:=md E ha;exact hc
 obtain⟨cs,a1,k1,a2,k2,a3,k3,a8,k8,rfl,q0,T,q2,q3,q4,U,Z⟩:=md O hf;exact⟨inSs_sr U,inE_mk T (pn Z)⟩
mutual
theorem nd_bk: ∀e:ExpT,ndE e<=bkE e
 |⟨_,_,_,_,ks⟩=>by rw[ndE,bkE];have:=nds_bk ks;omega
theorem nds_bk: ∀l:List ExpT,hR l<=dD l
 | []=>by rw[hR,dD];exact a07 _
 |e::l=>by rw[hR,dD];have:=nd_bk e;have:=nds_bk l;omega
end
mutual
theorem ndS_bk: ∀s:StmT,ndS s<=bkS s
 |⟨_,_,_,_,a,v,ar,t,e⟩=>by rw[ndS,bkS];have:=nd_bk a;have:=nd_bk v;have:=nds_bk ar;have:=oP t;have:=oP e;omega
theorem oP: ∀l:List StmT,fw l<=cN l
 | []=>by rw[fw,cN];exact a07 _
 |e::l=>by rw[fw,cN];have:=ndS_bk e;have:=oP l;omega
end
mutual
theorem n5_bk: ∀e:ExpT,nE5 e+1<=2 *bkE e
 |⟨_,_,_,_,ks⟩=>by rw[nE5,bkE];have:=n5s_bk ks;omega
theorem n5s_bk: ∀l:List ExpT,nEs5 l<=2 *dD l
 | []=>by rw[nEs5,dD];exact a07 _
 |e::l=>by rw[nEs5,dD];have:=n5_bk e;have:=n5s_bk l;omega
end
mutual
theorem n5S_bk: ∀s:StmT,nS5 s+1<=2 *bkS s
 |⟨_,_,_,_,a,v,ar,t,e⟩=>by rw[nS5,bkS];have:=n5_bk a;have:=n5_bk v;have:=n5s_bk ar;have:=oS t;have:=oS e;omega
theorem oS: ∀l:List StmT,oR l<=2 *cN l
 | []=>by rw[oR,cN];exact a07 _
 |e::l=>by rw[oR,cN];have:=n5S_bk e;have:=oS l;omega
end
mutual
theorem nb_bk: ∀e:ExpT,bkE e<2000000000->nbE e/\nmE e
 |⟨_,_,nm,_,ks⟩,h=>by
  have h:Q nm.b+dD ks<2000000000:=by rw[bkE]at h;omega
  rw[nbE,nmE];have:=nbs_bk ks M;exact⟨⟨M,this.1⟩,M,this.2⟩
theorem nbs_bk: ∀l:List ExpT,dD l<2000000000->gD l/\nmEs l
 | [],_=>by rw[gD,nmEs];exact⟨trivial,trivial⟩
 |e::l,h=>by
  rw[dD]at h;rw[gD,nmEs];have E:=nb_bk e M;have O:=nbs_bk l M
  exact⟨⟨E.1,O.1⟩,E.2,O.2⟩
end
mutual
theorem nbS_bk: ∀s:StmT,bkS s<2000000000->nbS s/\nmS s
 |⟨_,nm,to,_,a,v,ar,t,e⟩,h=>by
  have h:Q nm.b+Q to.b+bkE a+bkE v+dD ar+cN t+cN e<2000000000:=by rw[bkS]at h;omega
  rw[nbS,nmS];have E:=nb_bk a M;have O:=nb_bk v M;have T:=nbs_bk ar M;have U:=mG t M;have Z:=mG e M
  exact⟨⟨M,M,E.1,O.1,T.1,U.1,Z.1⟩,M,M,E.2,O.2,T.2,U.2,Z.2⟩
theorem mG: ∀l:List StmT,cN l<2000000000->oQ l/\nmSs l
 | [],_=>by rw[oQ,nmSs];exact⟨trivial,trivial⟩
 |e::l,h=>by
  rw[cN]at h;rw[oQ,nmSs];have E:=nbS_bk e M;have O:=mG l M
  exact⟨⟨E.1,O.1⟩,E.2,O.2⟩
end
theorem bkN_at: ∀{l:List Str} {s:Str},s∈l->Q s.b<=bkN l
 |x::l,s,h=>by
  rw[bkN];rcases a0n.1 h with rfl|h
  ·omega
  have:=bkN_at h;omega
theorem mZ: ∀{l:List FunT} {f:FunT},f∈l->bkF f<=bkFs l
 |x::l,s,h=>by
  rw[bkFs];rcases a0n.1 h with rfl|h
  ·omega
  have:=mZ h;omega
theorem bkAs_at: ∀{l:List ArrT} {f:ArrT},f∈l->bkA f<=lj l
 |x::l,s,h=>by
  rw[lj];rcases a0n.1 h with rfl|h
  ·omega
  have:=bkAs_at h;omega
theorem us_ge: ∀l:List StmT,cN l<=15 *uSs l
 | []=>a07 _
 |s::l=>by
  have:=us_ge l;have:bkS s<=15 *uS s:=by rw[bk_s,bk_u];omega
  rw[cN,uSs];omega
structure GdB(p:PrgT):Prop where
 b:bkP p<=1100000
 i:inP p
section
variable {p:PrgT}
theorem GdB.sn(h:GdB p):SnP p:=by
 have hb:=h.b;unfold bkP at hb;have O:=lS p.d;have T:=iS p.U
 refine⟨M,M,λf hf=>?_⟩;have E:=mZ hf;unfold bkF at E;have U:=cY f.A;have Z:=cY f.B;have q6:=oP f.G6;have q7:=nd_bk f.val;have q8:=us_ge f.G6
 exact⟨M,M,M,M⟩
theorem GdB.nb(h:GdB p):NbP p:=by
 have hb:=h.b;unfold bkP at hb;refine⟨λa ha=>?_,λf T=>?_⟩
 ·have:=bkAs_at ha;unfold bkA at this;omega
 have E:=mZ T;unfold bkF at E;have O:=us_ge f.G6;exact⟨M,λs hs=>by have:=bkN_at hs;omega,λs hs=>by have:=bkN_at hs;omega,(mG f.G6 M).1,(nb_bk f.val M).1⟩
theorem GdB.nm(h:GdB p):NmP p:=by
 have hb:=h.b;unfold bkP at hb;have O:=lS p.d;have T:=iS p.U
 refine⟨M,M,λi hi=>?_,λi hi=>?_⟩
 ·have:=bkAs_at (cr (l:=p.d) hi);unfold bkA at this;omega
 have E:=mZ (cr (l:=p.U) hi);unfold bkF at E;have U:=cY (Y p.U i n_).A;have Z:=cY (Y p.U i n_).B;have q6:=oS (Y p.U i n_).G6;have q8:=us_ge (Y p.U i n_).G6;have q7:=n5_bk (Y p.U i n_).val
 exact⟨M,λj hj=>by have:=bkN_at (cr (l:=(Y p.U i n_).A) hj);omega,λj hj=>by have:=bkN_at (cr (l:=(Y p.U i n_).B) hj);omega,M,M,(mG (Y p.U i n_).G6 M).2,(nb_bk (Y p.U i n_).val M).2,M,M⟩
end
theorem txl_{n:Int}(h:in64 n):Q (dI n)<=20:=by
 unfold dI;split
 ·rw[a02];have:=kM 18 n.natAbs M;omega
 have:=kM 18 n.toNat M;omega
theorem tx21{n:Int}(h:in64 n):Q (dI n)<=21:=Nat.le_succ_of_le (txl_ h)
def lns:List (List UInt8)->Nat
 | []=>0
 |t::l=>Q t+lns l
theorem lns3(ts:List (List UInt8)):Q (Y ts 0 [])+Q (Y ts 1 [])+Q (Y ts 2 [])<=lns ts:=by
 match ts with
 | []=>exact a07 _
 | [a]=>show Q a+0+0<=Q a+0;omega
 | [a,b]=>show Q a+Q b+0<=Q a+(Q b+0);omega
 |a::b::c::l=>show Q a+Q b+Q c<=Q a+(Q b+(Q c+lns l));omega
theorem opF_len(e:ExpT)(m:Bool)(t:List UInt8):Q (opF e m t)<=Q t+2:=by
 unfold opF;split
 ·simp only[a00,a02,a03];omega
 omega
theorem opX_len(o:Int):Q (opX o)<=3:=by
 unfold opX;rcases a0p (o-4).toNat (Q opTx) with h|h
 ·have: ∀s∈opTx,Q s.b<=3:=by decide
  exact this _ (cr h)
 rw[bW h];exact a0h _
theorem fmN_l0{k n o:Int}{nm:List UInt8}{ks:List ExpT}{ts:List (List UInt8)}(h:in64 n):Q (fmN k n nm o ks ts)<=lns ts+Q nm+21:=by
 have t:=tx21 h;have l:=lns3 ts;have a:=λi m=>opF_len (Y ks i n_) m (Y ts i [])
 have a0:=a 0 false;have E:=a 1 false;have O:=a 2 false;have T:=a 0 true
 have x:=opX_len o;unfold fmN opK2;split
 ·omega
 split
 ·omega
 split
 ·simp only[a00,a02,a03];omega
 split
 ·simp only[a00,a02,a03];omega
 split
 ·simp only[a00,a02,a03];omega
 split
 ·simp only[a00,a02,a03];omega
 simp only[a00,a02,a03];omega
theorem fmN_len{k n o:Int}{nm:List UInt8}{ks:List ExpT}{ts:List (List UInt8)}(h:in64 n)(T:Q ks=0->ts=[]):Q (fmN k n nm o ks ts)<=lns ts+Q nm+(5+16 *min 1 (k.toNat+Q ks)):=by
 by_cases E:k<=0/\(Q ks)=0
 ·have U:=T E.2;have O:=a0e E.2;have E:=E.1;subst U;subst O;have x:=opX_len o;have e: ∀m,opF (n_:ExpT) m []=[]:=λm=>by unfold opF;rw[if_neg];rintro((h|h)|⟨_,h⟩)<;>exact absurd h e_
  have e: ∀i m,opK2 [] [] i m=[]:=λi m=>e m
  unfold fmN;rw[if_neg M,if_neg M,if_neg M,if_neg M];split
  ·rw[e];show 1<=_;omega
  split
  ·rw[e];show 1<=_;omega
  rw[e,e];simp only[a00,a02,a03];omega
 have:=fmN_l0 (k:=k) (o:=o) (nm:=nm) (ks:=ks) (ts:=ts) h;omega
mutual
theorem fm_bk: ∀e:ExpT,inE e->Q (fmE e)<=bkE e
 |⟨k,n,nm,o,ks⟩,h=>by
  rw[inE]at h;rw[fmE,bkE];have:=fmN_len (k:=k) (nm:=nm.b) (o:=o) (ks:=ks) (ts:=fV ks) h.1 λh=>by rw[a0e h,fV]
  have:=fms_bk ks h.2;omega
theorem fms_bk: ∀l:List ExpT,inEs l->lns (fV l)<=dD l
 | [],_=>a0h _
 |e::l,h=>by
  rw[inEs]at h;rw[fV,dD];have:=fm_bk e h.1;have:=fms_bk l h.2
  show(fmE e).length+lns (fV l)<=_;omega
end
theorem o5: ∀(b:Bool) (l:List Str),Q (jnR b l)<=bkN l
 |_,[]=>a0h _
 |b,x::l=>by have:=o5 true l;rw[jnR,bkN];cases b<;>simp only[a00,a02,a03,if_true,a0j,if_false]<;>omega
theorem bkN_strs: ∀ts:List (List UInt8),bkN (ko ts)=lns ts+2 *Q ts
 | []=>rfl
 |t::l=>by
  have:=bkN_strs l;show 2+Q t+bkN (ko l)=Q t+lns l+2 *(Q l+1)
  omega
theorem fmEs_len: ∀l:List ExpT,Q (fV l)=Q l
 | []=>rfl
 |e::l=>by rw[fV];show(fV l).length+1=Q l+1;rw[fmEs_len l]
theorem fmK_len{s:StmT}{ind t e:List UInt8}(h:in64 s.n/\inE s.G2/\inE s.val/\inEs s.y):Q (ind++fmK s ind t e)<=Q t+Q e+((if s.j=3\/s.j=4 then 3 *Q ind+19 else if s.j=7 then Q ind+28 else Q ind+8)+Q s.pp.b+Q s.K.b+bkE s.G2+bkE s.val+(dD s.y+2 *Q s.y)):=by
 have⟨Z,h2,h3,h4⟩:=h;have t1:=txl_ Z;have t2:=fm_bk _ h2;have t3:=fm_bk _ h3;have t4:=fms_bk _ h4
 have t5:=o5 false (ko (fV s.y));rw[bkN_strs,fmEs_len]at t5;by_cases k1:s.j=1
 ·rw[if_neg M,if_neg M,fk_1 k1];simp only[a00,a02,a03];omega
 by_cases k2:s.j=2
 ·rw[if_neg M,if_neg M,fk_2 k2];simp only[a00,a02,a03];omega
 by_cases U:s.j=5
 ·rw[if_neg M,if_neg M,fk_5 U];simp only[a00,a02,a03];omega
 by_cases E:s.j=7
 ·rw[if_neg M,if_pos E,fk_7 E];simp only[a00,a02,a03];omega
 by_cases T:s.j=4
 ·rw[if_pos (.inr T),fk_4 T];simp only[a00,a02,a03];omega
 by_cases O:s.j=3
 ·rw[if_pos (.inl O),fk_3 O];split<;>simp only[a00,a02,a03]<;>omega
 rw[if_neg M,if_neg E,fk_6 k1 k2 U E T O];unfold jn8;simp only[a00,a02,a03];omega
mutual
theorem fmS_bk: ∀(s:StmT) (k:Nat) (ind:List UInt8),inS s->dS s k<=20->Q ind=2 *k+2->Q (fmS s ind)<=bkS s
 |⟨kd,nm,to,n,a,v,ar,t,e⟩,k,ind,h,hd,hi=>by
  rw[inS]at h;rw[dS]at hd;rw[fmS,bkS];have O:=mP t (k+1) (ind++[32,32]) h.2.2.2.2.1 M (by rw[a00,hi];show 2 *k+2+2=_;omega);have T:=mP e (k+1) (ind++[32,32]) h.2.2.2.2.2 M (by rw[a00,hi];show 2 *k+2+2=_;omega);have E:=fmK_len (s:=⟨kd,nm,to,n,a,v,ar,t,e⟩) (ind:=ind) (t:=eC t (ind++[32,32])) (e:=eC e (ind++[32,32])) ⟨h.1,h.2.1,h.2.2.1,h.2.2.2.1⟩;simp only at E;split at E
  ·omega
  split at E<;>omega
theorem mP: ∀(l:List StmT) (k:Nat) (ind:List UInt8),inSs l->dSs l k<=20->Q ind=2 *k+2->Q (eC l ind)<=cN l
 | [],_,_,_,_,_=>by rw[eC];exact a0h _
 |s::l,k,ind,h,hd,hi=>by rw[inSs]at h;rw[dSs]at hd;rw[eC,cN,a00];have:=fmS_bk s k ind h.1 M hi;have:=mP l k ind h.2 M hi;omega
end
theorem fmS_u: ∀s:StmT,inS s->dS s 0<=20->Q (fmS s [32,32])<=uS s
 |⟨kd,nm,to,n,a,v,ar,t,e⟩,h,hd=>by
  rw[inS]at h;rw[dS]at hd;rw[fmS,uS];have O:=mP t (0+1) ([32,32]++[32,32]) h.2.2.2.2.1 M V;have T:=mP e (0+1) ([32,32]++[32,32]) h.2.2.2.2.2 M V;have E:=fmK_len (s:=⟨kd,nm,to,n,a,v,ar,t,e⟩) (ind:=[32,32]) (t:=eC t ([32,32]++[32,32])) (e:=eC e ([32,32]++[32,32])) ⟨h.1,h.2.1,h.2.2.1,h.2.2.2.1⟩;simp only[a02,a03]at E;split at E
  ·omega
  split at E<;>omega
theorem fmSs_u: ∀l:List StmT,inSs l->dSs l 0<=20->Q (eC l [32,32])<=uSs l
 | [],_,_=>by rw[eC];exact a0h _
 |s::l,h,hd=>by rw[inSs]at h;rw[dSs]at hd;rw[eC,uSs,a00];have:=fmS_u s h.1 M;have:=fmSs_u l h.2 M;omega
theorem dpG_at: ∀{l:List FunT} {f:FunT},dpG l=false->f∈l->dSs f.G6 0<=20
 |x::l,f,h,hf=>by
  rw[dpG,a0H]at h;rcases a0n.1 hf with rfl|hf
  ·have:=h.1;simp only[a0H,decide_eq_false_iff_not]at this;omega
  exact dpG_at h.2 hf
theorem fn_len{f:FunT}(h:inSs f.G6/\inE f.val)(hd:dSs f.G6 0<=20):Q (fnT f)<=bkF f:=by have E:=fmSs_u f.G6 h.1 hd;have O:=fm_bk f.val h.2;have T:=o5 false f.A;have U:=o5 false f.B;have Z:=cY f.A;unfold fnT lcT jn8 bkF;split<;>simp only[a00,a02,a03]<;>omega
theorem fls_len: ∀{l:List FunT},(∀f∈l,Q (fnT f)<=bkF f)->Q (l.flatMap fnT)<=bkFs l
 | [],_=>a0h _
 |f::l,h=>by
  rw[a1r,a00,bkFs];have:=h f m_;have:=fls_len (l:=l) λg E=>h g (by simp[E])
  omega
theorem als_len: ∀{l:List ArrT},(∀a∈l,in64 a.len)->Q (l.flatMap arT)<=lj l
 | [],_=>a0h _
 |a::l,h=>by
  rw[a1r,a00,lj];have q:=txl_ (h a m_);have:=als_len (l:=l) λg E=>h g (by simp[E])
  have e:Q (arT a)<=bkA a:=by unfold arT bkA;simp only[a00,a02,a03];omega
  omega
theorem GdB.lb{p:PrgT}(h:GdB p)(c:chk p=0):Q (txP p)<=bkP p:=by
 have T:=(ck_ok c).2;unfold bkP;unfold exL at T;simp only[a0H]at T;unfold txP;rw[a00];have E:=als_len h.i.1;have O:=fls_len (l:=p.U) λf U=>fn_len (h.i.2 f U) (dpG_at T.2 U)
 omega
theorem GdB.len{p:PrgT}(h:GdB p)(c:chk p=0):Q (txP p)<=2000000000:=by have:=h.lb c;have:=h.b;omega
theorem GdB.len5{p:PrgT}(h:GdB p)(c:ckP p=0):Q (txP p)<=2000000000:=h.len ((ck_iff p).1 c)
theorem prs_eq(p:PrgT):cX p=prT p:=by
 unfold cX prT;by_cases h:ckP p=0
 ·rw[if_pos h,if_pos ((ck_iff p).1 h)]
 rw[if_neg h,if_neg λk=>h ((ck_iff p).2 k)]
theorem GdB.of{p:PrgT}{F}{v w:Value}(hb:bkP p<=1100000)(E:SR F v p.d)(O:SR F w p.U):GdB p:=⟨hb,inP_sr E O⟩
theorem bk_gen{l:List Int}:bkP (bm l)<=12000:=by
 have h:=bk_all l;have E:=(kz (cn l).1).1;have O:=(kz (cW l).1).1
 unfold bkP bm;simp only[lj,bkA,bkFs,bkF,bkN,a02,a03];omega
end ln
open ln
namespace gd
open Go.R w3 l1 pt ca cc cd ta tb
mutual
theorem e_in: ∀e:ExpT,ln.inE e->gp.inE e
 |⟨k,n,nm,op,ks⟩,h=>by rw[ln.inE]at h;rw[gp.inE];exact⟨h.1,es_in ks h.2⟩
theorem es_in: ∀l:List ExpT,ln.inEs l->gp.inE.inEs l
 | [],_=>by rw[gp.inE.inEs];trivial
 |e::l,h=>by rw[ln.inEs]at h;rw[gp.inE.inEs];exact⟨e_in e h.1,es_in l h.2⟩
end
mutual
theorem s_in: ∀s:StmT,ln.inS s->ru.mM s
 |⟨k,nm,to,n,a,v,ar,t,e⟩,h=>by rw[ln.inS]at h;have⟨_,E,O,T,U,Z⟩:=h;rw[ru.mM];exact⟨e_in a E,e_in v O,es_in ar T,ss_in t U,ss_in e Z⟩
theorem ss_in: ∀l:List StmT,ln.inSs l->ru.inL l
 | [],_=>by rw[ru.inL];trivial
 |s::l,h=>by rw[ln.inSs]at h;rw[ru.inL];exact⟨s_in s h.1,ss_in l h.2⟩
end
theorem gd{p:PrgT}(c:chk p=0)(h:ln.inP p):ru.GdP p:=by
 have⟨T,U⟩:=ck_ok c;unfold wfP at T;simp only[a04,a0r]at T;unfold exL at U;simp only[a0H]at U;refine⟨λa ha=>?_,λf Z=>?_⟩
 ·have q:=List.any_eq_false.1 U.1.2 a ha;simp only[a0E,decide_eq_true_eq,not_or,Int.not_lt]at q;exact⟨T.1 a ha,M,M⟩
 have⟨E,O⟩:=h.2 f Z;exact⟨T.2 f Z,ss_in _ E,e_in _ O⟩
end gd
open gd
namespace sq
variable (ex:FuncId) {F:Fz} {H:Heap} {R:List Fp}
inductive Few:ExpT->Prop
 |mk {a:ExpT} (h:Q a.I<=1000000) (k: ∀x∈a.I,Few x):Few a
theorem Few.len{a:ExpT}(h:Few a):Q a.I<=1000000:=by cases h with|mk h _=>exact h
theorem Few.kid{a:ExpT}{i:Nat}(h:Few a)(hi:i<Q a.I):Few (Y a.I i n_):=by
 cases h with
 |mk _ k=>exact k _ (by rw[a09,a08 hi];exact a18 hi)
theorem kid_lt{a:ExpT}{i:Nat}(h:i<Q a.I):SizeOf.sizeOf (Y a.I i n_)<SizeOf.sizeOf a:=by
 have E:Y a.I i n_∈a.I:=by rw[a09,a08 h];exact a18 h
 have O:=a1W E;cases a with
 |mk k n nm op kids=>
  have T:SizeOf.sizeOf (ExpT.mk k n nm op kids)=1+SizeOf.sizeOf k+SizeOf.sizeOf n+SizeOf.sizeOf nm+SizeOf.sizeOf op+SizeOf.sizeOf kids:=ExpT.mk.sizeOf_spec ..
  rw[T]
  have U:SizeOf.sizeOf (Y (ExpT.mk k n nm op kids).I i n_)<SizeOf.sizeOf kids:=O
  omega
def eqP{α:Type}(a b:α):Bool:= @decide (a=b) (Classical.propDecidable _)
theorem eqP_y{α:Type}{a b:α}(h:a=b):true=eqP a b:=(@decide_eq_true _ (Classical.propDecidable _) h).symm
theorem mR{α:Type}{a b:α}(h:a≠b):false=eqP a b:=(@decide_eq_false _ (Classical.propDecidable _) h).symm
theorem nt{α:Type}{a b:α}(h:eqP a b=true):a=b:= @of_decide_eq_true _ (Classical.propDecidable _) h
theorem lD{α:Type}(a:α):eqP a a=true:=(eqP_y V).symm
theorem alike{α:Type}{d:α}{a b:List α}(T:Q a=Q b)(h: ∀j,j<Q a->Y a j d=Y b j d):a=b:=List.ext_getElem T λj E O=>by have:=h j E;rwa [a09,a09,a08 E,a08 O]at this
theorem sE1{x y:Str}(h:x.b=y.b):x=y:=by cases x;cases y;exact congrArg _ h
theorem exp_eq{a b:ExpT}(O:a.j=b.j)(T:a.n=b.n)(E:a.pp.b=b.pp.b)(U:a.op=b.op)(Z:a.I=b.I):a=b:=by cases a;cases b;have:=sE1 E;simp_all
theorem stp{α:Type}{d:α}{a b:List α}{i:Nat}(h: ∀j,j<i->Y a j d=Y b j d)(e:Y a i d=Y b i d): ∀j,j<i+1->Y a j d=Y b j d:=λj E=>by
 rcases a0p j i with q|q
 ·exact h j q
 rw[show j=i by omega];exact e
theorem ml{al a2}(a:List Str){an a3}(b:List Str)(hs:Hb H F H [] R)(ha:Sr F al a a2)(hb:Sr F an b a3)(a8:Q a<=1000000):kKt ex 44 [(S_ al a a2),(S_ an b a3)] H λv H'=> ∃(o:Bool),H'=H/\v= .bool o/\o=eqP a b:=by
 refine ay Tryz.func44 V V (aj 1 V (wr 3 [] 4 4 [] [(4,false)] trivial V V λ_=>wr 1 [] 6 10 [] [(10,((Q a:Int) !=(Q b:Int)))] trivial V V λ_=>zI 1 3 (λc3=>?_) λc3=>?_))
 ·refine wr 1 [] 4 4 [] [(4,false)] trivial V V λ_=>ag ⟨.inr V,_,V,_,V,V,(by(refine mR λar=>?_;subst ar;first|(simp_all;done)|(simp_all[lD];done)|omega))⟩
 refine wr 2 [] 11 13 [] [(12,(.int _ _)),(13,(.int _ 0))] trivial V V λ_=>ak (λ(mm:Nat) f H'=> ∃(i:Nat),H'=H/\aI f [(0,(sL al _ a2)),(1,(sL an _ a3)),(12,(.int _ _)),(13,(.int _ (i:Int)))]/\mm=Q a-i/\(i<=Q a)/\(Q a<=1000000)/\(Q b=Q a)/\(∀j,j<i->Y a j n_=Y b j n_)) _ ⟨0,V,f_,V,M,M,M,(by intro j hj;omega)⟩ ?_
 rintro a1 f6 H ⟨i,rfl,O,rfl,h1,h2,h3,hq⟩ Z;refine aw _ O (λ_=>?_);clear O;refine aj 1 V (wr 2 [] 14 14 [] [(14,(decide ((i:Int)<(Q a:Int))))] trivial V V λ_=>zd 4 5 (λc8=>?_) λc8=>?_)
 ·refine wr 2 [] 15 15 [5] [(5,(.int _ _))] trivial V V λ_=>?_
  have⟨ax,T⟩:=Sv.Gg (SR.sv ha hs);have⟨aA,U⟩:=Sv.Gg (SR.sv hb hs);refine wrDp 1 16 24 [] [(24,((Y a i _).b !=(Y b i _).b))] (Ha_ (Sv.ix (SR.sv ha hs)) (Hl_ 3 (ql 9 0 (hc0 (vS (T i))) V V) (Ha_ (Sv.ix (SR.sv hb hs)) (Hl_ 7 (ql 9 0 (hc0 (vS (U i))) V V) Hn_)))) V V V λ_=>zi 1 2 (λE=>?_) λE=>?_
  ·try simp only[BS]at E
   refine wr 1 [] 4 4 [] [(4,false)] trivial V V λ_=>ag ⟨.inr V,_,V,_,V,V,(by(refine mR λar=>?_;subst ar;first|(simp_all;done)|(simp_all[lD];done)|omega))⟩
  try simp only[BS]at E
  refine wr 1 [] 13 13 [25] [(13,(.int _ _))] (vA (vi) trivial) V V λ_=>?_
  refine Z _ _ _ ?_ ⟨i+1,V,f_,V,M,M,M,(stp hq (sE1 X))⟩;omega
 refine wr 1 [] 4 4 [] [(4,true)] trivial V V λ_=>ag ⟨.inr V,_,V,_,V,V,(eqP_y (alike M λj hj=>hq j M))⟩
theorem nk: ∀(fuel:Nat) {an} {aA:Nat} (a:ExpT) {ax} {a1:Nat} (b:ExpT) {F} {H:Heap} {R:List Fp} (hs:Hb H F H [] R) (a9:in64 a.j) (ba:in64 a.n) (bb:in64 a.op) (U:Sr F an a.I aA) (bf:in64 b.j) (bl:in64 b.n) (bn:in64 b.op) (Z:Sr F ax b.I a1) (bF:Few a),SizeOf.sizeOf a<fuel->kKt ex 15 [(aG [a.j,a.n,(tX a.pp.b),a.op,(S_ an a.I aA)]),(aG [b.j,b.n,(tX b.pp.b),b.op,(S_ ax b.I a1)])] H λv H'=> ∃(o:Bool),∃F',F.le F'/\Hb H F' H' [] R/\v= .bool o/\o=eqP a b:=by
 intro fuel;induction fuel with
 |zero=>intros;omega
 |succ fuel ih=>
 intro an aA a ax a1 b F H R hs a9 ba bb U bf bl bn Z bF dn;have ez:=bF.len;refine ay Tryz.func15 V V (aj 1 V (ab (bd (aW hs V V) V V ?_)));rintro _ H2 _ ⟨b1,rfl,b5,_⟩;refine bd (aW b5 V V) V V ?_;rintro _ H4 _ ⟨b3,rfl,E,_⟩;refine za (.bool false) (ai 3 V (bQ 1 6 40 [] [(40,(((((a.j !=b.j)||(a.n !=b.n))||(a.pp.b !=b.pp.b))||(a.op !=b.op))||((Q a.I:Int) !=(Q b.I:Int))))] (Hr_ 1 0 (Hr_ 3 1 (dj 7 (λ_=>(ql 2 1 (h_ E V) V V)) (dj 9 (λ_=>(ql 2 1 (i_ E V) V V)) (dj 14 (λ_=>(ql 9 2 (h_ E V) V V)) (dj 16 (λ_=>(ql 9 2 (i_ E V) V V)) (dj 21 (λ_=>(ql 3 3 (h_ E V) V V)) (dj 23 (λ_=>(ql 3 3 (i_ E V) V V)) (dj 28 (λ_=>(ql 44 4 (h_ E V) V V)) (dj 31 (λ_=>(ql 44 4 (i_ E V) V V)) Hn_)))))))))) E V V λ_=>zI 1 3 (λc6=>?_) λc6=>?_))
 ·refine wr 1 [] 4 4 [] [(4,false)] trivial V V λ_=>ag ⟨.inr V,_,V,_,_,fR,(HS.G3 E),V,(by(refine mR λar=>?_;subst ar;first|(simp_all;done)|(simp_all[lD];done)|omega))⟩
 refine bQ 2 41 44 [] [(43,(.int _ _)),(44,(.int _ 0))] (Hr_ 1 0 Hn_) E V V λ_=>ak (λ(mm:Nat) f H'=> ∃(i:Nat),∃F',F.le F'/\HS _ F' H' [[(b1,.cells [_,_,_,_,_] _ _)],[(b3,.cells [_,_,_,_,_] _ _)]] R/\aI f [(2,(pT b1 0)),(3,(pT b3 0)),(43,(.int _ _)),(44,(.int _ (i:Int)))]/\mm=Q a.I-i/\(i<=Q a.I)/\(∀j,j<i->Y a.I j n_=Y b.I j n_)) _ ⟨0,_,fR,E,f_,V,M,(by intro j hj;omega)⟩ ?_
 rintro c7 f9 H9 ⟨i,F9,al,T,a8,rfl,h1,hq⟩ b6;refine aw _ a8 (λ_=>?_);clear a8;have⟨U,Z⟩:=M2 al U Z;refine aj 1 V (wr 2 [] 45 45 [] [(45,(decide ((i:Int)<(Q a.I:Int))))] trivial V V λ_=>zd 4 5 (λb2=>?_) λb2=>?_)
 ·refine wr 2 [] 46 46 [5] [(5,(.int _ _))] trivial V V λ_=>az V ?_
  have⟨c3,a3⟩:=Sv.Gg (SR.sv U T);have⟨b7,b8,b9,a6⟩:=ExpT.fx (a3 i);have⟨c4,a4⟩:=Sv.Gg (SR.sv Z T);have⟨ch,ci,co,a7⟩:=ExpT.fx (a4 i);refine cC 10 47 56 [] [(51,(aG [_,_,_,_,_])),(56,(aG [_,_,_,_,_]))] (Hr_ 1 0 (Ha_ (Sv.ix (SR.sv U T)) (Hl_ 4 (qn 46 0 5 (hc0 (ExpT.vw (a3 i))) V V V V) (Hr_ 6 1 (Ha_ (Sv.ix (SR.sv Z T)) (Hl_ 9 (qn 46 0 5 (hc0 (ExpT.vw (a4 i))) V V V V) Hn_)))))) T V V λ_=>bH (W:=[]) (bj V V V) V V V (ih _ _ (HS.call T.G5) M M M a6 M M M a7 (bF.kid M) (by(have q:=kid_lt (a:=a) (i:=i) M;omega))) (kb V) ?_
  rintro _ bw ⟨c8,c5,a2,O,rfl,rfl⟩;refine⟨Wr.did O.log,λbt a5=>?_⟩;replace O:=HS.G8 T.G5 V O;replace O:=HS.lg O T a5;generalize ({bw with log:=bt}:Heap)=cL at O⊢;refine wfv (bY V) (aQ 1 V (zI 1 2 (λb4=>?_) λb4=>?_))
  ·refine wr 1 [] 4 4 [] [(4,false)] trivial V V λ_=>ag ⟨.inr V,_,V,_,_,(fT (al) a2),(HS.G3 O),V,(by(refine mR λar=>?_;subst ar;first|(simp_all;done)|(simp_all[lD];done)|omega))⟩
  refine wr 1 [] 44 44 [59] [(44,(.int _ _))] (vA (vi) trivial) V V λ_=>?_
  refine b6 _ _ _ ?_ ⟨i+1,_,(fT (al) a2),O,f_,V,M,(stp hq (nt X))⟩;omega
 refine wr 1 [] 4 4 [] [(4,true)] trivial V V λ_=>ag ⟨.inr V,_,V,_,_,(al),(HS.G3 T),V,(eqP_y (exp_eq (by simp_all) (by simp_all) (by simp_all) (by simp_all) (alike M λj hj=>hq j M)))⟩
theorem iL{E T}(a:ExpT){O U}(b:ExpT)(hs:Hb H F H [] R)(Z:in64 a.j)(al:in64 a.n)(an:in64 a.op)(ax:Sr F E a.I T)(aA:in64 b.j)(a1:in64 b.n)(a2:in64 b.op)(a3:Sr F O b.I U)(ar:Few a):kKt ex 15 [(aG [a.j,a.n,(tX a.pp.b),a.op,(S_ E a.I T)]),(aG [b.j,b.n,(tX b.pp.b),b.op,(S_ O b.I U)])] H λv H'=> ∃(o:Bool),∃F',F.le F'/\Hb H F' H' [] R/\v= .bool o/\o=eqP a b:=
 nk ex (SizeOf.sizeOf a+1) a b hs Z al an ax aA a1 a2 a3 ar (a0y _)
inductive FewL:List StmT->Prop
 |mk {l:List StmT} (h:Q l<=1000000) (k1: ∀x∈l,Few x.G2) (k2: ∀x∈l,Few x.val) (k3: ∀x∈l,Q x.y<=1000000) (k4: ∀x∈l,∀e∈x.y,Few e) (k5: ∀x∈l,FewL x.G4) (k6: ∀x∈l,FewL x.G7):FewL l
theorem fy{α:Type} [Inhabited α]{l:List α}{i:Nat}(h:i<Q l):Y l i n_∈l:=by rw[a09,a08 h];exact a18 h
theorem FewL.len{l:List StmT}(h:FewL l):Q l<=1000000:=by cases h with|mk h=>exact h
theorem FewL.G2{l:List StmT}{i:Nat}(h:FewL l)(hi:i<Q l):Few (Y l i n_).G2:=by cases h with|mk h k1 k2 E O T U=>exact k1 _ (fy hi)
theorem FewL.val{l:List StmT}{i:Nat}(h:FewL l)(hi:i<Q l):Few (Y l i n_).val:=by cases h with|mk h k1 k2 E O T U=>exact k2 _ (fy hi)
theorem FewL.alen{l:List StmT}{i:Nat}(h:FewL l)(hi:i<Q l):Q (Y l i n_).y<=1000000:=by cases h with|mk h k1 k2 E O T U=>exact E _ (fy hi)
theorem FewL.arg{l:List StmT}{i j:Nat}(h:FewL l)(hi:i<Q l)(Z:j<Q (Y l i n_).y):Few (Y (Y l i n_).y j n_):=by cases h with|mk h k1 k2 O E T U=>exact E _ (fy hi) _ (fy Z)
theorem FewL.G4{l:List StmT}{i:Nat}(h:FewL l)(hi:i<Q l):FewL (Y l i n_).G4:=by cases h with|mk h k1 k2 O T E U=>exact E _ (fy hi)
theorem FewL.G7{l:List StmT}{i:Nat}(h:FewL l)(hi:i<Q l):FewL (Y l i n_).G7:=by cases h with|mk h k1 k2 O T U E=>exact E _ (fy hi)
theorem stm_sz(x:StmT):SizeOf.sizeOf x.G4<SizeOf.sizeOf x/\SizeOf.sizeOf x.G7<SizeOf.sizeOf x:=by
 cases x with
 |mk a b c d e f g t l=>
  have E:SizeOf.sizeOf (StmT.mk a b c d e f g t l)=1+SizeOf.sizeOf a+SizeOf.sizeOf b+SizeOf.sizeOf c+SizeOf.sizeOf d+SizeOf.sizeOf e+SizeOf.sizeOf f+SizeOf.sizeOf g+SizeOf.sizeOf t+SizeOf.sizeOf l:=StmT.mk.sizeOf_spec ..
  rw[E]
  exact⟨by show SizeOf.sizeOf t<_;omega,by show SizeOf.sizeOf l<_;omega⟩
theorem thn_lt{a:List StmT}{i:Nat}(h:i<Q a):SizeOf.sizeOf (Y a i n_).G4<SizeOf.sizeOf a:=a1V (stm_sz _).1 (a1W (fy h))
theorem els_lt{a:List StmT}{i:Nat}(h:i<Q a):SizeOf.sizeOf (Y a i n_).G7<SizeOf.sizeOf a:=a1V (stm_sz _).2 (a1W (fy h))
def FewP(p:PrgT):Prop:=Q p.d<=1000000/\(Q p.U)<=1000000/\∀i,i<Q p.U->Q (Y p.U i n_).A<=1000000/\(Q (Y p.U i n_).B)<=1000000/\FewL (Y p.U i n_).G6/\Few (Y p.U i n_).val
theorem stm_eq{a b:StmT}(T:a.j=b.j)(E:a.pp.b=b.pp.b)(O:a.K.b=b.K.b)(U:a.n=b.n)(Z:a.G2=b.G2)(h6:a.val=b.val)(h7:a.y=b.y)(h8:a.G4=b.G4)(h9:a.G7=b.G7):a=b:=by cases a;cases b;have:=sE1 E;have:=sE1 O;simp_all
theorem stm_of{x y:StmT}(h:((((((((((x.j !=y.j)||((x.pp.b) !=(y.pp.b)))||((x.K.b) !=(y.K.b)))||(x.n !=y.n))||(!(eqP (x.G2) (y.G2))))||(!(eqP (x.val) (y.val))))||((Q (x.y):Int) !=(Q (y.y):Int)))||(!(eqP (x.G4) (y.G4))))||(!(eqP (x.G7) (y.G7)))))=false):Q x.y=Q y.y/\(x.y=y.y->x=y):=by simp only[a0H,bne_eq_false_iff_eq,Bool.not_eq_false']at h;have⟨⟨⟨⟨⟨⟨⟨⟨E,O⟩,T⟩,U⟩,Z⟩,h6⟩,h7⟩,h8⟩,h9⟩:=h;exact⟨M,λh=>stm_eq E O T U (nt Z) (nt h6) h (nt h8) (nt h9)⟩
theorem prg_eq{a b:PrgT}(E:a.d=b.d)(O:a.U=b.U):a=b:=by cases a;cases b;simp_all
theorem prg_l{n m p q:Nat}(h:(((n:Int) !=(m:Int))||((p:Int) !=(q:Int)))=false):n=m/\p=q:=by simp only[a0H,bne_eq_false_iff_eq]at h;omega
theorem arr_of{x y:ArrT}(h:(!((x.pp.b==y.pp.b)&&((x.len==y.len)&&true)))=false):x=y:=by simp only[Bool.not_eq_false',a0D,a04,beq_iff_eq]at h;cases x;cases y;have:=sE1 h.1;simp_all
theorem fun_of{x y:FunT}(h:((((((x.pp.b) !=(y.pp.b))||(!(eqP x.A y.A)))||(!(eqP x.B y.B)))||(!(eqP x.G6 y.G6)))||(!(eqP x.val y.val)))=false):x=y:=by
 simp only[a0H,bne_eq_false_iff_eq,Bool.not_eq_false']at h;have⟨⟨⟨⟨E,O⟩,T⟩,U⟩,Z⟩:=h;have:=sE1 E;have:=nt O;have:=nt T;have:=nt U;have:=nt Z
 cases x;cases y;simp_all
theorem mn: ∀(fuel:Nat) {h0} {ki:Nat} (a:List StmT) {ie} {kk:Nat} (b:List StmT) {F} {H:Heap} {R:List Fp} (hs:Hb H F H [] R) (ha:Sr F h0 a ki) (hb:Sr F ie b kk) (hD:FewL a),SizeOf.sizeOf a<fuel->kKt ex 45 [(S_ h0 a ki),(S_ ie b kk)] H λv H'=> ∃(o:Bool),∃F',F.le F'/\Hb H F' H' [] R/\v= .bool o/\o=eqP a b:=by
 intro fuel;induction fuel with
 |zero=>intros;omega
 |succ fuel ih=>
 intro h0 ki a ie kk b F H R hs ha hb hD mf;have pm:=hD.len;refine ay Tryz.func45 V V (aj 1 V (wr 3 [] 4 4 [] [(4,false)] trivial V V λ_=>wr 1 [] 9 13 [] [(13,((Q a:Int) !=(Q b:Int)))] trivial V V λ_=>zI 1 3 (λc3=>?_) λc3=>?_))
 ·refine wr 1 [] 4 4 [] [(4,false)] trivial V V λ_=>ag ⟨.inr V,_,V,_,_,fR,(HS.G3 hs),V,(by(refine mR λkd=>?_;subst kd;first|(simp_all;done)|(simp_all[lD];done)|omega))⟩
 refine wr 2 [] 14 16 [] [(15,(.int _ _)),(16,(.int _ 0))] trivial V V λ_=>ak (λ(mm:Nat) f H'=> ∃(i:Nat),∃F',F.le F'/\HS _ F' H' [] R/\aI f [(0,(sL h0 _ ki)),(1,(sL ie _ kk)),(15,(.int _ _)),(16,(.int _ (i:Int)))]/\mm=Q a-i/\(i<=Q a)/\(Q b=Q a)/\(∀j,j<i->Y a j n_=Y b j n_)) _ ⟨0,_,fR,hs,f_,V,M,M,(by intro j hj;omega)⟩ ?_
 rintro i3 f6 H6 ⟨i,F6,b3,b4,fk,rfl,h1,h3,hq⟩ hg;refine aw _ fk (λ_=>?_);clear fk;have⟨ha,hb⟩:=M2 b3 ha hb;refine aj 1 V (wr 2 [] 17 17 [] [(17,(decide ((i:Int)<(Q a:Int))))] trivial V V λ_=>zd 4 5 (λc8=>?_) λc8=>?_)
 ·refine wr 2 [] 18 18 [5] [(5,(.int _ _))] trivial V V λ_=>az V (zfm _ (zfm _ (zx _ i (SR.sv ha b4.G5) ?_)))
  have⟨hV,f2,fu⟩:=Sv.at (SR.sv ha b4.G5) (aT (x:=n_) (show i<Q a from by omega));obtain⟨e1,e6,c7,d8,c9,d9,dk,ea,dn,ee,rfl,hh,hk,hl,hm,hn,ho,g8,g9,e8,b1,O,bf,a5⟩:=(StmT.out f2)
  refine bh (v:=(aG [_,_,_,_,_,_,_,_,_,_,_,_,_,_,_,_,_])) (cm (i:=0) V V V fu V V V) V V (iz V) (kb V) (zfm _ (zfm _ (zx _ i (SR.sv hb b4.G5) ?_)));have⟨hW,f3,f1⟩:=Sv.at (SR.sv hb b4.G5) (aT (x:=n_) (show i<Q b from by omega));obtain⟨e2,e7,dt,em,d1,et,d2,ez,d3,e0,rfl,hp,hr,ht,hu,hv,hw,he,hf,fb,b2,T,bl,a6⟩:=(StmT.out f3)
  refine bh (v:=(aG [_,_,_,_,_,_,_,_,_,_,_,_,_,_,_,_,_])) (cm (i:=0) V V V f1 V V V) V V (iz V) (kb V) (znD b4 V λa9 hF f4=>znD f4 V λba hG b7=>ef (id:= .x [a9]) (ck (q:=0) b7.G5 V V V V V V V V V) V (by rintro _ _ _ ⟨_,hwr⟩;exact dl V V (Wr.did hwr)) (⟨.inl V,.inl V,.inr (SR.nin hb b7 (i:=0) (j:=0) V M),l_⟩) ?_);rintro _ g0 _ ⟨b0,_⟩ f7 e3;replace b0:=HS.lg b0 b7 e3;generalize ({g0 with log:=f7}:Heap)=hH at b0⊢;refine ef (ck (q:=1) b0.G5 V V V V V V V V V) V (by rintro _ _ _ ⟨_,hwr⟩;exact dl V V (Wr.did hwr)) (kb V) ?_;rintro _ g3 _ ⟨E,_⟩ f9 e4;replace E:=HS.lg E b0 e4;generalize ({g3 with log:=f9}:Heap)=hI at E⊢;refine fE (aj 3 V (dq 27 93 [] [(93,((((((((((Y a i n_).j !=(Y b i n_).j)||((Y a i n_).pp.b !=(Y b i n_).pp.b))||((Y a i n_).K.b !=(Y b i n_).K.b))||((Y a i n_).n !=(Y b i n_).n))||(!(eqP (Y a i n_).G2 (Y b i n_).G2)))||(!(eqP (Y a i n_).val (Y b i n_).val)))||((Q (Y a i n_).y:Int) !=(Q (Y b i n_).y:Int)))||(!(eqP (Y a i n_).G4 (Y b i n_).G4)))||(!(eqP (Y a i n_).G7 (Y b i n_).G7))))] (λH'=> ∃F',F6.le F'/\Hb H F' H' [(fP a9 [(Y a i n_).j,(tX (Y a i n_).pp.b),(tX (Y a i n_).K.b),(Y a i n_).n,(Y a i n_).G2.j,(Y a i n_).G2.n,(tX (Y a i n_).G2.pp.b),(Y a i n_).G2.op,(sL e1 (Q (Y a i n_).G2.I) e6),(Y a i n_).val.j,(Y a i n_).val.n,(tX (Y a i n_).val.pp.b),(Y a i n_).val.op,(sL c7 (Q (Y a i n_).val.I) d8),(sL c9 (Q (Y a i n_).y) d9),(sL dk (Q (Y a i n_).G4) ea),(sL dn (Q (Y a i n_).G7) ee)]),(fP ba [(Y b i n_).j,(tX (Y b i n_).pp.b),(tX (Y b i n_).K.b),(Y b i n_).n,(Y b i n_).G2.j,(Y b i n_).G2.n,(tX (Y b i n_).G2.pp.b),(Y b i n_).G2.op,(sL e2 (Q (Y b i n_).G2.I) e7),(Y b i n_).val.j,(Y b i n_).val.n,(tX (Y b i n_).val.pp.b),(Y b i n_).val.op,(sL dt (Q (Y b i n_).val.I) em),(sL d1 (Q (Y b i n_).y) et),(sL d2 (Q (Y b i n_).G4) ez),(sL d3 (Q (Y b i n_).G7) e0)])] R) ?_ ?_))
  ·refine ab (ad (v:=(pT a9 0)) (bI V V) V V (ad (aU (i:=0) V V (h_ E V) V V) V V (ad (v:=(pT ba 0)) (bI V V) V V (ad (aU (i:=0) V V (i_ E V) V V) V V (ad (bK V V V V) V V ?_)))));refine zm (.bool ((Y a i _).j !=(Y b i _).j)) (bM V V (λU=>?_) (λU=>?_))
   ·have ch:=U;try simp only[BS]at ch
    refine ad (v:=(pT a9 1)) (bI V V) V V (aC V U (ad (aU (i:=1) V V (h_ E V) V V) V V (aC V U (ad (v:=(pT ba 1)) (bI V V) V V (aC V U ?_)))));refine ad (aU (i:=1) V V (i_ E V) V V) V V (aC V U (ad (ap_neS V V) V V (ad (v:=(.bool ((Y a i _).pp.b !=(Y b i _).pp.b))) (aH V U V) V V (zm (.bool ((Y a i _).pp.b !=(Y b i _).pp.b)) (bM V V (λZ=>?_) (λZ=>?_))))))
    ·have ci:=Z;try simp only[BS]at ci
     refine ad (v:=(pT a9 2)) (bI V V) V V (aC V Z (ad (aU (i:=2) V V (h_ E V) V V) V V (aC V Z (ad (v:=(pT ba 2)) (bI V V) V V (aC V Z ?_)))));refine ad (aU (i:=2) V V (i_ E V) V V) V V (aC V Z (ad (ap_neS V V) V V (ad (v:=(.bool ((Y a i _).K.b !=(Y b i _).K.b))) (aH V Z V) V V (zm (.bool ((Y a i _).K.b !=(Y b i _).K.b)) (bM V V (λax=>?_) (λax=>?_))))))
     ·have co:=ax;try simp only[BS]at co
      refine ad (v:=(pT a9 3)) (bI V V) V V (aC V ax (ad (aU (i:=3) V V (h_ E V) V V) V V (aC V ax (ad (v:=(pT ba 3)) (bI V V) V V (aC V ax ?_)))));refine ad (aU (i:=3) V V (i_ E V) V V) V V (aC V ax (ad (bK V V V V) V V (ad (v:=(.bool ((Y a i _).n !=(Y b i _).n))) (aH V ax V) V V (zm (.bool ((Y a i _).n !=(Y b i _).n)) (bM V V (λal=>?_) (λal=>?_))))))
      ·have cL:=al;try simp only[BS]at cL
       refine ad (v:=(pT a9 4)) (bI V V) V V (aC V al (ad (v:=(aG [_,_,_,_,_])) (cm (i:=4) V V V (h_ E V) V V V) V V (aC V al (ad (v:=(pT ba 4)) (bI V V) V V (aC V al ?_)))));refine ad (v:=(aG [_,_,_,_,_])) (cm (i:=4) V V V (i_ E V) V V V) V V (aC V al (zc (iL ex _ _ (HS.call E) M M M e8 M M M fb (hD.G2 M)) ?_));rintro _ ia ⟨i9,h2,a2,bn,rfl,rfl⟩;replace bn:=HS.G8 E V bn;have⟨b1,O,bf,a5,b2,T,bl,a6⟩:=M8 a2 b1 O bf a5 b2 T bl a6;refine aC V al (ad (bY V) V V (ad (v:=(.bool (!(eqP _ _)))) (aH V al V) V V (zm (.bool (!(eqP _ _))) (bM V V (λaA=>?_) (λaA=>?_)))))
       ·have c0:=aA;try simp only[BS]at c0
        refine ad (v:=(pT a9 9)) (bI V V) V V (aC V aA (ad (v:=(aG [_,_,_,_,_])) (cm (i:=9) V V V (h_ bn V) V V V) V V (aC V aA (ad (v:=(pT ba 9)) (bI V V) V V (aC V aA ?_)))));refine ad (v:=(aG [_,_,_,_,_])) (cm (i:=9) V V V (i_ bn V) V V V) V V (aC V aA (zc (iL ex _ _ (HS.call bn) M M M b1 M M M b2 (hD.val M)) ?_));rintro _ ik ⟨jw,h4,a7,a4,rfl,rfl⟩;replace a4:=HS.G8 bn V a4;have⟨O,bf,a5,T,bl,a6⟩:=M6 a7 O bf a5 T bl a6;refine aC V aA (ad (bY V) V V (ad (v:=(.bool (!(eqP _ _)))) (aH V aA V) V V (zm (.bool (!(eqP _ _))) (bM V V (λan=>?_) (λan=>?_)))))
        ·have c4:=an;try simp only[BS]at c4
         refine ad (v:=(pT a9 14)) (bI V V) V V (aC V an (ad (aU (i:=14) V V (h_ a4 V) V V) V V (aC V an (ad (gY V V (SR.sv O a4)) V V (aC V an ?_)))));refine ad (v:=(pT ba 14)) (bI V V) V V (aC V an (ad (aU (i:=14) V V (i_ a4 V) V V) V V (aC V an (ad (gY V V (SR.sv T a4)) V V (aC V an ?_)))));refine ad (bK V V V V) V V (ad (v:=(.bool ((Q (Y a i _).y:Int) !=(Q (Y b i _).y:Int)))) (aH V an V) V V (zm (.bool ((Q (Y a i _).y:Int) !=(Q (Y b i _).y:Int))) (bM V V (λa1=>?_) (λa1=>?_))))
         ·have c5:=a1;try simp only[BS]at c5
          refine ad (v:=(pT a9 15)) (bI V V) V V (aC V a1 (ad (aU (i:=15) V V (h_ a4 V) V V) V V (aC V a1 (ad (v:=(pT ba 15)) (bI V V) V V (aC V a1 ?_)))));refine ad (aU (i:=15) V V (i_ a4 V) V V) V V (aC V a1 (zc (ih _ _ (HS.call a4) bf bl (hD.G4 M) (by(have q:=thn_lt (a:=a) (i:=i) M;have q2:=els_lt (a:=a) (i:=i) M;omega))) ?_));rintro _ it ⟨jA,h5,b5,bt,rfl,rfl⟩;replace bt:=HS.G8 a4 V bt;have⟨a5,a6⟩:=M2 b5 a5 a6;refine aC V a1 (ad (bY V) V V (ad (v:=(.bool (!(eqP _ _)))) (aH V a1 V) V V (zm (.bool (!(eqP _ _))) (bM V V (λa3=>?_) (λa3=>?_)))))
          ·have c6:=a3;try simp only[BS]at c6
           refine ad (v:=(pT a9 16)) (bI V V) V V (aC V a3 (ad (aU (i:=16) V V (h_ bt V) V V) V V (aC V a3 (ad (v:=(pT ba 16)) (bI V V) V V (aC V a3 ?_)))));refine ad (aU (i:=16) V V (i_ bt V) V V) V V (aC V a3 (zc (ih _ _ (HS.call bt) a5 a6 (hD.G7 M) (by(have q:=thn_lt (a:=a) (i:=i) M;have q2:=els_lt (a:=a) (i:=i) M;omega))) ?_));rintro _ iv ⟨j1,h6,fq,b9,rfl,rfl⟩;replace b9:=HS.G8 bt V b9;refine aC V a3 (ad (bY V) V V (ad (v:=(.bool (!(eqP _ _)))) (aH V a3 V) V V (aB ?_)));exact ao ⟨V,⟨_,(fT (fT (fT (fT fR a2) a7) b5) fq),HS.sub b9 (List.Sublist.refl _)⟩,(by repeat' first|exact Lr|refine Lu V ?_),(agC (congrArg _ (show(!(eqP _ _))=((((((((((Y a i _).j !=(Y b i _).j)||((Y a i _).pp.b !=(Y b i _).pp.b))||((Y a i _).K.b !=(Y b i _).K.b))||((Y a i _).n !=(Y b i _).n))||(!(eqP _ _)))||(!(eqP _ _)))||((Q (Y a i _).y:Int) !=(Q (Y b i _).y:Int)))||(!(eqP _ _)))||(!(eqP _ _))) by simp only[↓U,↓Z,↓ax,↓al,↓aA,↓an,↓a1,↓a3,BT])) agN)⟩
          have c6:=a3;try simp only[BS]at c6
          refine ae V a3 V (ae V a3 V (ae V a3 V (ae V a3 V (ae V a3 V (ad (v:=(.bool true)) (aq V a3 V) V V ?_)))));refine aB ?_;exact ao ⟨V,⟨_,(fT (fT (fT fR a2) a7) b5),HS.sub bt (List.Sublist.refl _)⟩,(by repeat' first|exact Lr|refine Lu V ?_),(agC (congrArg _ (show true=((((((((((Y a i _).j !=(Y b i _).j)||((Y a i _).pp.b !=(Y b i _).pp.b))||((Y a i _).K.b !=(Y b i _).K.b))||((Y a i _).n !=(Y b i _).n))||(!(eqP _ _)))||(!(eqP _ _)))||((Q (Y a i _).y:Int) !=(Q (Y b i _).y:Int)))||(!(eqP _ _)))||(!(eqP _ _))) by simp only[↓U,↓Z,↓ax,↓al,↓aA,↓an,↓a1,↓a3,BT])) agN)⟩
         have c5:=a1;try simp only[BS]at c5
         refine ae V a1 V (ae V a1 V (ae V a1 V (ae V a1 V (ae V a1 V (ad (v:=(.bool true)) (aq V a1 V) V V ?_)))));refine zm (.bool true) (ae V V V (ae V V V (ae V V V (ae V V V (ae V V V ?_)))));refine ae V V V (ad (v:=(.bool true)) (aq V V V) V V (aB ?_));exact ao ⟨V,⟨_,(fT (fT fR a2) a7),HS.sub a4 (List.Sublist.refl _)⟩,(by repeat' first|exact Lr|refine Lu V ?_),(agC (congrArg _ (show true=((((((((((Y a i _).j !=(Y b i _).j)||((Y a i _).pp.b !=(Y b i _).pp.b))||((Y a i _).K.b !=(Y b i _).K.b))||((Y a i _).n !=(Y b i _).n))||(!(eqP _ _)))||(!(eqP _ _)))||((Q (Y a i _).y:Int) !=(Q (Y b i _).y:Int)))||(!(eqP _ _)))||(!(eqP _ _))) by simp only[↓U,↓Z,↓ax,↓al,↓aA,↓an,↓a1,BT])) agN)⟩
        have c4:=an;try simp only[BS]at c4
        refine ae V an V (ae V an V (ae V an V (ae V an V (ae V an V (ae V an V ?_)))));refine ad (v:=(.bool true)) (aq V an V) V V (zm (.bool true) (ae V V V (ae V V V (ae V V V (ae V V V ?_)))));refine ae V V V (ae V V V (ad (v:=(.bool true)) (aq V V V) V V (zm (.bool true) (ae V V V (ae V V V ?_)))));refine ae V V V (ae V V V (ae V V V (ae V V V (ad (v:=(.bool true)) (aq V V V) V V (aB ?_)))));exact ao ⟨V,⟨_,(fT (fT fR a2) a7),HS.sub a4 (List.Sublist.refl _)⟩,(by repeat' first|exact Lr|refine Lu V ?_),(agC (congrArg _ (show true=((((((((((Y a i _).j !=(Y b i _).j)||((Y a i _).pp.b !=(Y b i _).pp.b))||((Y a i _).K.b !=(Y b i _).K.b))||((Y a i _).n !=(Y b i _).n))||(!(eqP _ _)))||(!(eqP _ _)))||((Q (Y a i _).y:Int) !=(Q (Y b i _).y:Int)))||(!(eqP _ _)))||(!(eqP _ _))) by simp only[↓U,↓Z,↓ax,↓al,↓aA,↓an,BT])) agN)⟩
       have c0:=aA;try simp only[BS]at c0
       refine ae V aA V (ae V aA V (ae V aA V (ae V aA V (ae V aA V (ad (v:=(.bool true)) (aq V aA V) V V ?_)))));refine zm (.bool true) (ae V V V (ae V V V (ae V V V (ae V V V (ae V V V ?_)))));refine ae V V V (ae V V V (ad (v:=(.bool true)) (aq V V V) V V (zm (.bool true) (ae V V V (ae V V V ?_)))));refine ae V V V (ae V V V (ae V V V (ae V V V (ad (v:=(.bool true)) (aq V V V) V V (zm (.bool true) ?_)))));refine ae V V V (ae V V V (ae V V V (ae V V V (ae V V V (ae V V V ?_)))));refine ad (v:=(.bool true)) (aq V V V) V V (aB ?_);exact ao ⟨V,⟨_,(fT fR a2),HS.sub bn (List.Sublist.refl _)⟩,(by repeat' first|exact Lr|refine Lu V ?_),(agC (congrArg _ (show true=((((((((((Y a i _).j !=(Y b i _).j)||((Y a i _).pp.b !=(Y b i _).pp.b))||((Y a i _).K.b !=(Y b i _).K.b))||((Y a i _).n !=(Y b i _).n))||(!(eqP _ _)))||(!(eqP _ _)))||((Q (Y a i _).y:Int) !=(Q (Y b i _).y:Int)))||(!(eqP _ _)))||(!(eqP _ _))) by simp only[↓U,↓Z,↓ax,↓al,↓aA,BT])) agN)⟩
      have cL:=al;try simp only[BS]at cL
      refine ae V al V (ae V al V (ae V al V (ae V al V (ae V al V (ad (v:=(.bool true)) (aq V al V) V V ?_)))));refine zm (.bool true) (ae V V V (ae V V V (ae V V V (ae V V V (ae V V V ?_)))));refine ae V V V (ad (v:=(.bool true)) (aq V V V) V V (zm (.bool true) (ae V V V (ae V V V (ae V V V ?_)))));refine ae V V V (ae V V V (ae V V V (ae V V V (ad (v:=(.bool true)) (aq V V V) V V (zm (.bool true) ?_)))));refine ae V V V (ae V V V (ae V V V (ae V V V (ae V V V (ae V V V ?_)))));refine ad (v:=(.bool true)) (aq V V V) V V (zm (.bool true) (ae V V V (ae V V V (ae V V V (ae V V V ?_)))));refine ae V V V (ae V V V (ad (v:=(.bool true)) (aq V V V) V V (aB ?_)));exact ao ⟨V,⟨_,fR,HS.sub E (List.Sublist.refl _)⟩,(by repeat' first|exact Lr|refine Lu V ?_),(agC (congrArg _ (show true=((((((((((Y a i _).j !=(Y b i _).j)||((Y a i _).pp.b !=(Y b i _).pp.b))||((Y a i _).K.b !=(Y b i _).K.b))||((Y a i _).n !=(Y b i _).n))||(!(eqP _ _)))||(!(eqP _ _)))||((Q (Y a i _).y:Int) !=(Q (Y b i _).y:Int)))||(!(eqP _ _)))||(!(eqP _ _))) by simp only[↓U,↓Z,↓ax,↓al,BT])) agN)⟩
     have co:=ax;try simp only[BS]at co
     refine ae V ax V (ae V ax V (ae V ax V (ae V ax V (ad (v:=(.bool true)) (aq V ax V) V V (zm (.bool true) ?_)))));refine ae V V V (ae V V V (ae V V V (ae V V V (ae V V V (ae V V V ?_)))));refine ad (v:=(.bool true)) (aq V V V) V V (zm (.bool true) (ae V V V (ae V V V (ae V V V (ae V V V ?_)))));refine ae V V V (ae V V V (ad (v:=(.bool true)) (aq V V V) V V (zm (.bool true) (ae V V V (ae V V V ?_)))));refine ae V V V (ae V V V (ae V V V (ae V V V (ae V V V (ad (v:=(.bool true)) (aq V V V) V V ?_)))));refine zm (.bool true) (ae V V V (ae V V V (ae V V V (ae V V V (ae V V V ?_)))));refine ae V V V (ad (v:=(.bool true)) (aq V V V) V V (zm (.bool true) (ae V V V (ae V V V (ae V V V ?_)))));refine ae V V V (ae V V V (ae V V V (ad (v:=(.bool true)) (aq V V V) V V (aB ?_))));exact ao ⟨V,⟨_,fR,HS.sub E (List.Sublist.refl _)⟩,(Lu V (Lu V (Lu V (Lu V (Lu V (Lu V (Lu V (Lu V (Lu V (Lu V (Lu V (Lu V (Lu V (Lu V (Lu V (Lu V (Lu V (Lu V (Lu V (Lu V (Lu V (Lu V (Lu V (Lu V (Lu V (Lu V (Lu V (Lu V (Lu V (Lu V (Lu V (Lu V (Lu V (Lu V (Lu V (Lu V (Lu V (Lu V (Lu V (Lu V (Lu V (Lu V (Lu V (Lu V (Lu V (Lu V (Lu V (Lu V (Lu V (Lu V (Lu V (Lu V (Lu V (Lu V (Lu V (Lu V (Lu V (Lu V (Lu V (Lu V (Lu V (Lu V (Lu V (Lu V (Lu V (Lu V (Lu V Lr))))))))))))))))))))))))))))))))))))))))))))))))))))))))))))))))))),(agC (congrArg _ (show true=((((((((((Y a i _).j !=(Y b i _).j)||((Y a i _).pp.b !=(Y b i _).pp.b))||((Y a i _).K.b !=(Y b i _).K.b))||((Y a i _).n !=(Y b i _).n))||(!(eqP _ _)))||(!(eqP _ _)))||((Q (Y a i _).y:Int) !=(Q (Y b i _).y:Int)))||(!(eqP _ _)))||(!(eqP _ _))) by simp only[↓U,↓Z,↓ax,BT])) agN)⟩
    have ci:=Z;try simp only[BS]at ci
    refine ae V Z V (ae V Z V (ae V Z V (ae V Z V (ad (v:=(.bool true)) (aq V Z V) V V (zm (.bool true) ?_)))));refine ae V V V (ae V V V (ae V V V (ae V V V (ae V V V (ad (v:=(.bool true)) (aq V V V) V V ?_)))));refine zm (.bool true) (ae V V V (ae V V V (ae V V V (ae V V V (ae V V V ?_)))));refine ae V V V (ad (v:=(.bool true)) (aq V V V) V V (zm (.bool true) (ae V V V (ae V V V (ae V V V ?_)))));refine ae V V V (ae V V V (ae V V V (ad (v:=(.bool true)) (aq V V V) V V (zm (.bool true) (ae V V V ?_)))));refine ae V V V (ae V V V (ae V V V (ae V V V (ae V V V (ae V V V ?_)))));refine ad (v:=(.bool true)) (aq V V V) V V (zm (.bool true) (ae V V V (ae V V V (ae V V V (ae V V V ?_)))));refine ae V V V (ae V V V (ad (v:=(.bool true)) (aq V V V) V V (zm (.bool true) (ae V V V (ae V V V ?_)))));refine ae V V V (ae V V V (ae V V V (ae V V V (ad (v:=(.bool true)) (aq V V V) V V (aB ?_)))));exact ao ⟨V,⟨_,fR,HS.sub E (List.Sublist.refl _)⟩,(Lu V (Lu V (Lu V (Lu V (Lu V (Lu V (Lu V (Lu V (Lu V (Lu V (Lu V (Lu V (Lu V (Lu V (Lu V (Lu V (Lu V (Lu V (Lu V (Lu V (Lu V (Lu V (Lu V (Lu V (Lu V (Lu V (Lu V (Lu V (Lu V (Lu V (Lu V (Lu V (Lu V (Lu V (Lu V (Lu V (Lu V (Lu V (Lu V (Lu V (Lu V (Lu V (Lu V (Lu V (Lu V (Lu V (Lu V (Lu V (Lu V (Lu V (Lu V (Lu V (Lu V (Lu V (Lu V (Lu V (Lu V (Lu V (Lu V (Lu V (Lu V (Lu V (Lu V (Lu V (Lu V (Lu V (Lu V Lr))))))))))))))))))))))))))))))))))))))))))))))))))))))))))))))))))),(agC (congrArg _ (show true=((((((((((Y a i _).j !=(Y b i _).j)||((Y a i _).pp.b !=(Y b i _).pp.b))||((Y a i _).K.b !=(Y b i _).K.b))||((Y a i _).n !=(Y b i _).n))||(!(eqP _ _)))||(!(eqP _ _)))||((Q (Y a i _).y:Int) !=(Q (Y b i _).y:Int)))||(!(eqP _ _)))||(!(eqP _ _))) by simp only[↓U,↓Z,BT])) agN)⟩
   have ch:=U;try simp only[BS]at ch
   refine ae V U V (ae V U V (ae V U V (ae V U V (ad (v:=(.bool true)) (aq V U V) V V (zm (.bool true) ?_)))));refine ae V V V (ae V V V (ae V V V (ae V V V (ae V V V (ad (v:=(.bool true)) (aq V V V) V V ?_)))));refine zm (.bool true) (ae V V V (ae V V V (ae V V V (ae V V V (ae V V V ?_)))));refine ad (v:=(.bool true)) (aq V V V) V V (zm (.bool true) (ae V V V (ae V V V (ae V V V (ae V V V ?_)))));refine ae V V V (ae V V V (ad (v:=(.bool true)) (aq V V V) V V (zm (.bool true) (ae V V V (ae V V V ?_)))));refine ae V V V (ae V V V (ae V V V (ae V V V (ad (v:=(.bool true)) (aq V V V) V V (zm (.bool true) ?_)))));refine ae V V V (ae V V V (ae V V V (ae V V V (ae V V V (ae V V V ?_)))));refine ae V V V (ad (v:=(.bool true)) (aq V V V) V V (zm (.bool true) (ae V V V (ae V V V (ae V V V ?_)))));refine ae V V V (ae V V V (ae V V V (ad (v:=(.bool true)) (aq V V V) V V (zm (.bool true) (ae V V V ?_)))));refine ae V V V (ae V V V (ae V V V (ae V V V (ae V V V (ad (v:=(.bool true)) (aq V V V) V V ?_)))));refine aB ?_;exact ao ⟨V,⟨_,fR,HS.sub E (List.Sublist.refl _)⟩,(Lu V (Lu V (Lu V (Lu V (Lu V (Lu V (Lu V (Lu V (Lu V (Lu V (Lu V (Lu V (Lu V (Lu V (Lu V (Lu V (Lu V (Lu V (Lu V (Lu V (Lu V (Lu V (Lu V (Lu V (Lu V (Lu V (Lu V (Lu V (Lu V (Lu V (Lu V (Lu V (Lu V (Lu V (Lu V (Lu V (Lu V (Lu V (Lu V (Lu V (Lu V (Lu V (Lu V (Lu V (Lu V (Lu V (Lu V (Lu V (Lu V (Lu V (Lu V (Lu V (Lu V (Lu V (Lu V (Lu V (Lu V (Lu V (Lu V (Lu V (Lu V (Lu V (Lu V (Lu V (Lu V (Lu V (Lu V Lr))))))))))))))))))))))))))))))))))))))))))))))))))))))))))))))))))),(agC (congrArg _ (show true=((((((((((Y a i _).j !=(Y b i _).j)||((Y a i _).pp.b !=(Y b i _).pp.b))||((Y a i _).K.b !=(Y b i _).K.b))||((Y a i _).n !=(Y b i _).n))||(!(eqP _ _)))||(!(eqP _ _)))||((Q (Y a i _).y:Int) !=(Q (Y b i _).y:Int)))||(!(eqP _ _)))||(!(eqP _ _))) by simp only[↓U,BT])) agN)⟩
  skip;rintro i2 h9 ⟨go,bw,b8⟩;have⟨O,T⟩:=M2 bw O T;refine aj 1 V (zi 1 2 (λb6=>?_) λb6=>?_)
  ·have g5:=b6;try simp only[BS]at g5
   refine wr 1 [] 4 4 [] [(4,false)] trivial V V λ_=>ag ⟨.inr V,_,V,_,_,(fT (b3) bw),(HS.G3 b8),V,(by(refine mR λkd=>?_;subst kd;first|(simp_all;done)|(simp_all[lD];done)|omega))⟩
  have kA:=stm_of b6;refine bQ 2 94 97 [] [(96,(.int _ _)),(97,(.int _ 0))] (Hr_ 1 0 Hn_) b8 V V λ_=>ak (λ(mm:Nat) f H'=> ∃(k:Nat),∃F',go.le F'/\HS _ F' H' _ R/\aI f [(0,(sL h0 _ ki)),(1,(sL ie _ kk)),(6,(pT a9 0)),(7,(pT ba 0)),(15,(.int _ _)),(16,(.int _ _)),(96,(.int _ _)),(97,(.int _ (k:Int)))]/\mm=Q (Y a i n_).y-k/\(k<=Q (Y a i n_).y)/\(Q (Y a i _).y<=1000000)/\(∀j,j<k->Y (Y a i n_).y j n_=Y (Y b i n_).y j n_)) _ ⟨0,_,fR,b8,f_,V,M,(hD.alen M),(by intro j hj;omega)⟩ ?_
  rintro hX i1 i0 ⟨k,h7,bF,a8,d5,rfl,g1,g2,gq⟩ f5;refine aw _ d5 (λ_=>?_);clear d5;have⟨O,T⟩:=M2 bF O T;refine aj 1 V (wr 2 [] 98 98 [] [(98,(decide ((k:Int)<(Q (Y a i _).y:Int))))] trivial V V λ_=>zd 4 5 (λg6=>?_) λg6=>?_)
  ·refine wr 2 [] 99 99 [8] [(8,(.int _ _))] trivial V V λ_=>az V ?_
   have⟨hS,d6⟩:=Sv.Gg (SR.sv O a8);have⟨hx,hy,hz,fd⟩:=ExpT.fx (d6 k);have⟨hT,d7⟩:=Sv.Gg (SR.sv T a8);have⟨hA,hB,hC,fi⟩:=ExpT.fx (d7 k);refine cC 10 100 109 [] [(104,(aG [_,_,_,_,_])),(109,(aG [_,_,_,_,_]))] (Hr_ 1 0 (Ha_ (Sv.ix (SR.sv O a8)) (Hl_ 4 (qn 46 0 5 (hc0 (ExpT.vw (d6 k))) V V V V) (Hr_ 6 1 (Ha_ (Sv.ix (SR.sv T a8)) (Hl_ 9 (qn 46 0 5 (hc0 (ExpT.vw (d7 k))) V V V V) Hn_)))))) a8 V V λ_=>bH (W:=[]) (bj V V V) V V V (iL ex _ _ (HS.call a8.G5) M M M fd M M M fi (hD.arg M M)) (kb V) ?_
   rintro _ g4 ⟨j2,h8,d4,bb,rfl,rfl⟩;refine⟨Wr.did bb.log,λgm e5=>?_⟩;replace bb:=HS.G8 a8.G5 V bb;replace bb:=HS.lg bb a8 e5;generalize ({g4 with log:=gm}:Heap)=hJ at bb⊢;refine wfv (bY V) (aQ 1 V (zI 1 2 (λg7=>?_) λg7=>?_))
   ·refine wr 1 [] 4 4 [] [(4,false)] trivial V V λ_=>ag ⟨.inr V,_,V,_,_,(fT (fT (fT (b3) bw) bF) d4),(HS.G3 bb),V,(by(refine mR λkd=>?_;subst kd;first|(simp_all;done)|(simp_all[lD];done)|omega))⟩
   refine wr 1 [] 97 97 [112] [(97,(.int _ _))] (vA (vi) trivial) V V λ_=>?_
   refine f5 _ _ _ ?_ ⟨k+1,_,(fT (bF) d4),bb,f_,V,M,M,(stp gq (nt X))⟩;omega
  refine wr 1 [] 16 16 [113] [(16,(.int _ _))] (vA (vi) trivial) V V λ_=>?_
  refine hg _ _ _ ?_ ⟨i+1,_,(fT (fT (b3) bw) bF),(HS.sub a8 (a06 _ _)),f_,V,M,M,(stp hq (kA.2 (alike kA.1 λj hj=>gq j M)))⟩;omega
 refine wr 1 [] 4 4 [] [(4,true)] trivial V V λ_=>ag ⟨.inr V,_,V,_,_,(b3),(HS.G3 b4),V,(eqP_y (alike M λj hj=>hq j M))⟩
theorem sameStmts_c{E T}(a:List StmT){O U}(b:List StmT)(hs:Hb H F H [] R)(ha:Sr F E a T)(hb:Sr F O b U)(Z:FewL a):kKt ex 45 [(S_ E a T),(S_ O b U)] H λv H'=> ∃(o:Bool),∃F',F.le F'/\Hb H F' H' [] R/\v= .bool o/\o=eqP a b:=
 mn ex (SizeOf.sizeOf a+1) a b hs ha hb Z (a0y _)
theorem i8{bt b6 bn b5}(a:PrgT){bF b8 bw b7}(b:PrgT)(hs:Hb H F H [] R)(a9:Sr F bn a.d b5)(a1:Sr F bt a.U b6)(ba:Sr F bw b.d b7)(an:Sr F bF b.U b8)(i3:FewP a):kKt ex 13 [(aG [(S_ bn a.d b5),(S_ bt a.U b6)]),(aG [(S_ bw b.d b7),(S_ bF b.U b8)])] H λv H'=> ∃(o:Bool),∃F',F.le F'/\Hb H F' H' [] R/\v= .bool o/\o=eqP a b:=by
 have⟨hF,hG,cL⟩:=i3;refine ay Tryz.func13 V V (aj 1 V (ab (bd (aW hs V V) V V ?_)));rintro _ H2 _ ⟨b1,rfl,g2,_⟩;refine bd (aW g2 V V) V V ?_;rintro _ H4 _ ⟨b3,rfl,a7,_⟩;refine za (.bool false) (ai 3 V (bQ 1 9 24 [] [(24,(((Q a.d:Int) !=(Q b.d:Int))||((Q a.U:Int) !=(Q b.U:Int))))] (Hr_ 1 0 (Hr_ 4 1 (dj 9 (λ_=>(ql 23 1 (h_ a7 V) V V)) (dj 12 (λ_=>(ql 23 1 (i_ a7 V) V V)) Hn_)))) a7 V V λ_=>zi 1 3 (λc3=>?_) λc3=>?_))
 ·have c6:=c3;try simp only[BS]at c6
  refine wr 1 [] 4 4 [] [(4,false)] trivial V V λ_=>ag ⟨.inr V,_,V,_,_,fR,(HS.G3 a7),V,(by(refine mR λar=>?_;subst ar;first|(simp_all;done)|(simp_all[lD];done)|omega))⟩
 have ht:=prg_l c3;refine bQ 2 25 28 [] [(27,(.int _ _)),(28,(.int _ 0))] (Hr_ 1 0 Hn_) a7 V V λ_=>ak (λ(mm:Nat) f H'=> ∃(i:Nat),∃F',F.le F'/\HS _ F' H' [[(b1,.cells [_,_] _ _)],[(b3,.cells [_,_] _ _)]] R/\aI f [(2,(pT b1 0)),(3,(pT b3 0)),(27,(.int _ _)),(28,(.int _ (i:Int)))]/\mm=Q a.d-i/\(i<=Q a.d)/\(∀j,j<i->Y a.d j n_=Y b.d j n_)) _ ⟨0,_,fR,a7,f_,V,M,(by intro j hj;omega)⟩ ?_
 rintro hH f9 H9 ⟨i,F9,a2,aA,fb,rfl,h1,hq⟩ g3;refine aw _ fb (λ_=>?_);clear fb;have⟨a9,a1,ba,an⟩:=M4 a2 a9 a1 ba an;refine aj 1 V (wr 2 [] 29 29 [] [(29,(decide ((i:Int)<(Q a.d:Int))))] trivial V V λ_=>zd 4 6 (λgm=>?_) λgm=>?_)
 ·refine wr 2 [] 30 30 [5] [(5,(.int _ _))] trivial V V λ_=>?_
  have⟨hn,c8⟩:=Sv.Gg (SR.sv a9 aA);have g4:=ArrT.fx (c8 i);have⟨ho,c9⟩:=Sv.Gg (SR.sv ba aA);have g5:=ArrT.fx (c9 i);refine sdr0 1 31 41 [] [(41,(!((((Y a.d i _).pp.b:List UInt8)==((Y b.d i _).pp.b:List UInt8))&&(((Y a.d i _).len==(Y b.d i _).len)&&true))))] (Hr_ 1 0 (Ha_ (Sv.ix (SR.sv a9 aA)) (Hl_ 4 (qn 49 0 2 (hc0 (ArrT.vw (c8 i))) V V V V) (Hr_ 6 1 (Ha_ (Sv.ix (SR.sv ba aA)) (Hl_ 9 (qn 49 0 2 (hc0 (ArrT.vw (c9 i))) V V V V) (Ho_ 10 (.o (.bool (!((((Y a.d i _).pp.b:List UInt8)==((Y b.d i _).pp.b:List UInt8))&&(((Y a.d i _).len==(Y b.d i _).len)&&true))))) (agNe V V V K_ K_ (.cons ⟨by decide,_,_,V,V,eqL V⟩ (.cons ⟨by decide,_,_,V,V,eqI V⟩ .nil))) Hn_))))))) aA V V V λ_=>zi 1 2 (λb0=>?_) λb0=>?_
  ·have go:=b0;try simp only[BS]at go
   refine wr 1 [] 4 4 [] [(4,false)] trivial V V λ_=>ag ⟨.inr V,_,V,_,_,(a2),(HS.G3 aA),V,(by(refine mR λar=>?_;subst ar;first|(simp_all;done)|(simp_all[lD];done)|omega))⟩
  have i1:=b0;refine wr 1 [] 28 28 [42] [(28,(.int _ _))] (vA (vi) trivial) V V λ_=>?_
  refine g3 _ _ _ ?_ ⟨i+1,_,(a2),aA,f_,V,M,(stp hq (arr_of i1))⟩;omega
 refine bQ 2 43 46 [] [(45,(.int _ _)),(46,(.int _ 0))] (Hr_ 1 0 Hn_) aA V V λ_=>ak (λ(mm:Nat) f H'=> ∃(i:Nat),∃F',F9.le F'/\HS _ F' H' _ R/\aI f [(2,(pT b1 0)),(3,(pT b3 0)),(45,(.int _ _)),(46,(.int _ (i:Int)))]/\mm=Q a.U-i/\(i<=Q a.U)/\(∀j,j<i->Y a.U j n_=Y b.U j n_)/\(∀j,j<Q a.d->Y a.d j _=Y b.d j _)) _ ⟨0,_,fR,aA,f_,V,M,(by intro j hj;omega),(λj hj=>hq j M)⟩ ?_
 rintro hu hC hy ⟨i,f5,a4,al,c5,rfl,h1,gq,hq⟩ f2;refine aw _ c5 (λ_=>?_);clear c5;have⟨a1,an⟩:=M2 a4 a1 an;refine aj 1 V (wr 2 [] 47 47 [] [(47,(decide ((i:Int)<(Q a.U:Int))))] trivial V V λ_=>zd 4 5 (λg0=>?_) λg0=>?_)
 ·refine wr 2 [] 48 48 [6] [(6,(.int _ _))] trivial V V λ_=>az V (zp 1 (zl 1 (HS.hc al.G5 (i:=0) V) (zfm _ (zx _ i (SR.sv a1 al.G5) ?_))))
  have⟨hp,fq,fi⟩:=Sv.at (SR.sv a1 al.G5) (aT (x:=n_) (show i<Q a.U from by omega));obtain⟨dk,ea,dn,ee,dt,em,d1,et,rfl,g6,g7,g8,e3,e4,e5,bf⟩:=fq;refine bh (v:=(aG [_,_,_,_,_,_,_,_,_])) (cm (i:=0) V V V fi V V V) V V (iz V) (kb V) (zp 1 (zl 1 (HS.hc al.G5 (i:=1) V) (zfm _ (zx _ i (SR.sv an al.G5) ?_))));have⟨hr,fu,fk⟩:=Sv.at (SR.sv an al.G5) (aT (x:=n_) (show i<Q b.U from by omega));obtain⟨d2,ez,d3,e0,d4,e1,d5,e2,rfl,g9,he,hf,e6,e7,e8,bl⟩:=fu;refine bh (v:=(aG [_,_,_,_,_,_,_,_,_])) (cm (i:=0) V V V fk V V V) V V (iz V) (kb V) (znD al V λa3 hh f1=>znD f1 V λa6 hk bb=>ef (id:= .x [a3]) (ck (q:=2) bb.G5 V V V V V V V V V) V (by rintro _ _ _ ⟨_,hwr⟩;exact dl V V (Wr.did hwr)) (⟨.inl V,.inl V,.inr (SR.nin an bb (i:=2) (j:=0) V M),.inr trivial,.inr trivial,.inr (HS.nin bb (i:=1) (j:=2) V V e_ (List.Mem.head _)),l_⟩) ?_);rintro _ f6 _ ⟨a5,_⟩ f3 d8;replace a5:=HS.lg a5 bb d8;generalize ({f6 with log:=f3}:Heap)=hl at a5⊢;refine ef (ck (q:=3) a5.G5 V V V V V V V V V) V (by rintro _ _ _ ⟨_,hwr⟩;exact dl V V (Wr.did hwr)) (kb V) ?_;rintro _ f7 _ ⟨E,_⟩ f4 d9;replace E:=HS.lg E a5 d9;generalize ({f7 with log:=f4}:Heap)=c0 at E⊢;refine fE (aj 2 V (dq 59 95 [] [(95,((((((Y a.U i n_).pp.b !=(Y b.U i n_).pp.b)||(!(eqP (Y a.U i n_).A (Y b.U i n_).A)))||(!(eqP (Y a.U i n_).B (Y b.U i n_).B)))||(!(eqP (Y a.U i n_).G6 (Y b.U i n_).G6)))||(!(eqP (Y a.U i n_).val (Y b.U i n_).val))))] (λH'=> ∃F',f5.le F'/\Hb H F' H' [(fP b1 [(S_ bn a.d b5),(S_ bt a.U b6)]),(fP b3 [(S_ bw b.d b7),(S_ bF b.U b8)]),(fP a3 [(tX (Y a.U i n_).pp.b),(sL dk (Q (Y a.U i n_).A) ea),(sL dn (Q (Y a.U i n_).B) ee),(sL dt (Q (Y a.U i n_).G6) em),(Y a.U i n_).val.j,(Y a.U i n_).val.n,(tX (Y a.U i n_).val.pp.b),(Y a.U i n_).val.op,(sL d1 (Q (Y a.U i n_).val.I) et)]),(fP a6 [(tX (Y b.U i n_).pp.b),(sL d2 (Q (Y b.U i n_).A) ez),(sL d3 (Q (Y b.U i n_).B) e0),(sL d4 (Q (Y b.U i n_).G6) e1),(Y b.U i n_).val.j,(Y b.U i n_).val.n,(tX (Y b.U i n_).val.pp.b),(Y b.U i n_).val.op,(sL d5 (Q (Y b.U i n_).val.I) e2)])] R) ?_ ?_))
  ·refine ab (ad (v:=(pT a3 0)) (bI V V) V V (ad (aU (i:=0) V V (HS.hc E (i:=2) V) V V) V V (ad (v:=(pT a6 0)) (bI V V) V V (ad (aU (i:=0) V V (HS.hc E (i:=3) V) V V) V V (ad (ap_neS V V) V V ?_)))));refine zm (.bool ((Y a.U i _).pp.b !=(Y b.U i _).pp.b)) (bM V V (λO=>?_) (λO=>?_))
   ·have b9:=O;try simp only[BS]at b9
    refine ad (v:=(pT a3 1)) (bI V V) V V (aC V O (ad (aU (i:=1) V V (HS.hc E (i:=2) V) V V) V V (aC V O (ad (v:=(pT a6 1)) (bI V V) V V (aC V O ?_)))));refine ad (aU (i:=1) V V (HS.hc E (i:=3) V) V V) V V (aC V O (zc (ml ex _ _ (HS.call E) e3 e6 ((cL i M).1)) ?_));rintro _ c0 ⟨hI,rfl,rfl,rfl⟩;refine aC V O (ad (bY V) V V (ad (v:=(.bool (!(eqP _ _)))) (aH V O V) V V (zm (.bool (!(eqP _ _))) (bM V V (λT=>?_) (λT=>?_)))))
    ·have ch:=T;try simp only[BS]at ch
     refine ad (v:=(pT a3 2)) (bI V V) V V (aC V T (ad (aU (i:=2) V V (HS.hc E (i:=2) V) V V) V V (aC V T (ad (v:=(pT a6 2)) (bI V V) V V (aC V T ?_)))));refine ad (aU (i:=2) V V (HS.hc E (i:=3) V) V V) V V (aC V T (zc (ml ex _ _ (HS.call E) e4 e7 ((cL i M).2.1)) ?_));rintro _ c0 ⟨hJ,rfl,rfl,rfl⟩;refine aC V T (ad (bY V) V V (ad (v:=(.bool (!(eqP _ _)))) (aH V T V) V V (zm (.bool (!(eqP _ _))) (bM V V (λU=>?_) (λU=>?_)))))
     ·have ci:=U;try simp only[BS]at ci
      refine ad (v:=(pT a3 3)) (bI V V) V V (aC V U (ad (aU (i:=3) V V (HS.hc E (i:=2) V) V V) V V (aC V U (ad (v:=(pT a6 3)) (bI V V) V V (aC V U ?_)))));refine ad (aU (i:=3) V V (HS.hc E (i:=3) V) V V) V V (aC V U (zc (sameStmts_c ex _ _ (HS.call E) e5 e8 ((cL i M).2.2.1)) ?_));rintro _ hA ⟨hK,hw,a8,ax,rfl,rfl⟩;replace ax:=HS.G8 E V ax;have⟨bf,bl⟩:=M2 a8 bf bl;refine aC V U (ad (bY V) V V (ad (v:=(.bool (!(eqP _ _)))) (aH V U V) V V (zm (.bool (!(eqP _ _))) (bM V V (λZ=>?_) (λZ=>?_)))))
      ·have co:=Z;try simp only[BS]at co
       refine ad (v:=(pT a3 4)) (bI V V) V V (aC V Z (ad (v:=(aG [_,_,_,_,_])) (cm (i:=4) V V V (HS.hc ax (i:=2) V) V V V) V V (aC V Z (ad (v:=(pT a6 4)) (bI V V) V V (aC V Z ?_)))));refine ad (v:=(aG [_,_,_,_,_])) (cm (i:=4) V V V (HS.hc ax (i:=3) V) V V V) V V (aC V Z (zc (iL ex _ _ (HS.call ax) M M M bf M M M bl ((cL i M).2.2.2)) ?_));rintro _ hB ⟨hQ,hx,fd,b4,rfl,rfl⟩;replace b4:=HS.G8 ax V b4;refine aC V Z (ad (bY V) V V (ad (v:=(.bool (!(eqP _ _)))) (aH V Z V) V V (aB ?_)));exact ao ⟨V,⟨_,(fT (fT fR a8) fd),HS.sub b4 (List.Sublist.refl _)⟩,(by repeat' first|exact Lr|refine Lu V ?_),(agC (congrArg _ (show(!(eqP _ _))=((((((Y a.U i _).pp.b !=(Y b.U i _).pp.b)||(!(eqP _ _)))||(!(eqP _ _)))||(!(eqP _ _)))||(!(eqP _ _))) by simp only[↓O,↓T,↓U,↓Z,BT])) agN)⟩
      have co:=Z;try simp only[BS]at co
      refine ae V Z V (ae V Z V (ae V Z V (ae V Z V (ae V Z V (ad (v:=(.bool true)) (aq V Z V) V V ?_)))));refine aB ?_;exact ao ⟨V,⟨_,(fT fR a8),HS.sub ax (List.Sublist.refl _)⟩,(by repeat' first|exact Lr|refine Lu V ?_),(agC (congrArg _ (show true=((((((Y a.U i _).pp.b !=(Y b.U i _).pp.b)||(!(eqP _ _)))||(!(eqP _ _)))||(!(eqP _ _)))||(!(eqP _ _))) by simp only[↓O,↓T,↓U,↓Z,BT])) agN)⟩
     have ci:=U;try simp only[BS]at ci
     refine ae V U V (ae V U V (ae V U V (ae V U V (ae V U V (ad (v:=(.bool true)) (aq V U V) V V ?_)))));refine zm (.bool true) (ae V V V (ae V V V (ae V V V (ae V V V (ae V V V ?_)))));refine ae V V V (ad (v:=(.bool true)) (aq V V V) V V (aB ?_));exact ao ⟨V,⟨_,fR,HS.sub E (List.Sublist.refl _)⟩,(by repeat' first|exact Lr|refine Lu V ?_),(agC (congrArg _ (show true=((((((Y a.U i _).pp.b !=(Y b.U i _).pp.b)||(!(eqP _ _)))||(!(eqP _ _)))||(!(eqP _ _)))||(!(eqP _ _))) by simp only[↓O,↓T,↓U,BT])) agN)⟩
    have ch:=T;try simp only[BS]at ch
    refine ae V T V (ae V T V (ae V T V (ae V T V (ae V T V (ad (v:=(.bool true)) (aq V T V) V V ?_)))));refine zm (.bool true) (ae V V V (ae V V V (ae V V V (ae V V V (ae V V V ?_)))));refine ae V V V (ad (v:=(.bool true)) (aq V V V) V V (zm (.bool true) (ae V V V (ae V V V (ae V V V ?_)))));refine ae V V V (ae V V V (ae V V V (ad (v:=(.bool true)) (aq V V V) V V (aB ?_))));exact ao ⟨V,⟨_,fR,HS.sub E (List.Sublist.refl _)⟩,(by repeat' first|exact Lr|refine Lu V ?_),(agC (congrArg _ (show true=((((((Y a.U i _).pp.b !=(Y b.U i _).pp.b)||(!(eqP _ _)))||(!(eqP _ _)))||(!(eqP _ _)))||(!(eqP _ _))) by simp only[↓O,↓T,BT])) agN)⟩
   have b9:=O;try simp only[BS]at b9
   refine ae V O V (ae V O V (ae V O V (ae V O V (ae V O V (ad (v:=(.bool true)) (aq V O V) V V ?_)))));refine zm (.bool true) (ae V V V (ae V V V (ae V V V (ae V V V (ae V V V ?_)))));refine ae V V V (ad (v:=(.bool true)) (aq V V V) V V (zm (.bool true) (ae V V V (ae V V V (ae V V V ?_)))));refine ae V V V (ae V V V (ae V V V (ad (v:=(.bool true)) (aq V V V) V V (zm (.bool true) (ae V V V ?_)))));refine ae V V V (ae V V V (ae V V V (ae V V V (ae V V V (ad (v:=(.bool true)) (aq V V V) V V ?_)))));refine aB ?_;exact ao ⟨V,⟨_,fR,HS.sub E (List.Sublist.refl _)⟩,(by repeat' first|exact Lr|refine Lu V ?_),(agC (congrArg _ (show true=((((((Y a.U i _).pp.b !=(Y b.U i _).pp.b)||(!(eqP _ _)))||(!(eqP _ _)))||(!(eqP _ _)))||(!(eqP _ _))) by simp only[↓O,BT])) agN)⟩
  skip;rintro hD hz ⟨hv,c4,c7⟩;refine aj 1 V (zi 1 2 (λb2=>?_) λb2=>?_)
  ·have g1:=b2;try simp only[BS]at g1
   refine wr 1 [] 4 4 [] [(4,false)] trivial V V λ_=>ag ⟨.inr V,_,V,_,_,(fT (fT (a2) a4) c4),(HS.G3 c7),V,(by(refine mR λar=>?_;subst ar;first|(simp_all;done)|(simp_all[lD];done)|omega))⟩
  have i2:=fun_of b2;refine wr 1 [] 46 46 [96] [(46,(.int _ _))] (vA (vi) trivial) V V λ_=>?_
  refine f2 _ _ _ ?_ ⟨i+1,_,(fT (a4) c4),(HS.sub c7 (a06 _ _)),f_,V,M,(stp gq i2),(hq)⟩;omega
 refine wr 1 [] 4 4 [] [(4,true)] trivial V V λ_=>ag ⟨.inr V,_,V,_,_,(fT (a2) a4),(HS.G3 al),V,(eqP_y (prg_eq (alike ht.1 λj hj=>hq j M) (alike ht.2 λj hj=>gq j M)))⟩
end sq
open sq
namespace lt
variable (ex:FuncId) {F:Fz} {H:Heap} {R:List Fp}
open cc cd ta tb ga gb bk bg km kp
open db dc dd de df dg dh dp ln pg ru gr gd sq
mutual
theorem few_e: ∀e:ExpT,bkE e<=1000000->Few e
 |⟨k,n,nm,o,ks⟩,h=>by have q:=j9 ks;rw[bkE]at h;exact .mk (by show Q ks<=_;omega) (few_es ks M)
theorem few_es: ∀l:List ExpT,dD l<=1000000->∀x∈l,Few x
 | [],_,x,hx=>by cases hx
 |e::l,h,x,hx=>by
  rw[dD]at h;rcases a0n.1 hx with hx|hx
  ·exact hx▸few_e e M
  exact few_es l M x hx
end
theorem few_l: ∀(n:Nat) (l:List StmT),cN l<n->n<=1000000->FewL l
 |0,_,h,_=>absurd h (Nat.not_lt_zero _)
 |n+1,l,h,hn=>by
  have q:=gf l;have B: ∀x∈l,bkS x<=cN l:=λx E=>by obtain⟨i,hi,rfl⟩:=a1E E;have:=kP hi;rwa [a09,a08 hi]at this
  have P: ∀x∈l,bkE x.G2<=1000000/\bkE x.val<=1000000/\dD x.y<=1000000/\cN x.G4<n/\cN x.G7<n:=λx E=>by have:=B x E;rw[bk_s]at this;omega
  exact .mk M (λx E=>few_e _ (P x E).1) (λx E=>few_e _ (P x E).2.1) (λx E=>a0i (j9 _) (P x E).2.2.1) (λx E=>few_es _ (P x E).2.2.1) (λx E=>few_l n _ (P x E).2.2.2.1 M) (λx E=>few_l n _ (P x E).2.2.2.2 M)
theorem few_p{p:PrgT}(h:bkP p<=20000):FewP p:=by
 unfold bkP at h;have O:=lS p.d;have T:=iS p.U
 refine⟨M,M,λi hi=>?_⟩;have E:=mZ (cr (l:=p.U) hi);unfold bkF at E;have U:=cY (Y p.U i default).A;have Z:=cY (Y p.U i default).B;have q8:=us_ge (Y p.U i default).G6
 exact⟨M,M,few_l 1000000 _ M M,few_e _ M⟩
theorem rt_len{x:PrgT}(h:GdB x)(hb:bkP x<=20000):Q (cX x)<=20000:=by
 rw[prs_eq];unfold prT;split
 ·rename_i c;exact a0i (h.lb c) hb
 exact a0h _
theorem mr{x r:PrgT}{e:ErrT}(h:GdB x)(hb:bkP x<=20000)(c:chk x=0)(k:ParR (cX x) r e):r=x/\e=⟨0,0⟩:=by rw[prs_eq]at k;unfold prT at k;rw[if_pos c]at k;exact round (gd c h.i) (a0i (h.lb c) hb) k
theorem sr_all{F}{v:Value}{l:List Int}(h:SR F v l): ∀x∈l,in64 x:=λx E=>by obtain⟨i,hi,rfl⟩:=a1E E;have:=sr_in h i;rwa [a09,a08 hi]at this
theorem rt_no{x:PrgT}(c:chk x≠0):cX x=[]:=by rw[prs_eq];unfold prT;rw[if_neg c]
theorem rt_fin{x r:PrgT}{e:ErrT}{m:List Int}(Z:GdB x)(hb:bkP x<=20000)(c:chk x=0)(k:ParR (cX x) r e)(U: ∀y∈m,in64 y):(((((e.L==0)&&((e.G2==0)&&true))&&eqP r x)&&((cX r)==(cX x)))&&(((cX x)==(cX (bm m)))==eqP x (bm m)))=true:=by
 have⟨E,O⟩:=mr Z hb c k;have T:(((cX x)==(cX (bm m)))==eqP x (bm m))=true:=by
  by_cases h:x=bm m
  ·rw[←h,lD];simp
  rw[←mR h];have:cX x≠cX (bm m):=λq=>by rw[q,prs_eq]at k;unfold prT at k;rw[if_pos (pg_chk U)]at k;exact h (E.symm.trans (round (pg_gd U) (a0i (pg_text U).1 e_) k).1)
  simpa using this
 rw[T,E,O,lD];simp
theorem ex_c(H:Heap):C Tryz.prog 0 (KX ex) ex [] H λv H'=> ∃(r:Bool),H'=H/\v= .bool r/\r=true:=
 c_known (by show(bif Nat.beq ex ex then some (Value.bool true) else none)=_;rw[a0Y];rfl) ⟨true,V,V,V⟩
theorem ex_c_q(H:Heap):C Tryz.prog 0 (KX ex) ex [] H λv H'=>v= .bool true/\H'=H:=cq (ex_c ex H) (by rintro _ _ ⟨_,rfl,rfl,rfl⟩;exact⟨V,V⟩)
theorem rt_law{hk}{ho:Nat}(l:List Int){hn}{hp:Nat}(m:List Int)(fz:Int)(at_:Int)(hs:Hb H F H [] R)(hl:Sr F hk l ho)(hm:Sr F hn m hp)(hQ:in64 fz)(hK:in64 at_):C Tryz.prog 0 (KX 10) 4 [(S_ hk l ho),(S_ hn m hp),fz,at_] H λv H'=> ∃(z:Bool),∃F',F.le F'/\Hb H F' H' [] R/\v= .bool z/\z=true:=by
 refine ay Tryz.func4 V V (aj 1 V (wT 2 [] 8 8 [] [(8,false)] V λ_=>ab (cu 3 0 15 17 [] [(15,(S_ hk l ho)),(16,fz),(17,at_)] Hn_ K_ V λ_=>zc (kp.mprog_c 10 l fz at_ (HS.call hs) hl M M) ?_)));rintro _ H3 ⟨E,c0,c8,c3,c9,F3,d1,c6,rfl,O,T,g7⟩;replace c6:=HS.G8 hs V c6;have hm:=hm.ac d1;refine zm (S_ hn m hp) (zc (gb.gprog_c 10 m (HS.call c6) hm) ?_);rintro _ H4 ⟨x4,c4,dk,c5,dn,F4,b4,d4,rfl,al,an,rfl⟩;replace d4:=HS.G8 c6 V d4;have⟨O,T⟩:=M2 b4 O T;let dt:Value:=(aG [(S_ c0 E.d c8),(S_ c3 E.U c9)])
 refine zn d4 V λb5 H6 fb=>zn fb V λb7 H8 fd=>sgo 2 8 1 0 [] [] (Hr_ 8 0 (Hr_ 9 1 Hn_)) fd V V λg6 H9 c7=>ai 2 V (az V (cC 1 21 21 [] [(21,dt)] (Hr_ 0 0 Hn_) c7 V V λ_=>?_))
 refine bH (W:=[]) (bj V V V) V V V (dh.oJ 10 E (HS.call c7.G5) O T (GdB.of M X X).nm (GdB.of M X X).sn (GdB.of M X X).len5) (kb V) ?_;rintro _ e1 ⟨hf,f1,a8,a3,rfl,rfl⟩;refine⟨Wr.did a3.log,λem d6=>?_⟩;replace a3:=HS.G8 c7.G5 V a3;replace a3:=HS.lg a3 c7 d6;generalize ({e1 with log:=em}:Heap)=fi at a3⊢;have⟨al,an⟩:=M2 a8 al an;let d8:Value:=(aG [(sL c4 (Q (bm m).d) dk),(sL c5 (Q (bm m).U) dn)])
 refine bh (v:=d8) (id:= .l b7) (cm (i:=0) V V V (HS.hc a3.G5 (i:=1) V) V V V) V V (iz V) (⟨.inr a0g,l_⟩) (bH (W:=[]) (bj V V V) V V V (dh.oJ 10 (bm m) (HS.call a3.G5) al an (GdB.of (a0i bk_gen e_) X X).nm (GdB.of (a0i bk_gen e_) X X).sn (GdB.of (a0i bk_gen e_) X X).len5) (kb V) ?_);rintro _ e2 ⟨hg,f2,a9,a4,rfl,rfl⟩;refine⟨Wr.did a4.log,λet d7=>?_⟩;replace a4:=HS.G8 a3.G5 V a4;replace a4:=HS.lg a4 a3 d7;generalize ({e2 with log:=et}:Heap)=fk at a4⊢;replace O:=(O.ac a8).ac a9;replace T:=(T.ac a8).ac a9;refine cC 2 1 0 [11,12] [(11,(tX (cX E))),(12,(tX (cX (bm m))))] Hn_ a4 V V λ_=>aQ 3 V (ab (cS 1 0 25 25 [] [(25,dt)] (Hr_ 0 0 Hn_) a4 V V λ_=>zc (cd.check_c 10 E (HS.call a4) O T (GdB.of M X X).sn.sm (GdB.of M X X).nb) ?_))
 rintro _ e3 ⟨hh,f3,ba,b0,rfl,rfl⟩;replace b0:=HS.G8 a4 V b0;replace hm:=(((hm.ac b4).ac a8).ac a9).ac ba;have⟨O,T⟩:=M2 ba O T;replace al:=(al.ac a9).ac ba;replace an:=(an.ac a9).ac ba;refine cu 1 2 27 27 [] [(27,(chk E !=0))] Hn_ K_ V λ_=>ai 1 V (zi 1 2 (λa5=>?_) λa5=>?_)
 ·have e8:=a5;try simp only[BS]at e8
  refine wU 1 [(3,.o (.bool true))] 28 32 [8] [(8,(((cX E)==([]:List UInt8))&&true))] (λ(g1:((cX E)==([]:List UInt8))=true)=>(ex_c_q 10 e3)) V λ_=>ag ⟨.inr V,_,V,(((cX E)==([]:List UInt8))&&true),_,(fT (fT (fT (fT (d1) b4) a8) a9) ba),(HS.G3 b0),V,(by(rw[rt_no (by simpa using a5)];rfl))⟩
 refine ab (zm (tX (cX E)) (zc (pg.Parse_c 10 (cX E) (HS.call b0) (Nat.lt_of_le_of_lt (rt_len (GdB.of M X X) X) e_)) ?_));rintro _ f9 ⟨Z,b2,b6,b3,b8,U,e0,bl,b9,rfl,a6,a7,ex,ez,bw⟩;replace b9:=HS.G8 b0 V b9;have⟨hm,O,T,al,an⟩:=M5 bl hm O T al an;let d5:Value:=(aG [(S_ b2 Z.d b6),(S_ b3 Z.U b8)])
 refine cu 3 2 36 37 [33] [(36,d5),(37,(aG [U.L,U.G2]))] Hn_ K_ V λ_=>zn b9 V λe5 gm d9=>zn d9 V λe6 go ea=>sgo 2 7 1 0 [] [] (Hr_ 7 2 (Hr_ 8 3 Hn_)) ea V V λfu g0 bn=>ai 2 V (dq 8 63 [] [(8,(((((U.L==0)&&((U.G2==0)&&true))&&eqP Z E)&&((cX Z)==(cX E)))&&(((cX E)==(cX (bm m)))==eqP E (bm m))))] (λH'=> ∃F',e0.le F'/\Hb H F' H' [(fP b5 [(S_ c0 E.d c8),(S_ c3 E.U c9)]),(fP b7 [(sL c4 (Q (bm m).d) dk),(sL c5 (Q (bm m).U) dn)]),(fP e5 [(S_ b2 Z.d b6),(S_ b3 Z.U b8)]),(fP e6 [U.L,U.G2])] R) ?_ ?_)
 ·refine ab (ad (v:=(aG [U.L,U.G2])) (cm (i:=0) V V V (HS.hc bn (i:=3) V) V V V) V V (ad (v:=(aG [(iI 0),(iI 0)])) (lp V V K_) V V (ad (v:=(.bool ((U.L==0)&&((U.G2==0)&&true)))) (ap_agEq (bs:=[(U.L==0),(U.G2==0)]) V V V V V K_ K_ (.cons ⟨by decide,_,_,V,V,eqI V⟩ (.cons ⟨by decide,_,_,V,V,eqI V⟩ .nil))) V V (zm (.bool ((U.L==0)&&((U.G2==0)&&true))) (fg (v:=((U.L==0)&&((U.G2==0)&&true))) V V (λa1=>?_) (λa1=>?_))))))
  ·have ch:=a1;try simp only[BS]at ch
   refine ad (v:=d5) (cm (i:=0) V V V (HS.hc bn (i:=2) V) V V V) V V (aC V a1 (ad (v:=dt) (cm (i:=0) V V V (h_ bn V) V V V) V V (aC V a1 (zc (sq.i8 10 Z E (HS.call bn) a6 a7 O T (by(rw[(mr (GdB.of M X X) X (by simpa using a5) bw).1];exact few_p X))) ?_))));rintro _ g3 ⟨g8,f5,a2,bt,rfl,rfl⟩;replace bt:=HS.G8 bn V bt;have⟨a6,a7,O,T,al,an⟩:=M6 a2 a6 a7 O T al an;refine ad (v:=(.bool (eqP Z E))) (aq V a1 V) V V (zm (.bool (eqP Z E)) (fg (v:=(eqP Z E)) V V (λaA=>?_) (λaA=>?_)))
   ·have ci:=aA;try simp only[BS]at ci
    refine ad (v:=d5) (cm (i:=0) V V V (HS.hc bt (i:=2) V) V V V) V V (aC V aA (zc (dh.oJ 10 Z (HS.call bt) a6 a7 (by(rw[(mr (GdB.of M X X) X (by simpa using a5) bw).1];first|exact(GdB.of M X X).nm|exact(GdB.of M X X).sn|exact(GdB.of M X X).len5)) (by(rw[(mr (GdB.of M X X) X (by simpa using a5) bw).1];first|exact(GdB.of M X X).nm|exact(GdB.of M X X).sn|exact(GdB.of M X X).len5)) (by(rw[(mr (GdB.of M X X) X (by simpa using a5) bw).1];first|exact(GdB.of M X X).nm|exact(GdB.of M X X).sn|exact(GdB.of M X X).len5))) ?_));rintro _ g4 ⟨hj,f6,bb,bf,rfl,rfl⟩;replace bf:=HS.G8 bt V bf;have⟨O,T,al,an⟩:=M4 bb O T al an;refine aC V aA (zm (tX (cX E)) (aC V aA (ad (v:=(.bool ((cX Z)==(cX E)))) (ap_eqS V V) V V (ad (v:=(.bool ((cX Z)==(cX E)))) (aq V aA V) V V (zm (.bool ((cX Z)==(cX E))) ?_)))));refine fg (v:=((cX Z)==(cX E))) V V (λax=>?_) (λax=>?_)
    ·have co:=ax;try simp only[BS]at co
     refine zm (tX (cX E)) (aC V ax (zm (tX (cX (bm m))) (aC V ax (ad (v:=(.bool ((cX E)==(cX (bm m))))) (ap_eqS V V) V V (aC V ax ?_)))));refine ad (v:=dt) (cm (i:=0) V V V (h_ bf V) V V V) V V (aC V ax (ad (v:=d8) (cm (i:=0) V V V (i_ bf V) V V V) V V (aC V ax (zc (sq.i8 10 E (bm m) (HS.call bf) O T al an (few_p X)) ?_))));rintro _ e4 ⟨g9,f7,d3,b1,rfl,rfl⟩;replace b1:=HS.G8 bf V b1;refine aC V ax (ad (v:=(.bool (((cX E)==(cX (bm m)))==eqP E (bm m)))) (ap_boolEq V V (λa b=>by cases a<;>cases b<;>kernel_rfl)) V V (ad (v:=(.bool (((cX E)==(cX (bm m)))==eqP E (bm m)))) (aq V ax V) V V (zm (.bool (((cX E)==(cX (bm m)))==eqP E (bm m))) (fg (v:=(((cX E)==(cX (bm m)))==eqP E (bm m))) V V (λbF=>?_) (λbF=>?_)))))
     ·have cL:=bF;try simp only[BS]at cL
      refine zc (ex_c 10 _) ?_;rintro _ e4 ⟨he,rfl,rfl,rfl⟩;refine ad (v:=(.bool true)) (aq V bF V) V V (za (.bool true) (aB ?_));exact ao ⟨V,⟨_,(fT (fT (fT fR a2) bb) d3),HS.sub b1 (List.Sublist.refl _)⟩,(by repeat' first|exact Lr|refine Lu V ?_),(agC (congrArg Value.bool (show true=(((((U.L==0)&&((U.G2==0)&&true))&&eqP Z E)&&((cX Z)==(cX E)))&&(((cX E)==(cX (bm m)))==eqP E (bm m))) by simp only[↓a1,↓aA,↓ax,↓bF,BT])) agN)⟩
     have cL:=bF;try simp only[BS]at cL
     refine ad (v:=(.bool false)) (aH V bF V) V V (za (.bool false) (aB ?_));exact ao ⟨V,⟨_,(fT (fT (fT fR a2) bb) d3),HS.sub b1 (List.Sublist.refl _)⟩,(by repeat' first|exact Lr|refine Lu V ?_),(agC (congrArg Value.bool (show false=(((((U.L==0)&&((U.G2==0)&&true))&&eqP Z E)&&((cX Z)==(cX E)))&&(((cX E)==(cX (bm m)))==eqP E (bm m))) by simp only[↓a1,↓aA,↓ax,↓bF,BT])) agN)⟩
    have co:=ax;try simp only[BS]at co
    refine aK V ax V (aK V ax V (aK V ax V (aK V ax V (aK V ax V (aK V ax V ?_)))));refine ad (v:=(.bool false)) (aH V ax V) V V (zm (.bool false) (aK V V V (ad (v:=(.bool false)) (aH V V V) V V (za (.bool false) (aB ?_)))));exact ao ⟨V,⟨_,(fT (fT fR a2) bb),HS.sub bf (List.Sublist.refl _)⟩,(by repeat' first|exact Lr|refine Lu V ?_),(agC (congrArg Value.bool (show false=(((((U.L==0)&&((U.G2==0)&&true))&&eqP Z E)&&((cX Z)==(cX E)))&&(((cX E)==(cX (bm m)))==eqP E (bm m))) by simp only[↓a1,↓aA,↓ax,BT])) agN)⟩
   have ci:=aA;try simp only[BS]at ci
   refine aK V aA V (aK V aA V (aK V aA V (ad (v:=(.bool false)) (aH V aA V) V V (zm (.bool false) (aK V V V ?_)))));refine aK V V V (aK V V V (aK V V V (aK V V V (aK V V V (aK V V V ?_)))));refine ad (v:=(.bool false)) (aH V V V) V V (zm (.bool false) (aK V V V (ad (v:=(.bool false)) (aH V V V) V V (za (.bool false) (aB ?_)))));exact ao ⟨V,⟨_,(fT fR a2),HS.sub bt (List.Sublist.refl _)⟩,(by repeat' first|exact Lr|refine Lu V ?_),(agC (congrArg Value.bool (show false=(((((U.L==0)&&((U.G2==0)&&true))&&eqP Z E)&&((cX Z)==(cX E)))&&(((cX E)==(cX (bm m)))==eqP E (bm m))) by simp only[↓a1,↓aA,BT])) agN)⟩
  have ch:=a1;try simp only[BS]at ch
  refine aK V a1 V (aK V a1 V (ad (v:=(.bool false)) (aH V a1 V) V V (zm (.bool false) (aK V V V (aK V V V ?_)))));refine aK V V V (aK V V V (ad (v:=(.bool false)) (aH V V V) V V (zm (.bool false) (aK V V V (aK V V V ?_)))));refine aK V V V (aK V V V (aK V V V (aK V V V (aK V V V (ad (v:=(.bool false)) (aH V V V) V V ?_)))));refine zm (.bool false) (aK V V V (ad (v:=(.bool false)) (aH V V V) V V (za (.bool false) (aB ?_))));exact ao ⟨V,⟨_,fR,HS.sub bn (List.Sublist.refl _)⟩,(by repeat' first|exact Lr|refine Lu V ?_),(agC (congrArg Value.bool (show false=(((((U.L==0)&&((U.G2==0)&&true))&&eqP Z E)&&((cX Z)==(cX E)))&&(((cX E)==(cX (bm m)))==eqP E (bm m))) by simp only[↓a1,BT])) agN)⟩
 skip;rintro g5 g2 ⟨f4,d2,ee⟩;have hm:=hm.ac d2;refine aj 1 V (ag ⟨.inr V,_,V,(((((U.L==0)&&((U.G2==0)&&true))&&eqP Z E)&&((cX Z)==(cX E)))&&(((cX E)==(cX (bm m)))==eqP E (bm m))),_,(fT (fT (fT (fT (fT (fT (d1) b4) a8) a9) ba) bl) d2),(HS.G3 ee),V,(rt_fin (GdB.of M X X) X (by simpa using a5) bw (sr_all hm))⟩)
end lt
end Go.Proofs.YtkpgbdkkgcdhmaaGreat
