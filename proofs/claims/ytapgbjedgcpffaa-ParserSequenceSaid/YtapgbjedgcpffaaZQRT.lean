/-
Plain laws: what the functions compute answers as the statement says. No condition beyond those that each statement names.
-/
import Derived.Test.YtapgbjedgcpffaaZQGP
import Derived.Test.YtapgbjedgcpffaaZQPH
noncomputable section
namespace Go.Proofs.Ytapgbjedgcpffaa.rt
open Go.R w1 w3 l1 pt pa pb pc pd pe pf pg ca cc cd ta tb gp
set_option linter.unusedVariables false
set_option linter.unusedSimpArgs false
open cb hiding jl jn
abbrev Wd:=Int×List UInt8
def wk(t:Token):Wd:=(t.kind,t.text.b)
theorem scn{s t h:List UInt8}{a f b:Nat}{O:Int}(hd:s.drop a=t++h)(T:ay (t++h)=(O,t,0))(Y:0<t.length)(hb:spl false h=b):dP (f+1) s a=consT ⟨O,⟨t⟩,(a:Int)⟩ (dP f s (a+t.length+b))/\s.drop (a+t.length)=h:=by
 have U:=congrArg List.length hd;rw[a0P,a00]at U;have E:s.drop (a+t.length)=h:=by rw[←a1t,hd,List.drop_left]
 refine⟨?_,E⟩;rw[dP,if_pos (by omega),hd,T,if_pos rfl];show consT _ (dP f s (a+t.length+spl false (s.drop (a+t.length))))=_;rw[E,hb]
theorem scn_end{s:List UInt8}{a f:Nat}(hd:s.drop a=[]):dP f s a=([],0,0):=by
 cases f with
 |zero=>rfl
 |succ f=>
  have h:=congrArg List.length hd
  rw[a0P,a03]at h
  rw[dP,if_neg (by omega)]
theorem tw_app{p:UInt8->Bool}: ∀{a b:List UInt8},a.all p=true->(∀c r,b=c::r->p c=false)->(a++b).takeWhile p=a
 | [],[],_,_=>rfl
 | [],c::r,_,h=>by rw[a0z,a1b,h c r rfl];rfl
 |x::a,b,ha,h=>by simp only[a0R,a04]at ha;rw[a0w,a1b,ha.1];show x::(a++b).takeWhile p=x::a;rw[tw_app ha.2 h]
def Nw(s:List UInt8):Prop:= ∀c r,s=c::r->bF c=false
theorem Nw.c{c:UInt8}{s:List UInt8}(h:bF c=false):Nw (c::s):=fun d r e=>by injection e with e _;rw[←e];exact h
def Sc(s:List UInt8)(ws:List Wd):Prop:= ∀(S:List UInt8) (a f:Nat),S.drop a=s->s.length<f->∃l,dP f S (a+spl false s)=(l,0,0)/\l.map wk=ws
theorem Sc.nil:Sc [] []:=fun S a f h _=>⟨[],by rw[show a+spl false []=a from rfl,scn_end h],rfl⟩
section
variable {s w:List UInt8} {ws:List Wd} {k:Int} {c:UInt8}
theorem Sc.blank(h:Sc s ws)(hc:c=32\/c=10):Sc (c::s) ws:=fun S a f hd U=>by
 have E:S.drop (a+1)=s:=by rw[←a1t,hd];rfl
 have e:spl false (c::s)=1+spl false s:=by rw[spl,if_pos (hc.elim .inl fun h=> .inr (.inr (.inl h)))]
 obtain⟨l,O,T⟩:=h S (a+1) f E (by rw[a01]at U;omega);exact⟨l,by rw[e,←a0E];exact O,T⟩
theorem Sc.sp(h:Sc s ws):Sc (32::s) ws:=h.blank (.inl rfl)
theorem Sc.nl(h:Sc s ws):Sc (10::s) ws:=h.blank (.inr rfl)
theorem Sc.sps(h:Sc s ws): ∀{l:List UInt8},(∀x∈l,x=32)->Sc (l++s) ws
 | [],_=>h
 |x::l,hl=>by have:=hl x (a0s ..);subst this;exact(h.sps fun y E=>hl y (a0f _ E)).sp
theorem Sc.word(h:Sc s ws)(hw:0<w.length)(T:spl false (w++s)=0)(hk:ay (w++s)=(k,w,0)):Sc (w++s) ((k,w)::ws):=fun S a f hd Z=>by
 rw[a00]at Z;obtain⟨g,rfl⟩: ∃g,f=g+1:=⟨f-1,by omega⟩
 obtain⟨E,O⟩:=scn (f:=g) hd hk hw (b:=spl false s) rfl;obtain⟨l,U,Y⟩:=h S (a+w.length) g O (by omega);refine⟨⟨k,⟨w⟩,(a:Int)⟩::l,?_,?_⟩
 ·rw[T];show dP (g+1) S a=_;rw[E,U];rfl
 rw[a1q,Y];rfl
theorem spl_0(h: ¬(c=32\/c=9\/c=10\/c=13))(E:c≠35):spl false (c::s)=0:=by rw[spl,if_neg h,if_neg E]
theorem spl_w(h:bF c=true):spl false (c::s)=0:=spl_0 (by rintro(rfl|rfl|rfl|rfl)<;>exact absurd h (by decide)) (by rintro rfl;exact absurd h (by decide))
theorem Sc.name(h:Sc s ws)(Y:inNm w=true)(Z:Nw s):Sc (w++s) ((1,w)::ws):=by
 unfold inNm at Y;simp only[a04,decide_eq_true_eq]at Y;obtain⟨⟨⟨E,O⟩,T⟩,U⟩:=Y;cases w with
 |nil=>exact absurd T (by decide)
 |cons c w=>
  have E:bT c=true:=E
  have Y:aZ (c::w++s)=(c::w).length:=by unfold aZ;rw[tw_app O Z]
  refine h.word (by omega) (spl_w (by unfold bF;rw[E];rfl)) ?_
  unfold ay
  have hd:bu c=false:=by
   cases e:bu c with
   |false=>rfl
   |true=>
    unfold bT at E;unfold bu at e
    simp only[a04,a0O,decide_eq_true_eq,beq_iff_eq]at E e
    omega
  rw[Y,if_neg (by omega),if_neg (by show ¬bu c=true;rw[hd];decide),if_neg (by omega),List.take_left]
theorem Sc.num{d:List UInt8}(h:Sc s ws)(hd:iC d=true)(U:val d<=9223372036854775808)(T:Nw s):Sc (d++s) ((2,d)::ws):=by
 have E:=fY.1 hd;have ha:d.all bF=true:=a0l.2 fun c hc=>by have:=(a0l.1 E.2.2.1) c hc;unfold bF;rw[show bu c=true from this,a1o]
 have Y:aZ (d++s)=d.length:=by unfold aZ;rw[tw_app ha T]
 cases d with
 |nil=>exact absurd E.1 (by decide)
 |cons x d=>
  have O:bu x=true:=(a0l.1 E.2.2.1) x (a0s ..)
  refine h.word (Nat.succ_pos _) (spl_w (by unfold bF;rw[O,a1o])) ?_
  unfold ay
  rw[Y,if_neg (by rw[a01];omega),if_pos (show bu ((x::d++s).getD 0 0)=true from O),List.take_left,if_pos ((ph.vn_iff (by simp)).2 ⟨hd,U⟩)]
theorem Sc.sym(h:Sc s ws)(hc:c∈[43,45,42,47,37,38,124,94,126,63,58,59,44,40,41,123,125,91,93]):Sc (c::s) ((3,[c])::ws):=by
 have hq:bF c=false/\¬(c=32\/c=9\/c=10\/c=13)/\c≠35/\c∈dr/\c≠60/\c≠62/\c≠61/\c≠33:=by revert c;decide
 obtain⟨O,T,U,Y,Z,E,q7,q8⟩:=hq;refine h.word (w:=[c]) Nat.one_pos (spl_0 T U) ?_;unfold ay;have hw:aZ ([c]++s)=0:=by show((c::s).takeWhile bF).length=0;rw[a1b,O];rfl
 have hs:bL ([c]++s)=1:=by
  show bL (c::s)=1;unfold bL;rw[if_neg,if_neg,if_pos (show(c::s).getD 0 0∈dr from Y)]
  ·show ¬(c::s.take 1=_\/c::s.take 1=_\/c::s.take 1=_\/c::s.take 1=_\/c::s.take 1=_\/c::s.take 1=_);rintro(e|e|e|e|e|e)<;>(injection e with e _;first|exact Z e|exact E e|exact q7 e|exact q8 e)
  show ¬c::s.take 2=_;intro e;injection e with e _;exact E e
 rw[if_pos hw,hs,if_neg (by decide)];rfl
theorem Sc.op{o:List UInt8}(h:Sc s ws)(Y:o∈[[43],[45],[42],[47],[37],[38],[124],[94],[60,60],[62,62,62],[62,62],[61,61],[33,61],[60],[60,61],[61],[63],[58]]):Sc (o++32::s) ((3,o)::ws):=by
 have hs:bL (o++32::s)=o.length/\aZ (o++32::s)=0/\spl false (o++32::s)=0/\0<o.length:=by
  simp only[a0j,a0e,or_false]at Y;rcases Y with rfl|rfl|rfl|rfl|rfl|rfl|rfl|rfl|rfl|rfl|rfl|rfl|rfl|rfl|rfl|rfl|rfl|rfl<;>
   refine⟨?_,?_,rfl,by decide⟩<;>first
   |(show(List.takeWhile bF _).length=0;rw[a0w,a1b];rfl)
   |(unfold bL;simp[dr])
 obtain⟨E,O,T,U⟩:=hs;refine h.sp.word U T ?_;unfold ay;rw[if_pos O,E,if_neg (by omega),List.take_left]
end
def wdN(n:Int):List Wd:=if n<0 then [(3,[45]),(2,dec n.natAbs)] else [(2,dec n.toNat)]
def wdP(w:List Wd):List Wd:=(3,[40])::(w++[(3,[41])])
def wdF(e:ExpT)(m:Bool)(w:List Wd):List Wd:=if(e.kind=4\/e.kind=5)\/(m=true/\e.kind=1) then wdP w else w
def wdK(h:List ExpT)(ws:List (List Wd))(i:Nat)(m:Bool):List Wd:=wdF (h.getD i default) m (ws.getD i [])
def wdX(k n:Int)(E:List UInt8)(o:Int)(h:List ExpT)(ws:List (List Wd)):List Wd:=
 if k=1 then wdN n
 else if k=2 then [(1,E)]
 else if k=3 then(1,E)::(3,[91])::(ws.getD 0 []++[(3,[93])])
 else if k=5 then wdK h ws 0 false++(3,[63])::(wdK h ws 1 false++(3,[58])::wdK h ws 2 false)
 else if o=20 then(3,[45])::wdK h ws 0 true
 else if o=21 then(3,[126])::wdK h ws 0 false
 else wdK h ws 0 false++(3,opX o)::wdK h ws 1 false
mutual
def wdE:ExpT->List Wd
 |⟨k,n,nm,o,ks⟩=>wdX k n nm.b o ks (iQ ks)
def iQ:List ExpT->List (List Wd)
 | []=> []
 |e::l=>wdE e::iQ l
end
theorem in_e{e:ExpT}(h:inE e):in64 e.n/\inE.inEs e.kids:=by cases e;rwa [inE]at h
theorem lY: ∀{l:List ExpT},inE.inEs l->∀x∈l,inE x
 |e::l,h,x,hx=>by
  rw[inE.inEs]at h;rcases a0j.1 hx with rfl|hx
  ·exact h.1
  exact lY h.2 x hx
theorem wd_e(e:ExpT):wdE e=wdX e.kind e.n e.name.b e.op e.kids (iQ e.kids):=by cases e;rw[wdE]
theorem wds_at: ∀{l:List ExpT} {i:Nat},i<l.length->(iQ l).getD i []=wdE (l.getD i default)
 |e::l,0,_=>by rw[iQ];rfl
 |e::l,i+1,h=>by rw[iQ];exact wds_at (l:=l) (by simpa using h)
theorem wk_at{l:List ExpT}{i:Nat}(m:Bool)(h:i<l.length):wdK l (iQ l) i m=wdF (l.getD i default) m (wdE (l.getD i default)):=by unfold wdK;rw[wds_at h]
section
variable {e:ExpT}
theorem wd_1(h:e.kind=1):wdE e=wdN e.n:=by rw[wd_e,wdX,if_pos h]
theorem wd_2(h:e.kind=2):wdE e=[(1,e.name.b)]:=by rw[wd_e,wdX,if_neg (by omega),if_pos h]
theorem wd_3(h:e.kind=3)(k:(e.kids.length:Int)=1):wdE e=(1,e.name.b)::(3,[91])::(wdE (e.kids.getD 0 default)++[(3,[93])]):=by rw[wd_e,wdX,if_neg (by omega),if_neg (by omega),if_pos h,wds_at (by omega)]
theorem wd_5(h:e.kind=5)(k:(e.kids.length:Int)=3):wdE e=wdF (e.kids.getD 0 default) false (wdE (e.kids.getD 0 default))++(3,[63])::(wdF (e.kids.getD 1 default) false (wdE (e.kids.getD 1 default))++(3,[58])::wdF (e.kids.getD 2 default) false (wdE (e.kids.getD 2 default))):=by rw[wd_e,wdX,if_neg (by omega),if_neg (by omega),if_neg (by omega),if_pos h,wk_at _ (by omega),wk_at _ (by omega),wk_at _ (by omega)]
theorem wd_n(h:e.kind=4)(o:e.op=20)(k:(e.kids.length:Int)=1):wdE e=(3,[45])::wdF (e.kids.getD 0 default) true (wdE (e.kids.getD 0 default)):=by rw[wd_e,wdX,if_neg (by omega),if_neg (by omega),if_neg (by omega),if_neg (by omega),if_pos o,wk_at _ (by omega)]
theorem wd_t(h:e.kind=4)(o:e.op=21)(k:(e.kids.length:Int)=1):wdE e=(3,[126])::wdF (e.kids.getD 0 default) false (wdE (e.kids.getD 0 default)):=by rw[wd_e,wdX,if_neg (by omega),if_neg (by omega),if_neg (by omega),if_neg (by omega),if_neg (by omega),if_pos o,wk_at _ (by omega)]
theorem wd_b(h:e.kind=4)(o:e.op≠20)(E:e.op≠21)(k:(e.kids.length:Int)=2):wdE e=wdF (e.kids.getD 0 default) false (wdE (e.kids.getD 0 default))++(3,opX e.op)::wdF (e.kids.getD 1 default) false (wdE (e.kids.getD 1 default)):=by rw[wd_e,wdX,if_neg (by omega),if_neg (by omega),if_neg (by omega),if_neg (by omega),if_neg o,if_neg E,wk_at _ (by omega),wk_at _ (by omega)]
end
theorem nat_ok{n:Nat}(h:n<=9223372036854775808):iC (dec n)=true/\val (dec n)<=9223372036854775808:=⟨jX (by omega),by rw[jH];exact h⟩
section
variable {s:List UInt8} {ws:List Wd}
theorem Sc.tn{n:Int}(h:Sc s ws)(U:in64 n)(T:Nw s):Sc (cS n++s) (wdN n++ws):=by
 obtain⟨E,O⟩:=U;unfold cS wdN;split
 ·obtain⟨k1,k2⟩:=nat_ok (n:=n.natAbs) (by omega);exact(h.num k1 k2 T).sym (by decide)
 obtain⟨k1,k2⟩:=nat_ok (n:=n.toNat) (by omega);exact h.num k1 k2 T
theorem hU{w:List UInt8}(h:vnm w=true):inNm w=true:=by unfold vnm at h;rw[a04]at h;exact h.1
theorem wfN_2{k n o c:Int}{E:List UInt8}(h:k=2\/k=3)(w:wfN k n E o c=true):vnm E=true/\n=0/\o=0/\(k=2->c=0):=by
 unfold wfN at w;rcases h with h|h
 ·rw[if_neg (by omega),if_pos h]at w;simp only[a04,beq_iff_eq]at w;exact⟨w.2,w.1.1.2,w.1.2,fun _=>w.1.1.1⟩
 rw[if_neg (by omega),if_neg (by omega),if_pos h]at w;simp only[a04,beq_iff_eq]at w;exact⟨w.2,w.1.1.2,w.1.2,fun q=>by omega⟩
theorem opX_mem{o:Int}(h:4<=o/\o<=18):opX o∈[[43],[45],[42],[47],[37],[38],[124],[94],[60,60],[62,62,62],[62,62],[61,61],[33,61],[60],[60,61],[61],[63],[58]]:=by
 have:o=4\/o=5\/o=6\/o=7\/o=8\/o=9\/o=10\/o=11\/o=12\/o=13\/o=14\/o=15\/o=16\/o=17\/o=18:=by omega
 rcases this with rfl|rfl|rfl|rfl|rfl|rfl|rfl|rfl|rfl|rfl|rfl|rfl|rfl|rfl|rfl<;>decide
def ScE(e:ExpT):Prop:=wfE e=true->inE e->∀{s:List UInt8} {ws:List Wd},Nw s->Sc s ws->Sc (fmE e++s) (wdE e++ws)
theorem jN{e:ExpT}{m:Bool}(h:ScE e)(E:wfE e=true)(hi:inE e)(hs:Nw s)(k:Sc s ws):Sc (opF e m (fmE e)++s) (wdF e m (wdE e)++ws):=by
 unfold opF wdF;split
 ·have:=(h E hi (s:=41::s) (Nw.c (by decide)) (k.sym (c:=41) (by decide))).sym (c:=40) (by decide);unfold wdP;simp only[a0b,a0w,a0z]at this⊢;exact this
 exact h E hi hs k
theorem lM(e:ExpT):ScE e:=exI (P:=ScE) (fun e ih hw hi s ws hs k=>by
 obtain⟨hk,hn⟩:=dI hw;obtain⟨i0,ik⟩:=in_e hi;have kid: ∀{i:Nat},i<e.kids.length->ScE (e.kids.getD i default)/\wfE (e.kids.getD i default)=true/\inE (e.kids.getD i default):=fun h=>⟨ih _ (cQ h),gI hk h,lY ik _ (cQ h)⟩
 by_cases h1:e.kind=1
 ·rw[fm_1 h1,wd_1 h1];exact k.tn i0 hs
 by_cases h2:e.kind=2
 ·rw[fm_2 h2,wd_2 h2];exact k.name (hU (wfN_2 (.inl h2) hn).1) hs
 by_cases h3:e.kind=3
 ·have c:=(wfN_3 h3 hn).1;obtain⟨E,O,T⟩:=kid (i:=0) (by omega);rw[fm_3 h3 c,wd_3 h3 c];have:=((E O T (s:=93::s) (Nw.c (by decide)) (k.sym (c:=93) (by decide))).sym (c:=91) (by decide)).name (hU (wfN_2 (.inr h3) hn).1) (Nw.c (by decide));simp only[a0b,a0w,a0z]at this⊢;exact this
 by_cases h5:e.kind=5
 ·have c:=wfN_5 h5 hn;obtain⟨E,O,T⟩:=kid (i:=0) (by omega);obtain⟨b1,b2,b3⟩:=kid (i:=1) (by omega);obtain⟨c1,c2,c3⟩:=kid (i:=2) (by omega);rw[fm_5 h5 c,wd_5 h5 c];have:=jN E O T (m:=false) (Nw.c (by decide)) ((jN b1 b2 b3 (m:=false) (Nw.c (by decide)) ((jN c1 c2 c3 (m:=false) hs k).op (o:=[58]) (by decide)).sp).op (o:=[63]) (by decide)).sp;simp only[a0b,a0w,a0z]at this⊢;exact this
 obtain⟨U,q1,q2⟩:=wfN_4 h1 h2 h3 h5 hn;by_cases Y:e.op=20
 ·have c:=q2 (.inl Y);obtain⟨E,O,T⟩:=kid (i:=0) (by omega);rw[fm_n U Y c,wd_n U Y c];exact(jN E O T (m:=true) hs k).sym (c:=45) (by decide)
 by_cases Z:e.op=21
 ·have c:=q2 (.inr Z);obtain⟨E,O,T⟩:=kid (i:=0) (by omega);rw[fm_t U Z c,wd_t U Z c];exact(jN E O T (m:=false) hs k).sym (c:=126) (by decide)
 obtain⟨c,ho⟩:=q1 ⟨Y,Z⟩;obtain⟨E,O,T⟩:=kid (i:=0) (by omega);obtain⟨b1,b2,b3⟩:=kid (i:=1) (by omega);rw[fm_b U Y Z c,wd_b U Y Z c];have:=jN E O T (m:=false) (Nw.c (by decide)) ((jN b1 b2 b3 (m:=false) hs k).op (o:=opX e.op) (opX_mem ho)).sp;simp only[a0b,a0w,a0z]at this⊢;exact this) _ e (a06 _)
end
theorem lim_eq{α:Type}{f g:Nat->Rs α}{r:Rs α}(h:Lim g r)(e:f=g):Lim f r:=e▸h
def Dw(ts:List Token)(i:Nat)(r:List Wd):Prop:=(ts.drop i).map wk=r
def hdW(r:List Wd):Wd:=r.headD (0,[])
section
variable {ts:List Token} {i:Nat} {r:List Wd} {x:Wd}
theorem Dw.tl(h:Dw ts i (x::r)):Dw ts (i+1) r:=by unfold Dw at h⊢;rw[←a1t,List.map_drop,h];rfl
theorem Dw.app{a b:List Wd}(h:Dw ts i (a++b)):Dw ts (i+a.length) b:=by unfold Dw at h⊢;rw[←a1t,List.map_drop,h,List.drop_left]
theorem Dw.hd(h:Dw ts i r):wk (ts.getD i default)=hdW r:=by
 unfold Dw at h;subst h;rw[a0a];rcases a0k i ts.length with q|q
 ·rw[a09 q,a0F q];rfl
 rw[a19 q,a12 q];rfl
theorem Dw.k(h:Dw ts i r):(ts.getD i default).kind=(hdW r).1:=congrArg Prod.fst h.hd
theorem Dw.t(h:Dw ts i r):(ts.getD i default).text.b=(hdW r).2:=congrArg Prod.snd h.hd
theorem Dw.s(h:Dw ts i r)(w:List UInt8):isS ts i w=(decide ((hdW r).1=3)&&decide ((hdW r).2=w)):=by unfold isS;rw[h.k,h.t]
theorem Dw.kw(h:Dw ts i r)(w:List UInt8):isK ts i w=(decide ((hdW r).1=1)&&decide ((hdW r).2=w)):=by unfold isK;rw[h.k,h.t]
theorem Dw.n(h:Dw ts i r):isN ts i=(decide ((hdW r).1=1)&& !fN (hdW r).2):=by unfold isN;rw[h.k,h.t]
theorem Dw.m(h:Dw ts i r):isM ts i=decide ((hdW r).1=2):=by unfold isM;rw[h.k]
theorem Dw.exp{w:List UInt8}(h:Dw ts i ((3,w)::r)):ff ts w i= .ok ((),i+1):=by unfold ff;rw[h.s];show(if(decide ((3:Int)=3)&&decide (w=w))=true then _ else _)=_;rw[decide_eq_true rfl,decide_eq_true rfl];rfl
theorem Dw.name{w:List UInt8}(h:Dw ts i ((1,w)::r))(E:vnm w=true):eW ts i= .ok ((⟨w⟩:Str),i+1):=by
 have O:fN w=false:=by unfold vnm at E;simpa using(Bool.and_eq_true_iff.1 E).2
 unfold eW;rw[h.n];show(if(decide ((1:Int)=1)&& !fN w)=true then _ else _)=_;rw[decide_eq_true rfl,O];show Except.ok ((ts.getD i default).text,i+1)=_;rw[show(ts.getD i default).text=(⟨w⟩:Str) from congrArg Str.mk h.t]
theorem Dw.key{w:List UInt8}(h:Dw ts i ((1,w)::r)):isK ts i w=true:=by rw[h.kw];show(decide ((1:Int)=1)&&decide (w=w))=true;rw[decide_eq_true rfl,decide_eq_true rfl];rfl
theorem Dw.nokey{k:Int}{w v:List UInt8}(h:Dw ts i ((k,w)::r))(q:k≠1\/w≠v):isK ts i v=false:=by
 rw[h.kw];show(decide (k=1)&&decide (w=v))=false
 rcases q with q|q
 ·rw[decide_eq_false q];rfl
 rw[decide_eq_false q,a18]
theorem Dw.sy{w:List UInt8}(h:Dw ts i ((3,w)::r)):isS ts i w=true:=by rw[h.s];show(decide ((3:Int)=3)&&decide (w=w))=true;rw[decide_eq_true rfl,decide_eq_true rfl];rfl
theorem Dw.nosy{k:Int}{w v:List UInt8}(h:Dw ts i ((k,w)::r))(q:k≠3\/w≠v):isS ts i v=false:=by
 rw[h.s];show(decide (k=3)&&decide (w=v))=false
 rcases q with q|q
 ·rw[decide_eq_false q];rfl
 rw[decide_eq_false q,a18]
def Stp(r:List Wd):Prop:=(hdW r).1=3->(hdW r).2∈[[41],[93],[59],[44],[58]]
def Nbr(r:List Wd):Prop:=hdW r≠(3,[91])
theorem Stp.c{w:List UInt8}(h:w∈[[41],[93],[59],[44],[58]]):Stp ((3,w)::r):=fun _=>h
theorem Nbr.c{w:List UInt8}(h:w≠ [91]):Nbr ((3,w)::r):=fun q=>h (show w=[91] from congrArg Prod.snd q)
theorem Stp.nbr(h:Stp r):Nbr r:=fun e=>by have:=h (by rw[e]);rw[e]at this;revert this;decide
theorem Stp.op(h:Stp r)(d:Dw ts i r)(k:Nat):opK ts k i=0:=by
 unfold opK;rw[d.k,d.t];cases e:decide ((hdW r).1=3) with
 |false=>rfl
 |true=>
  have:=h (of_decide_eq_true e)
  have E:(opT (hdW r).2).1=0:=by simp only[a0j,a0e,or_false]at this;rcases this with q|q|q|q|q<;>(rw[q];decide)
  rw[E];split<;>rfl
theorem Stp.q(h:Stp r)(d:Dw ts i r):isS ts i [63]=false:=by
 rw[d.s];cases e:decide ((hdW r).1=3) with
 |false=>rfl
 |true=>
  have:=h (of_decide_eq_true e)
  simp only[a0j,a0e,or_false]at this
  rcases this with q|q|q|q|q<;>(rw[q];decide)
variable {e a b:ExpT} {j:Nat}
theorem bin_dn{q:Nat}(Y:q<=8)(h:Lim (fun n=>kL ts n q i) (.ok (e,j))): ∀p,p<=q->(∀k,p<=k->k<q->opK ts k j=0)->Lim (fun n=>kL ts n p i) (.ok (e,j)):=by
 intro p U;obtain⟨d,rfl⟩: ∃d,q=p+d:=⟨q-p,by omega⟩
 clear U;induction d generalizing p with
 |zero=>intro _;exact h
 |succ d ih=>
  intro T
  refine Lim.succ (g:=fun n=>bnd (kL ts n (p+1) i) fun a i=>jh ts n p a i) (.seq (x:=e) (i:=j) ?_ ?_) fun n=>by rw[kL,if_neg (by omega)]
  ·exact ih (p+1) (by omega) (by rwa [show p+1+d=p+(d+1) by omega]) fun k E O=>T k (by omega) (by omega)
  exact Lim.succ (g:=fun _=> .ok (e,j)) (.const _) fun n=>by rw[jh,if_pos (T p (a06 _) (by omega))]
theorem bin_8(h:Lim (fun n=>gJ ts n i) (.ok (e,j))):Lim (fun n=>kL ts n 8 i) (.ok (e,j)):=h.succ fun n=>by rw[kL,if_pos rfl]
theorem ex_of(h:Lim (fun n=>kL ts n 0 i) (.ok (e,j)))(E:isS ts j [63]=false):Lim (fun n=>cF ts n i) (.ok (e,j)):=
 Lim.succ (g:=fun n=>bnd (kL ts n 0 i) fun c i=>if isS ts i [63] then bnd (cF ts n (i+1)) fun a i=>bnd (ff ts [58] i) fun _ i=>bnd (cF ts n i) fun b i=> .ok (mkE 5 0 bD 0 [c,a,b],i) else .ok (c,i)) (.seq h (by rw[E];exact .const _)) fun n=>by rw[cF]
theorem ex_un(d:Dw ts j r)(E:Stp r)(h:Lim (fun n=>gJ ts n i) (.ok (e,j))):Lim (fun n=>cF ts n i) (.ok (e,j)):=
 ex_of (bin_dn (a06 _) (bin_8 h) 0 (by omega) fun k _ _=>E.op d k) (E.q d)
theorem una_pri(E:isS ts i [45]=false)(O:isS ts i [126]=false)(T:isS ts i [33]=false)(U:isS ts i [40]=false)(h:Lim (fun n=>priM ts n i) (.ok (e,j))):Lim (fun n=>gJ ts n i) (.ok (e,j)):=h.succ fun n=>by rw[gJ,E,O,T,U];rfl
theorem una_k(d:Dw ts i r)(E:(hdW r).1≠3)(h:Lim (fun n=>priM ts n i) (.ok (e,j))):Lim (fun n=>gJ ts n i) (.ok (e,j)):=by
 have k: ∀w,isS ts i w=false:=fun w=>by rw[d.s,decide_eq_false E];rfl
 exact una_pri (k _) (k _) (k _) (k _) h
theorem una_par(d:Dw ts i (wdP (wdE e)++r))(h: ∀{i r},Stp r->Dw ts i (wdE e++r)->Lim (fun n=>cF ts n i) (.ok (e,i+(wdE e).length))):Lim (fun n=>gJ ts n i) (.ok (e,i+(wdP (wdE e)).length)):=by
 have d0:Dw ts i ((3,[40])::(wdE e++((3,[41])::r))):=by unfold wdP at d;simpa using d
 have E:=d0.tl;have O:=E.app;have T:=h (r:=(3,[41])::r) (.c (by decide)) E;have k1:isS ts i [45]=false:=by rw[d0.s];rfl
 have k2:isS ts i [126]=false:=by rw[d0.s];rfl
 have U:isS ts i [33]=false:=by rw[d0.s];rfl
 have Y:isS ts i [40]=true:=by rw[d0.s];rfl
 refine Lim.succ (g:=fun n=>bnd (cF ts n (i+1)) fun x i=>bnd (ff ts [41] i) fun _ i=> .ok (x,i)) (.seq T ?_) fun n=>by rw[gJ,k1,k2,U,Y];rfl
 rw[O.exp];rw[show i+(wdP (wdE e)).length=i+1+(wdE e).length+1 by unfold wdP;simp;omega];exact .const _
theorem num_d{n:Nat}(h:n<=9223372036854775807):aV (dec n)=some (n:Int):=by have:=kU (n:=(n:Int)) ⟨by omega,by omega⟩;unfold cS at this;rwa [if_neg (by omega),show((n:Int)).toNat=n by omega]at this
theorem una_num{n:Int}(Z:in64 n)(d:Dw ts i (wdN n++r)):Lim (fun m=>gJ ts m i) (.ok (numE n,i+(wdN n).length)):=by
 obtain⟨U,Y⟩:=Z;unfold wdN at d⊢;split at d
 ·next E=>
  rw[if_pos E];have d0:Dw ts i ((3,[45])::(2,dec n.natAbs)::r):=d;have O:=d0.tl;have k1:isS ts i [45]=true:=by rw[d0.s];rfl
  have k2:isM ts (i+1)=true:=by rw[O.m];rfl
  have T:(ts.getD (i+1) default).text.b=dec n.natAbs:=O.t;have h:=kU (n:=n) ⟨U,Y⟩;unfold cS at h;rw[if_pos E]at h;refine Lim.succ (g:=fun _=> .ok (numE n,i+2)) (.const _) fun m=>by rw[gJ,if_pos k1,if_pos k2,T,h];rfl
 next E=>
 rw[if_neg E];have d0:Dw ts i ((2,dec n.toNat)::r):=d;refine una_k d0 (show(2:Int)≠3 by decide) (Lim.succ (g:=fun _=> .ok (numE n,i+1)) (.const _) fun m=>?_);have k2:isM ts i=true:=by rw[d0.m];rfl
 have hv:numV ts i=some n:=by unfold numV;rw[show(ts.getD i default).text.b=dec n.toNat from d0.t,num_d (by omega)];congr 1;omega
 rw[priM,if_pos k2,hv];rfl
theorem e_mk{k n:Int}{Z:List UInt8}{o:Int}{h:List ExpT}(E:e.kind=k)(O:e.n=n)(T:e.name.b=Z)(U:e.op=o)(Y:e.kids=h):mkE k n ⟨Z⟩ o h=e:=by cases e;cases E;cases O;cases T;cases U;cases Y;rfl
theorem kV{l:List ExpT}(h:(l.length:Int)=1):l=[l.getD 0 default]:=by
 match l,h with
 | [x],_=>rfl
 | [],h=>simp at h
 |x::y::l,h=>simp at h;omega
theorem two_of{l:List ExpT}(h:(l.length:Int)=2):l=[l.getD 0 default,l.getD 1 default]:=by
 match l,h with
 | [x,y],_=>rfl
 | [],h=>simp at h
 | [x],h=>simp at h
 |x::y::z::l,h=>simp at h;omega
theorem three_of{l:List ExpT}(h:(l.length:Int)=3):l=[l.getD 0 default,l.getD 1 default,l.getD 2 default]:=by
 match l,h with
 | [x,y,z],_=>rfl
 | [],h=>simp at h
 | [x],h=>simp at h
 | [x,y],h=>simp at h
 |x::y::z::u::l,h=>simp at h;omega
theorem wfN_1{k n o c:Int}{E:List UInt8}(h:k=1)(w:wfN k n E o c=true):c=0/\E=[]/\o=0:=by unfold wfN at w;rw[if_pos h]at w;simp only[a04,beq_iff_eq]at w;exact⟨w.1.1,w.1.2,w.2⟩
theorem wfN_45{k n o c:Int}{E:List UInt8}(h:k=4\/k=5)(w:wfN k n E o c=true):n=0/\E=[]/\(k=5->o=0):=by
 unfold wfN at w;rcases h with h|h
 ·rw[if_neg (by omega),if_neg (by omega),if_neg (by omega),if_pos h]at w;simp only[a04,beq_iff_eq]at w;exact⟨w.1.1,w.1.2,fun q=>by omega⟩
 rw[if_neg (by omega),if_neg (by omega),if_neg (by omega),if_neg (by omega),if_pos h]at w;simp only[a04,beq_iff_eq]at w;exact⟨w.1.1.2,w.1.2,fun _=>w.2⟩
theorem nil_of{l:List ExpT}(h:(l.length:Int)=0):l=[]:=a0g (by omega)
def PaE(ts:List Token)(e:ExpT):Prop:=wfE e=true->inE e->∀{i:Nat} {r:List Wd},Stp r->Dw ts i (wdE e++r)->Lim (fun n=>cF ts n i) (.ok (e,i+(wdE e).length))
theorem pa_at(hk:e.kind=1\/e.kind=2\/e.kind=3)(ih: ∀x∈e.kids,PaE ts x)(hw:wfE e=true)(hi:inE e)(hr:Nbr r)(d:Dw ts i (wdE e++r)):Lim (fun n=>gJ ts n i) (.ok (e,i+(wdE e).length)):=by
 obtain⟨wk,h⟩:=dI hw;obtain⟨i0,ik⟩:=in_e hi;rcases hk with U|O|T
 ·rw[wd_1 U]at d⊢;obtain⟨c1,c2,E⟩:=wfN_1 U h;have:=una_num i0 d;rwa [show numE e.n=e from e_mk U rfl c2 E (nil_of c1)]at this
 ·rw[wd_2 O]at d⊢;obtain⟨c1,c2,E,c4⟩:=wfN_2 (.inl O) h;have d0:Dw ts i ((1,e.name.b)::r):=d;have k1:isM ts i=false:=by rw[d0.m];rfl
  have k2:isS ts (i+1) [91]=false:=by
   rw[d0.tl.s];cases q:decide ((hdW r).1=3) with
   |false=>rfl
   |true=>
    rw[a1j]
    exact decide_eq_false fun z=>hr (Prod.ext (of_decide_eq_true q) z)
  refine una_k d0 (show(1:Int)≠3 by decide) (Lim.succ (g:=fun n=>bnd (eW ts i) fun s i=>if isS ts i [91] then bnd (cF ts n (i+1)) fun x i=>bnd (ff ts [93] i) fun _ i=> .ok (mkE 3 0 s 0 [x],i) else .ok (mkE 2 0 s 0 [],i)) ?_ fun n=>by rw[priM,k1];rfl);rw[d0.name c1];show Lim (fun n=>if isS ts (i+1) [91]=true then _ else _) _;rw[k2];rw[show e=mkE 2 0 ⟨e.name.b⟩ 0 [] from(e_mk O c2 rfl E (nil_of (c4 O))).symm];exact .const _
 obtain⟨c1,c2,E,_⟩:=wfN_2 (.inr T) h;have c:=(wfN_3 T h).1;rw[wd_3 T c]at d⊢;have d0:Dw ts i ((1,e.name.b)::(3,[91])::(wdE (e.kids.getD 0 default)++(3,[93])::r)):=by simpa using d
 have Y:=d0.tl;have Z:=Y.tl;have hm:=cQ (l:=e.kids) (i:=0) (by omega);have p:=ih _ hm (gI wk (by omega)) (lY ik _ hm) (r:=(3,[93])::r) (.c (by decide)) Z;have d3:=Z.app;have k1:isM ts i=false:=by rw[d0.m];rfl
 have k2:isS ts (i+1) [91]=true:=by rw[Y.s];rfl
 refine una_k d0 (show(1:Int)≠3 by decide) (Lim.succ (g:=fun n=>bnd (eW ts i) fun s i=>if isS ts i [91] then bnd (cF ts n (i+1)) fun x i=>bnd (ff ts [93] i) fun _ i=> .ok (mkE 3 0 s 0 [x],i) else .ok (mkE 2 0 s 0 [],i)) ?_ fun n=>by rw[priM,k1];rfl);rw[d0.name c1];show Lim (fun n=>if isS ts (i+1) [91]=true then _ else _) _;rw[k2];refine .seq p ?_;rw[d3.exp];rw[show mkE 3 0 ⟨e.name.b⟩ 0 [e.kids.getD 0 default]=e from e_mk T c2 rfl E (kV c)];rw[show i+((1,e.name.b)::(3,[91])::(wdE (e.kids.getD 0 default)++[(3,[93])])).length=i+1+1+(wdE (e.kids.getD 0 default)).length+1 by simp;omega];exact .const _
theorem pa_op{m:Bool}(h:PaE ts e)(ih: ∀x∈e.kids,PaE ts x)(Z:wfE e=true)(hi:inE e)(Y:Nbr r)(d:Dw ts i (wdF e m (wdE e)++r)):Lim (fun n=>gJ ts n i) (.ok (e,i+(wdF e m (wdE e)).length)):=by
 unfold wdF at d⊢;split at d
 ·next c=>rw[if_pos c];exact una_par d fun Y d=>h Z hi Y d
 next c=>
 rw[if_neg c];have hk:e.kind=1\/e.kind=2\/e.kind=3:=by
  by_cases E:e.kind=1
  ·exact .inl E
  by_cases O:e.kind=2
  ·exact .inr (.inl O)
  by_cases T:e.kind=3
  ·exact .inr (.inr T)
  by_cases U:e.kind=5
  ·exact absurd (.inl (.inr U)) c
  exact absurd (.inl (.inl (wfN_4 E O T U (dI Z).2).1)) c
 exact pa_at hk ih Z hi Y d
theorem op_lv{o:Int}(h:4<=o/\o<=18): ∃l:Nat,l<8/\opT (opX o)=(o,(l:Int),false)/\opX o≠ [63]/\opX o≠ [91]:=by
 have:o=4\/o=5\/o=6\/o=7\/o=8\/o=9\/o=10\/o=11\/o=12\/o=13\/o=14\/o=15\/o=16\/o=17\/o=18:=by omega
 rcases this with rfl|rfl|rfl|rfl|rfl|rfl|rfl|rfl|rfl|rfl|rfl|rfl|rfl|rfl|rfl
 ·exact⟨6,by decide,by decide,by decide,by decide⟩
 ·exact⟨6,by decide,by decide,by decide,by decide⟩
 ·exact⟨7,by decide,by decide,by decide,by decide⟩
 ·exact⟨7,by decide,by decide,by decide,by decide⟩
 ·exact⟨7,by decide,by decide,by decide,by decide⟩
 ·exact⟨2,by decide,by decide,by decide,by decide⟩
 ·exact⟨0,by decide,by decide,by decide,by decide⟩
 ·exact⟨1,by decide,by decide,by decide,by decide⟩
 ·exact⟨5,by decide,by decide,by decide,by decide⟩
 ·exact⟨5,by decide,by decide,by decide,by decide⟩
 ·exact⟨5,by decide,by decide,by decide,by decide⟩
 ·exact⟨3,by decide,by decide,by decide,by decide⟩
 ·exact⟨3,by decide,by decide,by decide,by decide⟩
 ·exact⟨4,by decide,by decide,by decide,by decide⟩
 exact⟨4,by decide,by decide,by decide,by decide⟩
theorem pa_bin{o:Int}(ho:4<=o/\o<=18){w v:List Wd}(h:Stp r)(d:Dw ts i (w++(3,opX o)::(v++r)))(ha:Lim (fun n=>gJ ts n i) (.ok (a,i+w.length)))(hb:Lim (fun n=>gJ ts n (i+w.length+1)) (.ok (b,i+w.length+1+v.length))):Lim (fun n=>cF ts n i) (.ok (mkE 4 0 bD o [a,b],i+w.length+1+v.length)):=by
 obtain⟨l,hl,Z,hq,_⟩:=op_lv ho;have E:=d.app;have O:=E.tl.app;have ok: ∀k,opK ts k (i+w.length)=if(l:Int)=(k:Int) then o else 0:=by
  intro k;unfold opK;rw[E.k,E.t];show(if(decide ((3:Int)=3)&&decide ((opT (opX o)).2.1=(k:Int)))=true then(opT (opX o)).1 else 0)=_;rw[Z];by_cases q:(l:Int)=(k:Int)
  ·rw[if_pos q,if_pos (by simp[q])]
  rw[if_neg q,if_neg (by simp[q])]
 have st: ∀k,opK ts k (i+w.length+1+v.length)=0:=fun k=>h.op O k
 have T:=bin_dn (a06 8) (bin_8 ha) (l+1) (by omega) fun k T U=>by rw[ok,if_neg (by omega)]
 have U:=bin_dn (a06 8) (bin_8 hb) (l+1) (by omega) fun k _ _=>st k
 have Y:Lim (fun n=>kL ts n l i) (.ok (mkE 4 0 bD o [a,b],i+w.length+1+v.length)):=by
  refine Lim.succ (g:=fun n=>bnd (kL ts n (l+1) i) fun a i=>jh ts n l a i) (.seq T ?_) fun n=>by rw[kL,if_neg (by omega)]
  refine Lim.succ (g:=fun n=>bnd (kL ts n (l+1) (i+w.length+1)) fun b j=>jh ts n l (mkB ts (i+w.length) a b) j) (.seq U ?_) fun n=>by rw[jh,if_neg (by rw[ok,if_pos rfl];omega)]
  refine Lim.succ (g:=fun _=> .ok (mkE 4 0 bD o [a,b],i+w.length+1+v.length)) (.const _) fun n=>?_
  rw[jh,if_pos (st _)];have:mkB ts (i+w.length) a b=mkE 4 0 bD o [a,b]:=by unfold mkB;rw[show(ts.getD (i+w.length) default).text.b=opX o from E.t,Z];rfl
  rw[this]
 exact ex_of (bin_dn (by omega) Y 0 (by omega) fun k _ _=>st k) (h.q O)
theorem pa_all(e:ExpT):PaE ts e/\∀x∈e.kids,PaE ts x:=exI (P:=fun e=>PaE ts e/\∀x∈e.kids,PaE ts x) (fun e ih=>⟨fun hw hi i r hr d=>by
 obtain⟨hk,hn⟩:=dI hw;obtain⟨i0,ik⟩:=in_e hi;have kid: ∀{q:Nat} {m:Bool} {i:Nat} {r:List Wd},q<e.kids.length->Nbr r->Dw ts i (wdF (e.kids.getD q default) m (wdE (e.kids.getD q default))++r)->Lim (fun n=>gJ ts n i) (.ok (e.kids.getD q default,i+(wdF (e.kids.getD q default) m (wdE (e.kids.getD q default))).length)):=fun h hr d=>pa_op (ih _ (cQ h)).1 (ih _ (cQ h)).2 (gI hk h) (lY ik _ (cQ h)) hr d
 by_cases h1:e.kind=1\/e.kind=2\/e.kind=3
 ·exact ex_un d.app hr (pa_at h1 (fun x hx=>(ih x hx).1) hw hi hr.nbr d)
 have g1:e.kind≠1:=fun q=>h1 (.inl q)
 have g2:e.kind≠2:=fun q=>h1 (.inr (.inl q))
 have g3:e.kind≠3:=fun q=>h1 (.inr (.inr q))
 by_cases T:e.kind=5
 ·have c:=wfN_5 T hn;obtain⟨c1,c2,c3⟩:=wfN_45 (.inr T) hn;rw[wd_5 T c]at d⊢;have d0:Dw ts i (wdF (e.kids.getD 0 default) false (wdE (e.kids.getD 0 default))++(3,[63])::(wdF (e.kids.getD 1 default) false (wdE (e.kids.getD 1 default))++(3,[58])::(wdF (e.kids.getD 2 default) false (wdE (e.kids.getD 2 default))++r))):=by simpa using d
  have p0:=kid (q:=0) (m:=false) (by omega) (.c (by decide)) d0;have E:=d0.app;have d2:=E.tl;have p1:=kid (q:=1) (m:=false) (by omega) (.c (by decide)) d2;have Z:=d2.app;have p2:=kid (q:=2) (m:=false) (by omega) hr.nbr Z.tl;have d4:=Z.tl.app;have e1:=ex_un Z (.c (by decide)) p1;have e2:=ex_un d4 hr p2;have k0: ∀k,opK ts k (i+(wdF (e.kids.getD 0 default) false (wdE (e.kids.getD 0 default))).length)=0:=by intro k;unfold opK;rw[E.k,E.t];show(if(decide ((3:Int)=3)&&decide ((opT [63]).2.1=(k:Int)))=true then(opT [63]).1 else 0)=_;rw[show(opT [63]).1=0 by decide];split<;>rfl
  have b0:=bin_dn (a06 8) (bin_8 p0) 0 (by omega) fun k _ _=>k0 k
  have kq:isS ts (i+(wdF (e.kids.getD 0 default) false (wdE (e.kids.getD 0 default))).length) [63]=true:=by rw[E.s];rfl
  refine Lim.succ (g:=fun n=>bnd (kL ts n 0 i) fun c i=>if isS ts i [63] then bnd (cF ts n (i+1)) fun a i=>bnd (ff ts [58] i) fun _ i=>bnd (cF ts n i) fun b i=> .ok (mkE 5 0 bD 0 [c,a,b],i) else .ok (c,i)) (.seq b0 ?_) fun n=>by rw[cF]
  rw[kq];refine .seq e1 ?_;rw[Z.exp];refine .seq (.const _) (.seq e2 ?_);rw[show mkE 5 0 bD 0 [e.kids.getD 0 default,e.kids.getD 1 default,e.kids.getD 2 default]=e from e_mk T c1 c2 (c3 T) (three_of c)];rw[a00,a01,a00,a01,show ∀x y z:Nat,i+(x+(y+(z+1)+1))=i+x+1+y+1+z by intros;omega];exact .const _
 obtain⟨O,q1,q2⟩:=wfN_4 g1 g2 g3 T hn;obtain⟨c1,c2,c3⟩:=wfN_45 (.inl O) hn;by_cases U:e.op=20
 ·have c:=q2 (.inl U);rw[wd_n O U c]at d⊢;have d0:Dw ts i ((3,[45])::(wdF (e.kids.getD 0 default) true (wdE (e.kids.getD 0 default))++r)):=d;have E:=d0.tl;have p:=kid (q:=0) (m:=true) (by omega) hr.nbr E;have k1:isS ts i [45]=true:=by rw[d0.s];rfl
  have k2:isM ts (i+1)=false:=by
   rw[E.m];refine decide_eq_false ?_;unfold wdF;split
   ·show ¬((3:Int)=2);decide
   next q=>
   have a4:(e.kids.getD 0 default).kind=2\/(e.kids.getD 0 default).kind=3:=by
    have wk:=dI (gI hk (i:=0) (by omega));by_cases x1:(e.kids.getD 0 default).kind=1
    ·exact absurd (.inr ⟨rfl,x1⟩) q
    by_cases x2:(e.kids.getD 0 default).kind=2
    ·exact .inl x2
    by_cases x3:(e.kids.getD 0 default).kind=3
    ·exact .inr x3
    by_cases x5:(e.kids.getD 0 default).kind=5
    ·exact absurd (.inl (.inr x5)) q
    exact absurd (.inl (.inl (wfN_4 x1 x2 x3 x5 wk.2).1)) q
   have wk:=dI (gI hk (i:=0) (by omega));rcases a4 with x|x
   ·rw[wd_2 x];show ¬((1:Int)=2);decide
   rw[wd_3 x (wfN_3 x wk.2).1];show ¬((1:Int)=2);decide
  have u:Lim (fun n=>gJ ts n i) (.ok (e,i+((3,[45])::wdF (e.kids.getD 0 default) true (wdE (e.kids.getD 0 default))).length)):=by
   refine Lim.succ (g:=fun n=>bnd (gJ ts n (i+1)) fun x i=> .ok (mkE 4 0 bD 20 [x],i)) (.seq p ?_) fun n=>by rw[gJ,if_pos k1,if_neg (by rw[k2];decide)]
   rw[show mkE 4 0 bD 20 [e.kids.getD 0 default]=e from e_mk O c1 c2 U (kV c),a01,show i+((wdF (e.kids.getD 0 default) true (wdE (e.kids.getD 0 default))).length+1)=i+1+(wdF (e.kids.getD 0 default) true (wdE (e.kids.getD 0 default))).length by omega];exact .const _
  exact ex_un d.app hr u
 by_cases Y:e.op=21
 ·have c:=q2 (.inr Y);rw[wd_t O Y c]at d⊢;have d0:Dw ts i ((3,[126])::(wdF (e.kids.getD 0 default) false (wdE (e.kids.getD 0 default))++r)):=d;have p:=kid (q:=0) (m:=false) (by omega) hr.nbr d0.tl;have k1:isS ts i [45]=false:=by rw[d0.s];rfl
  have k2:isS ts i [126]=true:=by rw[d0.s];rfl
  have u:Lim (fun n=>gJ ts n i) (.ok (e,i+((3,[126])::wdF (e.kids.getD 0 default) false (wdE (e.kids.getD 0 default))).length)):=by
   refine Lim.succ (g:=fun n=>bnd (gJ ts n (i+1)) fun x i=> .ok (mkE 4 0 bD 21 [x],i)) (.seq p ?_) fun n=>by rw[gJ,if_neg (by rw[k1];decide),if_pos k2]
   rw[show mkE 4 0 bD 21 [e.kids.getD 0 default]=e from e_mk O c1 c2 Y (kV c),a01,show i+((wdF (e.kids.getD 0 default) false (wdE (e.kids.getD 0 default))).length+1)=i+1+(wdF (e.kids.getD 0 default) false (wdE (e.kids.getD 0 default))).length by omega];exact .const _
  exact ex_un d.app hr u
 obtain⟨c,ho⟩:=q1 ⟨U,Y⟩;rw[wd_b O U Y c]at d⊢;have d0:Dw ts i (wdF (e.kids.getD 0 default) false (wdE (e.kids.getD 0 default))++(3,opX e.op)::(wdF (e.kids.getD 1 default) false (wdE (e.kids.getD 1 default))++r)):=by simpa using d
 obtain⟨_,_,_,_,hb⟩:=op_lv ho;have pa:=kid (q:=0) (m:=false) (by omega) (.c hb) d0;have pb:=kid (q:=1) (m:=false) (by omega) hr.nbr d0.app.tl;have u:=pa_bin ho hr d0 pa pb;rw[show mkE 4 0 bD e.op [e.kids.getD 0 default,e.kids.getD 1 default]=e from e_mk O c1 c2 rfl (two_of c)]at u;rwa [a00,a01,show ∀x y:Nat,i+(x+(y+1))=i+x+1+y by intros;omega],fun x hx=>(ih x hx).1⟩) _ e (a06 _)
theorem pa_ex(e:ExpT):PaE ts e:=(pa_all e).1
end
end Go.Proofs.Ytapgbjedgcpffaa.rt
