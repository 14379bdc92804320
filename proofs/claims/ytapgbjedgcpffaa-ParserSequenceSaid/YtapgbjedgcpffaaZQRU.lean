/-
Plain laws: what the functions compute answers as the statement says. No condition beyond those that each statement names.
-/
import Derived.Test.YtapgbjedgcpffaaZQRT
noncomputable section
namespace Go.Proofs.Ytapgbjedgcpffaa.ru
open Go.R w1 w3 l1 pt pa pb pc pd pe pf pg ca cc cd ta tb gp rt
set_option linter.unusedVariables false
set_option linter.unusedSimpArgs false
open cb hiding jl jn
def wdJ:Bool->List (List Wd)->List Wd
 |_,[]=> []
 |b,x::l=>(if b=true then [(3,[44])] else [])++(x++wdJ true l)
def wdS0(s:StmT)(t e:List Wd):List Wd:=
 if s.kind=1 then(1,s.name.b)::(3,[61])::(wdE s.val++[(3,[59])])
 else if s.kind=2 then(1,s.name.b)::(3,[91])::(wdE s.at_++(3,[93])::(3,[61])::(wdE s.val++[(3,[59])]))
 else if s.kind=5 then(1,[111,117,116])::(wdE s.val++[(3,[59])])
 else if s.kind=7 then [(1,[116,114,97,112]),(2,dec s.n.toNat),(3,[59])]
 else if s.kind=4 then(1,[119,104,105,108,101])::(3,[40])::(wdE s.val++(3,[41])::(3,[123])::(t++[(3,[125])]))
 else if s.kind=3 then(1,[105,102])::(3,[40])::(wdE s.val++(3,[41])::(3,[123])::(t++(3,[125])::(if 0<s.els.length then(1,[101,108,115,101])::(3,[123])::(e++[(3,[125])]) else [])))
 else(1,s.name.b)::(3,[61])::(1,s.to.b)::(3,[40])::(wdJ false (iQ s.args)++[(3,[41]),(3,[59])])
mutual
def wdS:StmT->List Wd
 |⟨k,nm,to,n,a,v,ar,t,e⟩=>wdS0 ⟨k,nm,to,n,a,v,ar,t,e⟩ (wdL t) (wdL e)
def wdL:List StmT->List Wd
 | []=> []
 |s::l=>wdS s++wdL l
end
theorem wd_s(s:StmT):wdS s=wdS0 s (wdL s.thn) (wdL s.els):=by cases s;rw[wdS]
mutual
def kJ:StmT->Prop
 |⟨_,_,_,_,a,v,ar,t,e⟩=>inE a/\inE v/\inE.inEs ar/\inL t/\inL e
def inL:List StmT->Prop
 | []=>True
 |s::l=>kJ s/\inL l
end
theorem in_s{s:StmT}(h:kJ s):inE s.at_/\inE s.val/\inE.inEs s.args/\inL s.thn/\inL s.els:=by cases s;rwa [kJ]at h
def nmW(s:Str):List Wd:=[(1,s.b)]
def wdAr(a:ArrT):List Wd:=[(1,[97,114,114,97,121]),(1,a.name.b),(2,dec a.len.toNat),(3,[59])]
def wdLc(l:List Str):List Wd:=if 0<l.length then(1,[118,97,114])::wdJ false (l.map nmW) else []
def wdFn(f:FunT):List Wd:=(1,[102,117,110,99])::(1,f.name.b)::(3,[40])::(wdJ false (f.pars.map nmW)++(3,[41])::(wdLc f.locs++(3,[123])::(wdL f.body++(1,[114,101,116,117,114,110])::(wdE f.val++[(3,[59]),(3,[125])]))))
section
variable {s:StmT} {t e:List Wd}
theorem wk1(h:s.kind=1):wdS0 s t e=(1,s.name.b)::(3,[61])::(wdE s.val++[(3,[59])]):=by rw[wdS0,if_pos h]
theorem wk2(h:s.kind=2):wdS0 s t e=(1,s.name.b)::(3,[91])::(wdE s.at_++(3,[93])::(3,[61])::(wdE s.val++[(3,[59])])):=by rw[wdS0,if_neg (by omega),if_pos h]
theorem wk5(h:s.kind=5):wdS0 s t e=(1,[111,117,116])::(wdE s.val++[(3,[59])]):=by rw[wdS0,if_neg (by omega),if_neg (by omega),if_pos h]
theorem wk7(h:s.kind=7):wdS0 s t e=[(1,[116,114,97,112]),(2,dec s.n.toNat),(3,[59])]:=by rw[wdS0,if_neg (by omega),if_neg (by omega),if_neg (by omega),if_pos h]
theorem wk4(h:s.kind=4):wdS0 s t e=(1,[119,104,105,108,101])::(3,[40])::(wdE s.val++(3,[41])::(3,[123])::(t++[(3,[125])])):=by rw[wdS0,if_neg (by omega),if_neg (by omega),if_neg (by omega),if_neg (by omega),if_pos h]
theorem wk3(h:s.kind=3):wdS0 s t e=(1,[105,102])::(3,[40])::(wdE s.val++(3,[41])::(3,[123])::(t++(3,[125])::(if 0<s.els.length then(1,[101,108,115,101])::(3,[123])::(e++[(3,[125])]) else []))):=by rw[wdS0,if_neg (by omega),if_neg (by omega),if_neg (by omega),if_neg (by omega),if_neg (by omega),if_pos h]
theorem wk6(h:s.kind=6):wdS0 s t e=(1,s.name.b)::(3,[61])::(1,s.to.b)::(3,[40])::(wdJ false (iQ s.args)++[(3,[41]),(3,[59])]):=by rw[wdS0,if_neg (by omega),if_neg (by omega),if_neg (by omega),if_neg (by omega),if_neg (by omega),if_neg (by omega)]
end
theorem kd_rng{s:StmT}(h:wfK s=true):1<=s.kind/\s.kind<=7:=by
 unfold wfK at h;repeat' split at h
 all_goals first|omega|cases h
theorem z_of{e:ExpT}(h:isZ e=true):e=zE:=by unfold isZ at h;simp only[a04,beq_iff_eq]at h;obtain⟨⟨⟨⟨E,O⟩,T⟩,U⟩,Y⟩:=h;exact(e_mk E O T U (nil_of Y)).symm
theorem ew{l:List StmT}(h:((l.length:Int)==0)=true):l=[]:=a0g (by have:=beq_iff_eq.1 h;omega)
theorem lR{l:List ExpT}(h:((l.length:Int)==0)=true):l=[]:=nil_of (beq_iff_eq.1 h)
theorem s_mk{s:StmT}{k n:Int}{h to:List UInt8}{a v:ExpT}{ar:List ExpT}{t e:List StmT}(E:s.kind=k)(O:s.name.b=h)(T:s.to.b=to)(U:s.n=n)(Y:s.at_=a)(Z:s.val=v)(h7:s.args=ar)(h8:s.thn=t)(h9:s.els=e):mkS k ⟨h⟩ ⟨to⟩ n a v ar t e=s:=by cases s;cases E;cases O;cases T;cases U;cases Y;cases Z;cases h7;cases h8;cases h9;rfl
theorem wf1{s:StmT}(h:s.kind=1)(w:wfK s=true):vnm s.name.b=true/\wfE s.val=true/\mkS 1 ⟨s.name.b⟩ bD 0 zE s.val [] [] []=s:=by rw[wfK,if_pos h]at w;unfold flS at w;simp only[a04]at w;obtain⟨⟨⟨⟨⟨⟨⟨w1,E⟩,w3⟩,O⟩,T⟩,U⟩,Y⟩,Z⟩:=w;exact⟨w3,Z,s_mk h rfl (beq_iff_eq.1 O) (beq_iff_eq.1 T) (z_of U) rfl (lR Y) (ew w1) (ew E)⟩
theorem wf2{s:StmT}(h:s.kind=2)(w:wfK s=true):vnm s.name.b=true/\wfE s.at_=true/\wfE s.val=true/\mkS 2 ⟨s.name.b⟩ bD 0 s.at_ s.val [] [] []=s:=by rw[wfK,if_neg (by omega),if_pos h]at w;unfold flS at w;simp only[a04]at w;obtain⟨⟨⟨⟨⟨⟨⟨w1,E⟩,w3⟩,O⟩,T⟩,U⟩,Y⟩,Z⟩:=w;exact⟨w3,U,Z,s_mk h rfl (beq_iff_eq.1 O) (beq_iff_eq.1 T) rfl rfl (lR Y) (ew w1) (ew E)⟩
theorem onv{s:StmT}(w:onV s=true):s.name.b=[]/\s.to.b=[]/\s.n=0/\s.at_=zE/\s.args=[]:=by unfold onV at w;simp only[a04]at w;exact⟨beq_iff_eq.1 w.1.1.1.1,beq_iff_eq.1 w.1.1.1.2,beq_iff_eq.1 w.1.1.2,z_of w.1.2,lR w.2⟩
theorem wf3{s:StmT}(h:s.kind=3)(w:wfK s=true):wfE s.val=true/\mkS 3 bD bD 0 zE s.val [] s.thn s.els=s:=by rw[wfK,if_neg (by omega),if_neg (by omega),if_pos h,a04]at w;obtain⟨a,b,c,d,f⟩:=onv w.1;exact⟨w.2,s_mk h a b c d rfl f rfl rfl⟩
theorem wf4{s:StmT}(h:s.kind=4)(w:wfK s=true):wfE s.val=true/\mkS 4 bD bD 0 zE s.val [] s.thn []=s:=by rw[wfK,if_neg (by omega),if_neg (by omega),if_neg (by omega),if_pos h,a04,a04]at w;obtain⟨a,b,c,d,f⟩:=onv w.1.1;exact⟨w.1.2,s_mk h a b c d rfl f rfl (ew w.2)⟩
theorem wf5{s:StmT}(h:s.kind=5)(w:wfK s=true):wfE s.val=true/\mkS 5 bD bD 0 zE s.val [] [] []=s:=by rw[wfK,if_neg (by omega),if_neg (by omega),if_neg (by omega),if_neg (by omega),if_pos h,a04,a04]at w;obtain⟨a,b,c,d,f⟩:=onv w.1.2;have w1:=w.1.1;unfold flS at w1;rw[a04]at w1;exact⟨w.2,s_mk h a b c d rfl f (ew w1.1) (ew w1.2)⟩
theorem wf6{s:StmT}(h:s.kind=6)(w:wfK s=true):vnm s.name.b=true/\vnm s.to.b=true/\mkS 6 ⟨s.name.b⟩ ⟨s.to.b⟩ 0 zE zE s.args [] []=s:=by rw[wfK,if_neg (by omega),if_neg (by omega),if_neg (by omega),if_neg (by omega),if_neg (by omega),if_pos h]at w;unfold flS at w;simp only[a04]at w;obtain⟨⟨⟨⟨⟨⟨w1,E⟩,w3⟩,O⟩,T⟩,U⟩,Y⟩:=w;exact⟨w3,O,s_mk h rfl rfl (beq_iff_eq.1 T) (z_of U) (z_of Y) rfl (ew w1) (ew E)⟩
theorem wf7{s:StmT}(h:s.kind=7)(w:wfK s=true):(0<=s.n/\s.n<=1000000)/\mkS 7 bD bD s.n zE zE [] [] []=s:=by rw[wfK,if_neg (by omega),if_neg (by omega),if_neg (by omega),if_neg (by omega),if_neg (by omega),if_neg (by omega),if_pos h]at w;unfold flS at w;simp only[a04,decide_eq_true_eq]at w;obtain⟨⟨⟨⟨⟨⟨⟨⟨w1,E⟩,w3⟩,O⟩,T⟩,U⟩,Y⟩,Z⟩,w9⟩:=w;exact⟨⟨T,U⟩,s_mk h (beq_iff_eq.1 w3) (beq_iff_eq.1 O) rfl (z_of Y) (z_of Z) (lR w9) (ew w1) (ew E)⟩
section
variable {s:List UInt8} {ws:List Wd}
theorem Sc.jn1(hs:Nw s)(h:Sc s ws): ∀{l:List Str} (b:Bool),(∀x∈l,vnm x.b=true)->Sc (jnR b l++s) (wdJ b (l.map nmW)++ws)/\Nw (jnR true l++s)
 | [],b,_=>⟨h,hs⟩
 |x::l,b,hl=>by
  obtain⟨O,T⟩:=Sc.jn1 hs h (l:=l) true fun y U=>hl y (a0f _ U)
  have E:=O.name (hU (hl x (a0s ..))) T;refine⟨?_,Nw.c (by decide)⟩;rw[a1q,jnR,wdJ];cases b with
  |false=>simpa[nmW] using E
  |true=>have:=E.sp.sym (c:=44) (by decide);simpa[nmW] using this
theorem Sc.jn2(hs:Nw s)(h:Sc s ws): ∀{l:List ExpT} (b:Bool),dO l=true->inE.inEs l->Sc (jnR b (jJ (gc l))++s) (wdJ b (iQ l)++ws)/\Nw (jnR true (jJ (gc l))++s)
 | [],b,_,_=>⟨h,hs⟩
 |x::l,b,hw,hi=>by
  rw[dO,a04]at hw;rw[inE.inEs]at hi;obtain⟨O,T⟩:=Sc.jn2 hs h (l:=l) true hw.2 hi.2;have E:=lM x hw.1 hi.1 T O;refine⟨?_,Nw.c (by decide)⟩;rw[gc,iQ];show Sc (jnR b (⟨fmE x⟩::jJ (gc l))++s) _;rw[jnR,wdJ];cases b with
  |false=>simpa using E
  |true=>have:=E.sp.sym (c:=44) (by decide);simpa using this
def ScS(s:StmT):Prop:=wfS s=true->kJ s->∀{ind r:List UInt8} {ws:List Wd},(∀x∈ind,x=32)->Sc r ws->Sc (fmS s ind++r) (wdS s++ws)
theorem sc_l: ∀{l:List StmT},(∀s∈l,ScS s)->cE l=true->inL l->∀{ind r:List UInt8} {ws:List Wd},(∀x∈ind,x=32)->Sc r ws->Sc (bV l ind++r) (wdL l++ws)
 | [],_,_,_,_,_,_,_,k=>by rw[bV,wdL];exact k
 |s::l,h,hw,hi,ind,r,ws,hd,k=>by rw[cE,a04]at hw;rw[inL]at hi;rw[bV,wdL,a0b,a0b];exact h s (a0s ..) hw.1 hi.1 hd (sc_l (fun x E=>h x (a0f _ E)) hw.2 hi.2 hd k)
theorem ind_2{ind:List UInt8}(h: ∀x∈ind,x=32): ∀x∈ind++[32,32],x=32:=fun x E=>by
 rcases a0c.1 E with E|E
 ·exact h x E
 simpa using E
theorem sc_s(s:StmT):ScS s:=stI (P:=ScS) (fun s h1 h2 hw hi ind r ws hd k=>by
 rw[wf_s,a04,a04,wfA,a04]at hw;obtain⟨⟨⟨a3,wk⟩,wt⟩,we⟩:=hw;obtain⟨ia,h,a1,it,ie⟩:=in_s hi;rw[fm_s,wd_s,a0b];refine Sc.sps ?_ hd;have kn:=k.nl;have ks:=kn.sym (c:=59) (by decide);have kb:=kd_rng wk;have T:=fun{q:List UInt8} {v:List Wd} (k:Sc q v)=>sc_l h1 wt it (ind_2 hd) k
 have E:=fun{q:List UInt8} {v:List Wd} (k:Sc q v)=>sc_l h2 we ie (ind_2 hd) k
 by_cases k1:s.kind=1
 ·obtain⟨w1,U,_⟩:=wf1 k1 wk;rw[fk_1 k1,wk1 k1];have:=((lM s.val U h (Nw.c (by decide)) ks).op (o:=[61]) (by decide)).sp.name (hU w1) (Nw.c (by decide));simpa using this
 by_cases k2:s.kind=2
 ·obtain⟨w1,U,w3,_⟩:=wf2 k2 wk;rw[fk_2 k2,wk2 k2];have:=((lM s.at_ U ia (Nw.c (by decide)) (((lM s.val w3 h (Nw.c (by decide)) ks).op (o:=[61]) (by decide)).sp.sym (c:=93) (by decide))).sym (c:=91) (by decide)).name (hU w1) (Nw.c (by decide));simpa using this
 by_cases Y:s.kind=3
 ·obtain⟨w1,_⟩:=wf3 Y wk;rw[fk_3 Y,wk3 Y];by_cases q:0<s.els.length
  ·rw[if_pos q,if_pos q];have b1:=(kn.sym (c:=125) (by decide)).sps hd;have b2:=(((E b1).nl.sym (c:=123) (by decide)).sp.name (w:=[101,108,115,101]) (by decide) (Nw.c (by decide))).sp;have O:=(T ((b2.sym (c:=125) (by decide)).sps hd)).nl;have:=(((lM s.val w1 h (Nw.c (by decide)) ((O.sym (c:=123) (by decide)).sp.sym (c:=41) (by decide))).sym (c:=40) (by decide)).sp).name (w:=[105,102]) (by decide) (Nw.c (by decide));simpa using this
  rw[if_neg q,if_neg q];have O:=(T ((kn.sym (c:=125) (by decide)).sps hd)).nl;have:=(((lM s.val w1 h (Nw.c (by decide)) ((O.sym (c:=123) (by decide)).sp.sym (c:=41) (by decide))).sym (c:=40) (by decide)).sp).name (w:=[105,102]) (by decide) (Nw.c (by decide));simpa using this
 by_cases Z:s.kind=4
 ·obtain⟨w1,_⟩:=wf4 Z wk;rw[fk_4 Z,wk4 Z];have O:=(T ((kn.sym (c:=125) (by decide)).sps hd)).nl;have:=(((lM s.val w1 h (Nw.c (by decide)) ((O.sym (c:=123) (by decide)).sp.sym (c:=41) (by decide))).sym (c:=40) (by decide)).sp).name (w:=[119,104,105,108,101]) (by decide) (Nw.c (by decide));simpa using this
 by_cases k5:s.kind=5
 ·obtain⟨w1,_⟩:=wf5 k5 wk;rw[fk_5 k5,wk5 k5];have:=(lM s.val w1 h (Nw.c (by decide)) ks).sp.name (w:=[111,117,116]) (by decide) (Nw.c (by decide));simpa using this
 by_cases k6:s.kind=6
 ·obtain⟨w1,U,_⟩:=wf6 k6 wk;rw[fk_6 (by omega) (by omega) (by omega) (by omega) (by omega) (by omega),wk6 k6];have b:=(Sc.jn2 (Nw.c (by decide)) (ks.sym (c:=41) (by decide)) false a3 a1).1;have:=((((b.sym (c:=40) (by decide)).name (hU U) (Nw.c (by decide))).op (o:=[61]) (by decide)).sp).name (hU w1) (Nw.c (by decide));simpa[jn] using this
 obtain⟨w1,_⟩:=wf7 (by omega) wk;rw[fk_7 (by omega),wk7 (by omega)];obtain⟨n1,n2⟩:=nat_ok (n:=s.n.toNat) (by omega);have:=(ks.num n1 n2 (Nw.c (by decide))).sp.name (w:=[116,114,97,112]) (by decide) (Nw.c (by decide));rw[show cS s.n=dec s.n.toNat by unfold cS;rw[if_neg (by omega)]];simpa using this) _ s (a06 _)
def inF(f:FunT):Prop:=inL f.body/\inE f.val
theorem sc_a{a:ArrT}(T:vnm a.name.b=true)(U:1<=a.len/\a.len<=16)(h:Sc s ws):Sc (arT a++s) (wdAr a++ws):=by obtain⟨E,O⟩:=nat_ok (n:=a.len.toNat) (by omega);have:=(((h.nl.sym (c:=59) (by decide)).num E O (Nw.c (by decide))).sp.name (hU T) (Nw.c (by decide))).sp.name (w:=[97,114,114,97,121]) (by decide) (Nw.c (by decide));unfold arT wdAr;rw[show cS a.len=dec a.len.toNat by unfold cS;rw[if_neg (by omega)]];simpa using this
theorem sc_f{f:FunT}(hw:wfF f=true)(hi:inF f)(h:Sc s ws):Sc (fnT f++s) (wdFn f++ws):=by
 rw[wf_f,a04,a04,a0l]at hw;obtain⟨⟨w1,Z⟩,w3⟩:=hw;have hn: ∀x∈[f.name]++f.pars++f.locs,vnm x.b=true:=w1;have O:=((h.nl.sym (c:=125) (by decide)).nl.sym (c:=59) (by decide))
 have T:=(lM f.val w3 hi.2 (Nw.c (by decide)) O).sp.name (w:=[114,101,116,117,114,110]) (by decide) (Nw.c (by decide));have E:=(sc_l (fun s _=>sc_s s) Z hi.1 (ind:=[32,32]) (by simp) T.sp.sp).nl.sym (c:=123) (by decide);have U:Sc (lcT f.locs++(123::10::(bV f.body [32,32]++(32::32::([114,101,116,117,114,110]++(32::(fmE f.val++(59::10::125::10::s)))))))) (wdLc f.locs++(3,[123])::(wdL f.body++(1,[114,101,116,117,114,110])::(wdE f.val++(3,[59])::(3,[125])::ws))):=by
  unfold lcT wdLc;by_cases q:0<f.locs.length
  ·rw[if_pos q,if_pos q];have:=(Sc.jn1 (Nw.c (by decide)) E.sp (l:=f.locs) false fun x hx=>hn x (by simp[hx])).1.sp.name (w:=[118,97,114]) (by decide) (Nw.c (by decide));simpa[jn] using this
  rw[if_neg q,if_neg q];exact E
 have Y:=((Sc.jn1 (Nw.c (by decide)) (U.sp.sym (c:=41) (by decide)) (l:=f.pars) false fun x hx=>hn x (by simp[hx])).1.sym (c:=40) (by decide)).name (w:=f.name.b) (hU (hn _ (by simp))) (Nw.c (by decide));have:=Y.sp.name (w:=[102,117,110,99]) (by decide) (Nw.c (by decide));unfold fnT wdFn;simpa[jn] using this
end
section
variable {ts:List Token} {i j:Nat} {r:List Wd}
theorem dq{w v:List UInt8}(h:vnm w=true)(E:v∈pt.kA):w≠v:=by rintro rfl;unfold vnm fN at h;rw[decide_eq_true E]at h;simp at h
theorem isN_of{w:List UInt8}(h:Dw ts i ((1,w)::r))(E:vnm w=true):isN ts i=true:=by
 rw[h.n];unfold vnm at E;show(decide ((1:Int)=1)&& !fN w)=true
 rw[decide_eq_true rfl,(Bool.and_eq_true_iff.1 E).2];rfl
theorem small_of{n:Int}(h:Dw ts i ((2,dec n.toNat)::r))(E:0<=n/\n<=1000000):fS ts i= .ok (n,i+1):=by
 have O:numV ts i=some n:=by unfold numV;rw[show(ts.getD i default).text.b=dec n.toNat from h.t,num_d (by omega)];congr 1;omega
 unfold fS;rw[O,h.m];show(if(decide ((2:Int)=2)&&true&&decide (n<=1000000))=true then _ else _)=_;rw[decide_eq_true rfl,decide_eq_true E.2];rfl
theorem stp_j{b:Bool}{l:List (List Wd)}{r:List Wd}(hb:b=true)(h:Stp r):Stp (wdJ b l++r):=by
 subst hb;cases l with
 |nil=>exact h
 |cons x l=>exact .c (by decide)
theorem wde_hd(e:ExpT):wfE e=true->∃k w r,wdE e=(k,w)::r/\(k≠3\/w∈[[40],[45],[126]]):=exI (P:=fun e=>wfE e=true->∃k w r,wdE e=(k,w)::r/\(k≠3\/w∈[[40],[45],[126]])) (fun e ih hw=>by
 obtain⟨hk,hn⟩:=dI hw;have kid: ∀{q:Nat} {m:Bool} (t:List Wd),q<e.kids.length->∃k w r,wdF (e.kids.getD q default) m (wdE (e.kids.getD q default))++t=(k,w)::r/\(k≠3\/w∈[[40],[45],[126]]):=fun t h=>by
  unfold wdF;split
  ·exact⟨3,[40],_,rfl,.inr (by decide)⟩
  obtain⟨k,w,r,e1,e2⟩:=ih _ (cQ h) (gI hk h);exact⟨k,w,r++t,by rw[e1];rfl,e2⟩
 by_cases Z:e.kind=1
 ·rw[wd_1 Z];unfold wdN;split
  ·exact⟨3,[45],_,rfl,.inr (by decide)⟩
  exact⟨2,_,_,rfl,.inl (by decide)⟩
 by_cases h2:e.kind=2
 ·rw[wd_2 h2];exact⟨1,_,_,rfl,.inl (by decide)⟩
 by_cases T:e.kind=3
 ·rw[wd_3 T (wfN_3 T hn).1];exact⟨1,_,_,rfl,.inl (by decide)⟩
 by_cases Y:e.kind=5
 ·have c:=wfN_5 Y hn;rw[wd_5 Y c];exact kid _ (by omega)
 obtain⟨U,q1,q2⟩:=wfN_4 Z h2 T Y hn;by_cases E:e.op=20
 ·rw[wd_n U E (q2 (.inl E))];exact⟨3,[45],_,rfl,.inr (by decide)⟩
 by_cases O:e.op=21
 ·rw[wd_t U O (q2 (.inr O))];exact⟨3,[126],_,rfl,.inr (by decide)⟩
 have c:=(q1 ⟨E,O⟩).1;rw[wd_b U E O c];exact kid _ (by omega)) _ e (a06 _)
theorem hd_ne{w:List UInt8}{r:List Wd}(h:w≠ [40]):hdW ((3,w)::r)≠(3,[40]):=fun q=>h (show w=[40] from congrArg Prod.snd q)
theorem nocall(e:ExpT):wfE e=true->∀(r:List Wd),hdW r≠(3,[40])->∀w y,wdE e++r=(1,w)::y->hdW y≠(3,[40]):=exI (P:=fun e=>wfE e=true->∀(r:List Wd),hdW r≠(3,[40])->∀w y,wdE e++r=(1,w)::y->hdW y≠(3,[40])) (fun e ih hw r hr w y he=>by
 obtain⟨hk,hn⟩:=dI hw;have kid: ∀{q:Nat} {m:Bool} (t:List Wd),q<e.kids.length->hdW t≠(3,[40])->wdF (e.kids.getD q default) m (wdE (e.kids.getD q default))++t=(1,w)::y->hdW y≠(3,[40]):=fun t h ht he=>by
  unfold wdF at he;split at he
  ·injection he with E _;injection E with E _;exact absurd E (by decide)
  exact ih _ (cQ h) (gI hk h) t ht w y he
 by_cases h1:e.kind=1
 ·rw[wd_1 h1]at he;unfold wdN at he;split at he
  ·injection he with E _;injection E with E _;exact absurd E (by decide)
  injection he with E _;injection E with E _;exact absurd E (by decide)
 by_cases h2:e.kind=2
 ·rw[wd_2 h2]at he;injection he with _ U;rw[←U];exact hr
 by_cases Y:e.kind=3
 ·rw[wd_3 Y (wfN_3 Y hn).1]at he;injection he with _ U;rw[←U];exact hd_ne (by decide)
 by_cases h5:e.kind=5
 ·have c:=wfN_5 h5 hn;rw[wd_5 h5 c,a0b]at he;exact kid _ (by omega) (hd_ne (by decide)) he
 obtain⟨Z,q1,q2⟩:=wfN_4 h1 h2 Y h5 hn;by_cases O:e.op=20
 ·rw[wd_n Z O (q2 (.inl O))]at he;injection he with E _;injection E with E _;exact absurd E (by decide)
 by_cases T:e.op=21
 ·rw[wd_t Z T (q2 (.inr T))]at he;injection he with E _;injection E with E _;exact absurd E (by decide)
 obtain⟨c,ho⟩:=q1 ⟨O,T⟩;rw[wd_b Z O T c,a0b]at he;refine kid _ (by omega) (hd_ne fun q=>?_) he;have:=opX_mem ho;rw[q]at this;revert this;decide) _ e (a06 _)
theorem pa_argl: ∀{l:List ExpT} {l0:List ExpT} {i:Nat},dO l=true->inE.inEs l->Dw ts i (wdJ true (iQ l)++(3,[41])::r)->Lim (fun n=>argL ts n l0 i) (.ok (l0++l,i+(wdJ true (iQ l)).length+1))
 | [],l0,i,_,_,d=>by
  rw[iQ,wdJ]at d⊢;have d:Dw ts i ((3,[41])::r):=d;refine Lim.succ (g:=fun n=>bnd (ff ts [41] i) fun _ i=> .ok (l0,i)) ?_ fun n=>by rw[argL,if_neg (by rw[d.nosy (.inr (by decide))];decide)]
  rw[d.exp,a0m];exact .const _
 |x::l,l0,i,hw,hi,d=>by
  rw[dO,a04]at hw;rw[inE.inEs]at hi;rw[iQ,wdJ]at d⊢;have d0:Dw ts i ((3,[44])::(wdE x++(wdJ true (iQ l)++(3,[41])::r))):=by simpa using d
  have E:=d0.tl;have p:=pa_ex x hw.1 hi.1 (stp_j rfl (.c (by decide))) E;have q:=pa_argl (l0:=l0++[x]) hw.2 hi.2 E.app;refine Lim.succ (g:=fun n=>bnd (cF ts n (i+1)) fun b i=>argL ts n (l0++[b]) i) (.seq p ?_) fun n=>by rw[argL,if_pos d0.sy]
  rw[a0b]at q;simp only[if_true,a00,a01,a03];rw[show ∀a b:Nat,i+(0+1+(a+b))+1=i+1+a+b+1 by intros;omega];exact q
theorem pa_args{l:List ExpT}(h:dO l=true)(hi:inE.inEs l)(d:Dw ts i ((3,[40])::(wdJ false (iQ l)++(3,[41])::r))):Lim (fun n=>argM ts n i) (.ok (l,i+1+(wdJ false (iQ l)).length+1)):=by
 have E:=d.tl;unfold argM;rw[d.exp];refine .seq (.const _) ?_;cases l with
 |nil=>
  rw[iQ,wdJ]at E⊢
  have E:Dw ts (i+1) ((3,[41])::r):=E
  show Lim (fun n=>if isS ts (i+1) [41]=true then _ else _) _
  rw[E.sy];exact .const _
 |cons x l=>
  rw[dO,a04]at h
  rw[inE.inEs]at hi
  rw[iQ,wdJ]at E⊢
  have O:Dw ts (i+1) (wdE x++(wdJ true (iQ l)++(3,[41])::r)):=by simpa using E
  have p:=pa_ex x h.1 hi.1 (stp_j rfl (.c (by decide))) O
  have q:=pa_argl (l0:=[x]) h.2 hi.2 O.app
  obtain⟨w,v,Y,T,U⟩:=wde_hd x h.1
  have k:isS ts (i+1) [41]=false:=by rw[T]at O;refine Dw.nosy (k:=w) (w:=v) O (U.imp id fun q e=>?_);rw[e]at q;revert q;decide
  show Lim (fun n=>if isS ts (i+1) [41]=true then _ else _) _
  rw[k]
  refine .seq p ?_
  simp only[a0i,if_false,a0z,a00]
  rw[show ∀a b:Nat,i+1+(a+b)+1=i+1+a+b+1 by intros;omega]
  exact q
theorem lK{w:List UInt8}(h:vnm w=true)(d:Dw ts i ((1,w)::r))(n:Nat):simM ts n i=(if isS ts (i+1) [91] then bnd (cF ts n (i+1+1)) fun a i=>bnd (ff ts [93] i) fun _ i=>bnd (ff ts [61] i) fun _ i=>bnd (cF ts n i) fun v i=> .ok (mkS 2 ⟨w⟩ bD 0 a v [] [] [],i)
  else bnd (ff ts [61] (i+1)) fun _ i=>if isN ts i&&isS ts (i+1) [40] then bnd (eW ts i) fun f i=>bnd (argM ts n i) fun l i=> .ok (mkS 6 ⟨w⟩ f 0 zE zE l [] [],i)
   else bnd (cF ts n i) fun v i=> .ok (mkS 1 ⟨w⟩ bD 0 zE v [] [] [],i)):=by
 unfold simM
 rw[d.nokey (.inr (dq h (by decide))),d.nokey (.inr (dq h (by decide))),d.name h];rfl
theorem pa_sim{s:StmT}(hk:s.kind=1\/s.kind=2\/s.kind=5\/s.kind=6\/s.kind=7)(hw:wfS s=true)(hi:kJ s){w:List Wd}(e:wdS s=w++[(3,[59])])(d:Dw ts i (w++(3,[59])::r)):Lim (fun n=>simM ts n i) (.ok (s,i+w.length)):=by
 rw[wf_s,a04,a04,wfA,a04]at hw;obtain⟨⟨⟨a2,wk⟩,_⟩,_⟩:=hw;obtain⟨ia,iv,a1,_,_⟩:=in_s hi;rw[wd_s]at e;rcases hk with k|k|k|k|k
 ·obtain⟨w1,O,w3⟩:=wf1 k wk;rw[wk1 k]at e;obtain rfl:(1,s.name.b)::(3,[61])::wdE s.val=w:=a1a (bs:=[(3,[59])]) (by simpa using e);have d0:Dw ts i ((1,s.name.b)::(3,[61])::(wdE s.val++(3,[59])::r)):=d;have T:=d0.tl;have E:=T.tl;have p:=pa_ex s.val O iv (.c (by decide)) E;have hz:(isN ts (i+1+1)&&isS ts (i+1+1+1) [40])=false:=by
   obtain⟨kk,vv,h,Y,e2⟩:=wde_hd s.val O;by_cases k1:kk=1
   ·subst k1;have U:Dw ts (i+1+1) ((1,vv)::(h++(3,[59])::r)):=by rw[Y]at E;exact E
    have:=nocall s.val O ((3,[59])::r) (hd_ne (by decide)) vv (h++(3,[59])::r) (by rw[Y];rfl);rw[U.tl.s];cases q:decide ((hdW (h++(3,[59])::r)).1=3) with
    |false=>rw[Bool.false_and,a18]
    |true=>rw[decide_eq_false (fun z=>this (Prod.ext (of_decide_eq_true q) z))];simp
   have U:Dw ts (i+1+1) ((kk,vv)::(h++(3,[59])::r)):=by rw[Y]at E;exact E
   rw[U.n];show((decide (kk=1)&&_)&&_)=false
   rw[decide_eq_false k1];rfl
  refine lim_eq ?_ (funext fun n=>lK w1 d0 n);rw[T.nosy (.inr (by decide)),T.exp];show Lim (fun n=>if(isN ts (i+1+1)&&isS ts (i+1+1+1) [40])=true then _ else _) _;rw[hz];refine .seq p ?_;rw[show i+((1,s.name.b)::(3,[61])::wdE s.val).length=i+1+1+(wdE s.val).length by simp;omega];show Lim (fun _=> .ok (mkS 1 ⟨s.name.b⟩ bD 0 zE s.val [] [] [],_)) _;rw[w3];exact .const _
 ·obtain⟨w1,O,w3,Z⟩:=wf2 k wk;rw[wk2 k]at e;obtain rfl:(1,s.name.b)::(3,[91])::(wdE s.at_++(3,[93])::(3,[61])::wdE s.val)=w:=a1a (bs:=[(3,[59])]) (by simpa using e);have d0:Dw ts i ((1,s.name.b)::(3,[91])::(wdE s.at_++(3,[93])::(3,[61])::(wdE s.val++(3,[59])::r))):=by simpa using d
  have T:=d0.tl;have E:=T.tl;have p:=pa_ex s.at_ O ia (.c (by decide)) E;have U:=E.app;have q:=pa_ex s.val w3 iv (.c (by decide)) U.tl.tl;refine lim_eq ?_ (funext fun n=>lK w1 d0 n);rw[T.sy];refine .seq p ?_;rw[U.exp];refine .seq (.const _) ?_;rw[U.tl.exp];refine .seq (.const _) (.seq q ?_);show Lim (fun _=> .ok (mkS 2 ⟨s.name.b⟩ bD 0 s.at_ s.val [] [] [],_)) _;rw[Z,show i+((1,s.name.b)::(3,[91])::(wdE s.at_++(3,[93])::(3,[61])::wdE s.val)).length=i+1+1+(wdE s.at_).length+1+1+(wdE s.val).length by simp;omega];exact .const _
 ·obtain⟨w1,O⟩:=wf5 k wk;rw[wk5 k]at e;obtain rfl:(1,[111,117,116])::wdE s.val=w:=a1a (bs:=[(3,[59])]) (by simpa using e);have d0:Dw ts i ((1,[111,117,116])::(wdE s.val++(3,[59])::r)):=d;have p:=pa_ex s.val w1 iv (.c (by decide)) d0.tl;refine lim_eq (g:=fun n=>bnd (cF ts n (i+1)) fun x i=> .ok (mkS 5 bD bD 0 zE x [] [] [],i)) (.seq p ?_) (funext fun n=>by unfold simM;rw[d0.key];rfl);show Lim (fun _=> .ok (mkS 5 bD bD 0 zE s.val [] [] [],_)) _;rw[O,show i+((1,[111,117,116])::wdE s.val).length=i+1+(wdE s.val).length by simp;omega];exact .const _
 ·obtain⟨w1,O,w3⟩:=wf6 k wk;rw[wk6 k]at e;obtain rfl:(1,s.name.b)::(3,[61])::(1,s.to.b)::(3,[40])::(wdJ false (iQ s.args)++[(3,[41])])=w:=a1a (bs:=[(3,[59])]) (by simpa using e);have d0:Dw ts i ((1,s.name.b)::(3,[61])::(1,s.to.b)::(3,[40])::(wdJ false (iQ s.args)++(3,[41])::(3,[59])::r)):=by simpa using d
  have T:=d0.tl;have E:=T.tl;have U:=E.tl;have p:=pa_args a2 a1 U;refine lim_eq ?_ (funext fun n=>lK w1 d0 n);rw[T.nosy (.inr (by decide)),T.exp];show Lim (fun n=>if(isN ts (i+1+1)&&isS ts (i+1+1+1) [40])=true then _ else _) _;rw[isN_of E O,U.sy,E.name O];refine .seq p ?_;show Lim (fun _=> .ok (mkS 6 ⟨s.name.b⟩ ⟨s.to.b⟩ 0 zE zE s.args [] [],_)) _;rw[w3,show i+((1,s.name.b)::(3,[61])::(1,s.to.b)::(3,[40])::(wdJ false (iQ s.args)++[(3,[41])])).length=i+1+1+1+1+(wdJ false (iQ s.args)).length+1 by simp;omega];exact .const _
 obtain⟨w1,O⟩:=wf7 k wk;rw[wk7 k]at e;obtain rfl:[(1,[116,114,97,112]),(2,dec s.n.toNat)]=w:=a1a (bs:=[(3,[59])]) (by simpa using e);have d0:Dw ts i ((1,[116,114,97,112])::(2,dec s.n.toNat)::(3,[59])::r):=d;refine lim_eq (g:=fun _=> .ok (s,i+2)) (.const _) (funext fun n=>?_);unfold simM;rw[d0.nokey (.inr (by decide)),d0.key,small_of d0.tl w1];show Except.ok (mkS 7 bD bD s.n zE zE [] [] [],i+1+1)=_;rw[O]
theorem wfS_p{s:StmT}(h:wfS s=true):wfK s=true/\cE s.thn=true/\cE s.els=true:=by rw[wf_s,a04,a04,wfA,a04]at h;exact⟨h.1.1.2,h.1.2,h.2⟩
def Nel(r:List Wd):Prop:=hdW r≠(1,[101,108,115,101])
theorem Nel.k(h:Nel r)(d:Dw ts i r):isK ts i [101,108,115,101]=false:=by
 rw[d.kw];cases q:decide ((hdW r).1=1) with
 |false=>rfl
 |true=>rw[a1j];exact decide_eq_false fun z=>h (Prod.ext (of_decide_eq_true q) z)
theorem Nel.s{w:List UInt8}:Nel ((3,w)::r):=fun q=>absurd (show(3:Int)=1 from congrArg Prod.fst q) (by decide)
theorem Nel.w{w:List UInt8}(h:w≠ [101,108,115,101]):Nel ((1,w)::r):=fun q=>h (show w=_ from congrArg Prod.snd q)
theorem wds_hd{s:StmT}(h:wfS s=true): ∃w t,wdS s=(1,w)::t/\w≠ [101,108,115,101]/\w≠ [114,101,116,117,114,110]:=by
 obtain⟨wk,_,_⟩:=wfS_p h;have kb:=kd_rng wk;rw[wd_s];by_cases k1:s.kind=1
 ·rw[wk1 k1];exact⟨_,_,rfl,dq (wf1 k1 wk).1 (by decide),dq (wf1 k1 wk).1 (by decide)⟩
 by_cases k2:s.kind=2
 ·rw[wk2 k2];exact⟨_,_,rfl,dq (wf2 k2 wk).1 (by decide),dq (wf2 k2 wk).1 (by decide)⟩
 by_cases O:s.kind=3
 ·rw[wk3 O];exact⟨_,_,rfl,by decide,by decide⟩
 by_cases T:s.kind=4
 ·rw[wk4 T];exact⟨_,_,rfl,by decide,by decide⟩
 by_cases U:s.kind=5
 ·rw[wk5 U];exact⟨_,_,rfl,by decide,by decide⟩
 by_cases E:s.kind=6
 ·rw[wk6 E];exact⟨_,_,rfl,dq (wf6 E wk).1 (by decide),dq (wf6 E wk).1 (by decide)⟩
 rw[wk7 (by omega)];exact⟨_,_,rfl,by decide,by decide⟩
theorem nel_l{l:List StmT}(O:cE l=true)(h:Nel r):Nel (wdL l++r):=by
 cases l with
 |nil=>exact h
 |cons s l=>
  rw[cE,a04]at O
  obtain⟨w,t,e,E,_⟩:=wds_hd O.1
  rw[wdL,e];exact Nel.w E
theorem pa_cond{e:ExpT}(h:wfE e=true)(hi:inE e)(d:Dw ts i ((3,[40])::(wdE e++(3,[41])::r))):Lim (fun n=>condM ts n i) (.ok (e,i+1+(wdE e).length+1)):=by have E:=d.tl;unfold condM;rw[d.exp];refine .seq (.const _) (.seq (pa_ex e h hi (.c (by decide)) E) ?_);rw[E.app.exp];exact .const _
def PaS(ts:List Token)(s:StmT):Prop:=wfS s=true->kJ s->∀{i:Nat} {r:List Wd},Nel r->Dw ts i (wdS s++r)->Lim (fun n=>stmM ts n i) (.ok (s,i+(wdS s).length))
theorem pa_l: ∀{l:List StmT} {l0:List StmT} {i:Nat},(∀s∈l,PaS ts s)->cE l=true->inL l->Dw ts i (wdL l++(3,[125])::r)->Lim (fun n=>stsM ts n l0 i) (.ok (l0++l,i+(wdL l).length+1))
 | [],l0,i,_,_,_,d=>by
  rw[wdL]at d⊢;have d:Dw ts i ((3,[125])::r):=d;refine Lim.succ (g:=fun _=> .ok (l0,i+1)) ?_ fun n=>by rw[stsM,if_pos d.sy]
  rw[a0m];exact .const _
 |s::l,l0,i,h,hw,hi,d=>by
  rw[cE,a04]at hw;rw[inL]at hi;rw[wdL]at d⊢;have d0:Dw ts i (wdS s++(wdL l++(3,[125])::r)):=by simpa using d
  have p:=h s (a0s ..) hw.1 hi.1 (nel_l hw.2 .s) d0;have q:=pa_l (l0:=l0++[s]) (fun x E=>h x (a0f _ E)) hw.2 hi.2 d0.app;obtain⟨w,t,e,_,_⟩:=wds_hd hw.1;have k:isS ts i [125]=false:=by rw[e]at d0;exact Dw.nosy (k:=1) (w:=w) d0 (.inl (by decide))
  refine Lim.succ (g:=fun n=>bnd (stmM ts n i) fun s i=>stsM ts n (l0++[s]) i) (.seq p ?_) fun n=>by rw[stsM,if_neg (by rw[k];decide)]
  rw[a00,←a0E];rw[a0b]at q;exact q
theorem pa_b{l:List StmT}(h: ∀s∈l,PaS ts s)(E:cE l=true)(hi:inL l)(d:Dw ts i ((3,[123])::(wdL l++(3,[125])::r))):Lim (fun n=>blkM ts n i) (.ok (l,i+1+(wdL l).length+1)):=by have q:=pa_l (l0:=[]) h E hi d.tl;exact Lim.succ (g:=fun n=>stsM ts n [] (i+1)) q fun n=>by rw[blkM,d.exp];rfl
theorem pa_s(s:StmT):PaS ts s:=stI (P:=PaS ts) (fun s h1 h2 h hi i r hr d=>by
 obtain⟨wk,wt,we⟩:=wfS_p h;obtain⟨ia,iv,b0,it,ie⟩:=in_s hi;have kb:=kd_rng wk;by_cases k3:s.kind=3
 ·obtain⟨w1,Z⟩:=wf3 k3 wk;rw[wd_s,wk3 k3]at d⊢;have d0:Dw ts i ((1,[105,102])::(3,[40])::(wdE s.val++(3,[41])::(3,[123])::(wdL s.thn++(3,[125])::((if 0<s.els.length then(1,[101,108,115,101])::(3,[123])::(wdL s.els++[(3,[125])]) else [])++r)))):=by simpa using d
  have O:=d0.tl;have p:=pa_cond w1 iv O;have d2:=(O.tl.app).tl;have q:=pa_b h1 wt it d2;have T:=(d2.tl.app).tl;generalize hj:i+1+1+(wdE s.val).length+1+1+(wdL s.thn).length+1=j at T q;refine Lim.succ (g:=fun n=>bnd (condM ts n (i+1)) fun v i=>bnd (blkM ts n i) fun t i=>if isK ts i [101,108,115,101] then bnd (blkM ts n (i+1)) fun e i=> .ok (mkS 3 bD bD 0 zE v [] t e,i) else .ok (mkS 3 bD bD 0 zE v [] t [],i)) (.seq p (.seq q ?_)) fun n=>by rw[stmM,if_pos d0.key]
  by_cases c:0<s.els.length
  ·rw[if_pos c]at T⊢;have Y:Dw ts j ((1,[101,108,115,101])::(3,[123])::(wdL s.els++(3,[125])::r)):=by simpa using T
   rw[Y.key];refine .seq (pa_b h2 we ie Y.tl) ?_;show Lim (fun _=> .ok (mkS 3 bD bD 0 zE s.val [] s.thn s.els,_)) _;rw[Z];simp only[a00,a01,a03];rw[show ∀a b c:Nat,i+(a+(b+(c+(0+1)+1+1+1)+1+1)+1+1)=i+1+1+a+1+1+b+1+1+1+c+1 by intros;omega,hj];exact .const _
  rw[if_neg c]at T⊢;have Y:Dw ts j r:=T;rw[hr.k Y];show Lim (fun _=> .ok (mkS 3 bD bD 0 zE s.val [] s.thn [],_)) _;rw[show mkS 3 bD bD 0 zE s.val [] s.thn []=s by rw[←a0g (show s.els.length=0 by omega)];exact Z];simp only[a00,a01,a03];rw[show ∀a b:Nat,i+(a+(b+(0+1)+1+1)+1+1)=i+1+1+a+1+1+b+1 by intros;omega,hj];exact .const _
 by_cases k4:s.kind=4
 ·obtain⟨w1,Z⟩:=wf4 k4 wk;rw[wd_s,wk4 k4]at d⊢;have d0:Dw ts i ((1,[119,104,105,108,101])::(3,[40])::(wdE s.val++(3,[41])::(3,[123])::(wdL s.thn++(3,[125])::r))):=by simpa using d
  have O:=d0.tl;have p:=pa_cond w1 iv O;have q:=pa_b h1 wt it (O.tl.app).tl;refine Lim.succ (g:=fun n=>bnd (condM ts n (i+1)) fun v i=>bnd (blkM ts n i) fun t i=> .ok (mkS 4 bD bD 0 zE v [] t [],i)) (.seq p (.seq q ?_)) fun n=>by rw[stmM,if_neg (by rw[d0.nokey (.inr (by decide))];decide),if_pos d0.key]
  show Lim (fun _=> .ok (mkS 4 bD bD 0 zE s.val [] s.thn [],_)) _;rw[Z];simp only[a00,a01,a03];rw[show ∀a b:Nat,i+(a+(b+(0+1)+1+1)+1+1)=i+1+1+a+1+1+b+1 by intros;omega];exact .const _
 obtain⟨w,e⟩: ∃w,wdS s=w++[(3,[59])]:=by
  rw[wd_s];by_cases k1:s.kind=1
  ·rw[wk1 k1];exact⟨(1,s.name.b)::(3,[61])::wdE s.val,by simp⟩
  by_cases k2:s.kind=2
  ·rw[wk2 k2];exact⟨(1,s.name.b)::(3,[91])::(wdE s.at_++(3,[93])::(3,[61])::wdE s.val),by simp⟩
  by_cases k5:s.kind=5
  ·rw[wk5 k5];exact⟨(1,[111,117,116])::wdE s.val,by simp⟩
  by_cases U:s.kind=6
  ·rw[wk6 U];exact⟨(1,s.name.b)::(3,[61])::(1,s.to.b)::(3,[40])::(wdJ false (iQ s.args)++[(3,[41])]),by simp⟩
  rw[wk7 (by omega)];exact⟨[(1,[116,114,97,112]),(2,dec s.n.toNat)],rfl⟩
 have d0:Dw ts i (w++(3,[59])::r):=by rw[e]at d;simpa using d
 have p:=pa_sim (by omega) h hi e d0;obtain⟨v,t,E,_,_⟩:=wds_hd h;have hv:v≠ [105,102]/\v≠ [119,104,105,108,101]:=by
  rw[wd_s]at E;by_cases k1:s.kind=1
  ·rw[wk1 k1]at E;injection E with E _;injection E with _ E;rw[←E];exact⟨dq (wf1 k1 wk).1 (by decide),dq (wf1 k1 wk).1 (by decide)⟩
  by_cases k2:s.kind=2
  ·rw[wk2 k2]at E;injection E with E _;injection E with _ E;rw[←E];exact⟨dq (wf2 k2 wk).1 (by decide),dq (wf2 k2 wk).1 (by decide)⟩
  by_cases k5:s.kind=5
  ·rw[wk5 k5]at E;injection E with E _;injection E with _ E;rw[←E];decide
  by_cases U:s.kind=6
  ·rw[wk6 U]at E;injection E with E _;injection E with _ E;rw[←E];exact⟨dq (wf6 U wk).1 (by decide),dq (wf6 U wk).1 (by decide)⟩
  rw[wk7 (by omega)]at E;injection E with E _;injection E with _ E;rw[←E];decide
 rw[E]at d;have O:Dw ts i ((1,v)::(t++r)):=d;refine Lim.succ (g:=fun n=>bnd (simM ts n i) fun s i=>bnd (ff ts [59] i) fun _ i=> .ok (s,i)) (.seq p ?_) fun n=>by rw[stmM,if_neg (by rw[O.nokey (.inr hv.1)];decide),if_neg (by rw[O.nokey (.inr hv.2)];decide)]
 rw[d0.app.exp,e,a00,show i+(w.length+[((3:Int),([59]:List UInt8))].length)=i+w.length+1 from rfl];exact .const _) _ s (a06 _)
theorem pa_namL: ∀{l l0:List Str} {i:Nat},(∀x∈l,vnm x.b=true)->hdW r≠(3,[44])->Dw ts i (wdJ true (l.map nmW)++r)->Lim (fun n=>namL ts n l0 i) (.ok (l0++l,i+(wdJ true (l.map nmW)).length))
 | [],l0,i,_,hr,d=>by
  have d:Dw ts i r:=d;have k:isS ts i [44]=false:=by
   rw[d.s];cases q:decide ((hdW r).1=3) with
   |false=>rfl
   |true=>rw[a1j];exact decide_eq_false fun z=>hr (Prod.ext (of_decide_eq_true q) z)
  refine Lim.succ (g:=fun _=> .ok (l0,i)) ?_ fun n=>by rw[namL,if_neg (by rw[k];decide)]
  rw[a0m];exact .const _
 |x::l,l0,i,hl,hr,d=>by
  have d0:Dw ts i ((3,[44])::(1,x.b)::(wdJ true (l.map nmW)++r)):=d;have q:=pa_namL (l0:=l0++[x]) (fun y h=>hl y (a0f _ h)) hr d0.tl.tl;refine Lim.succ (g:=fun n=>bnd (eW ts (i+1)) fun b i=>namL ts n (l0++[b]) i) ?_ fun n=>by rw[namL,if_pos d0.sy]
  rw[d0.tl.name (hl x (a0s ..))];rw[a0b]at q;rw[show i+(wdJ true ((x::l).map nmW)).length=i+1+1+(wdJ true (l.map nmW)).length by rw[a1q,wdJ];simp[nmW];omega];exact q
theorem pa_nam{x:Str}{l:List Str}(h: ∀y∈x::l,vnm y.b=true)(E:hdW r≠(3,[44]))(d:Dw ts i (wdJ false ((x::l).map nmW)++r)):Lim (fun n=>namM ts n i) (.ok (x::l,i+(wdJ false ((x::l).map nmW)).length)):=by
 have d0:Dw ts i ((1,x.b)::(wdJ true (l.map nmW)++r)):=d;have q:=pa_namL (l0:=[x]) (fun y O=>h y (a0f _ O)) E d0.tl;unfold namM;rw[d0.name (h x (a0s ..)),show i+(wdJ false ((x::l).map nmW)).length=i+1+(wdJ true (l.map nmW)).length by
  rw[a1q,wdJ];simp[nmW];omega]
 exact q
theorem pa_bod: ∀{l l0:List StmT} {i:Nat},cE l=true->inL l->Dw ts i (wdL l++(1,[114,101,116,117,114,110])::r)->Lim (fun n=>kB ts n l0 i) (.ok (l0++l,i+(wdL l).length+1))
 | [],l0,i,_,_,d=>by
  rw[wdL]at d⊢;have d:Dw ts i ((1,[114,101,116,117,114,110])::r):=d;refine Lim.succ (g:=fun _=> .ok (l0,i+1)) ?_ fun n=>by rw[kB,if_pos d.key]
  rw[a0m];exact .const _
 |s::l,l0,i,hw,hi,d=>by
  rw[cE,a04]at hw;rw[inL]at hi;rw[wdL]at d⊢;have d0:Dw ts i (wdS s++(wdL l++(1,[114,101,116,117,114,110])::r)):=by simpa using d
  have p:=pa_s s hw.1 hi.1 (nel_l hw.2 (.w (by decide))) d0;have q:=pa_bod (l0:=l0++[s]) hw.2 hi.2 d0.app;obtain⟨w,t,e,_,E⟩:=wds_hd hw.1;have k:isK ts i [114,101,116,117,114,110]=false:=by rw[e]at d0;exact Dw.nokey (k:=1) (w:=w) d0 (.inr E)
  refine Lim.succ (g:=fun n=>bnd (stmM ts n i) fun s i=>kB ts n (l0++[s]) i) (.seq p ?_) fun n=>by rw[kB,if_neg (by rw[k];decide)]
  rw[a00,←a0E];rw[a0b]at q;exact q
theorem hd_nc{k:Int}{w:List UInt8}{r:List Wd}(h:w≠ [44]):hdW ((k,w)::r)≠(3,[44]):=fun q=>h (show w=[44] from congrArg Prod.snd q)
theorem pa_f{f:FunT}(hw:wfF f=true)(hi:inF f)(d:Dw ts i (wdFn f++r)):isK ts i [97,114,114,97,121]=false/\isK ts i [102,117,110,99]=true/\Lim (fun n=>funM ts n (i+1)) (.ok (f,i+(wdFn f).length)):=by
 rw[wf_f,a04,a04,a0l]at hw;obtain⟨⟨w1,w2⟩,w3⟩:=hw;have hn: ∀x∈[f.name]++f.pars++f.locs,vnm x.b=true:=w1;have d0:Dw ts i ((1,[102,117,110,99])::(1,f.name.b)::(3,[40])::(wdJ false (f.pars.map nmW)++(3,[41])::(wdLc f.locs++(3,[123])::(wdL f.body++(1,[114,101,116,117,114,110])::(wdE f.val++(3,[59])::(3,[125])::r))))):=by unfold wdFn at d;simpa using d
 refine⟨d0.nokey (.inr (by decide)),d0.key,?_⟩;have U:=d0.tl;have Y:=U.tl;have O:=Y.tl;have d4:=O.app;have E:=d4.tl;have d6:=E.app;have d7:=d6.tl;have b:=pa_bod (l0:=[]) w2 hi.1 d7;have d8:=d7.app.tl;have v:=pa_ex f.val w3 hi.2 (.c (by decide)) d8;have d9:=d8.app;have hp:Lim (fun n=>if isS ts (i+1+1+1) [41] then .ok (([]:List Str),i+1+1+1) else namM ts n (i+1+1+1)) (.ok (f.pars,i+1+1+1+(wdJ false (f.pars.map nmW)).length)):=by
  cases h:f.pars with
  |nil=>
   rw[h]at O
   have O:Dw ts (i+1+1+1) ((3,[41])::_):=O
   rw[O.sy];exact .const _
  |cons x l=>
   rw[h]at O
   have hl: ∀y∈x::l,vnm y.b=true:=fun y hy=>hn y (by rw[h];simp only[a0c];exact .inl (.inr hy))
   have Z:Dw ts (i+1+1+1) ((1,x.b)::_):=O
   rw[Z.nosy (.inl (by decide))]
   exact pa_nam hl (hd_nc (by decide)) O
 have hl:Lim (fun n=>if isK ts (i+1+1+1+(wdJ false (f.pars.map nmW)).length+1) [118,97,114] then namM ts n (i+1+1+1+(wdJ false (f.pars.map nmW)).length+1+1) else .ok (([]:List Str),i+1+1+1+(wdJ false (f.pars.map nmW)).length+1)) (.ok (f.locs,i+1+1+1+(wdJ false (f.pars.map nmW)).length+1+(wdLc f.locs).length)):=by
  cases h:f.locs with
  |nil=>
   rw[h]at E
   have E:Dw ts _ ((3,[123])::_):=E
   rw[E.nokey (.inl (by decide))];exact .const _
  |cons x l=>
   rw[h]at E
   have hl: ∀y∈x::l,vnm y.b=true:=fun y hy=>hn y (by rw[h];simp only[a0c];exact .inr hy)
   have T:Dw ts (i+1+1+1+(wdJ false (f.pars.map nmW)).length+1) ((1,[118,97,114])::(wdJ false ((x::l).map nmW)++(3,[123])::(wdL f.body++(1,[114,101,116,117,114,110])::(wdE f.val++(3,[59])::(3,[125])::r)))):=by unfold wdLc at E;rw[if_pos (by simp)]at E;exact E
   rw[T.key]
   have:=pa_nam hl (hd_nc (by decide)) T.tl
   rw[show(wdLc (x::l)).length=1+(wdJ false ((x::l).map nmW)).length by unfold wdLc;rw[if_pos (by simp),a01,Nat.add_comm],←a0E]
   exact this
 unfold funM;rw[U.name (hn _ (by simp))];refine .seq (.const _) ?_;rw[Y.exp];refine .seq (.const _) (.seq hp ?_);rw[d4.exp];refine .seq (.const _) (.seq hl ?_);rw[d6.exp];refine .seq (.const _) (.seq b (.seq v ?_));rw[d9.exp];refine .seq (.const _) ?_;rw[d9.tl.exp];have e:i+(wdFn f).length=i+1+1+1+(wdJ false (f.pars.map nmW)).length+1+(wdLc f.locs).length+1+(wdL f.body).length+1+(wdE f.val).length+1+1:=by unfold wdFn;simp only[a00,a01,a03];omega
 rw[e];exact .const _
theorem pa_a{a:ArrT}(h:vnm a.name.b=true)(E:1<=a.len/\a.len<=16)(d:Dw ts i (wdAr a++r)):isK ts i [97,114,114,97,121]=true/\eW ts (i+1)= .ok (a.name,i+1+1)/\fS ts (i+1+1)= .ok (a.len,i+1+1+1)/\ff ts [59] (i+1+1+1)= .ok ((),i+1+1+1+1):=by have d0:Dw ts i ((1,[97,114,114,97,121])::(1,a.name.b)::(2,dec a.len.toNat)::(3,[59])::r):=d;exact⟨d0.key,d0.tl.name h,small_of d0.tl.tl (by omega),d0.tl.tl.tl.exp⟩
theorem dw_lt{x:Wd}(d:Dw ts i (x::r)):i<ts.length:=by
 rcases a0k i ts.length with h|h
 ·exact h
 unfold Dw at d;rw[a12 h]at d;cases d
theorem pr_a{a:ArrT}{a0:List ArrT}{f0:List FunT}{R:Rs (List ArrT×List FunT)}(Z:vnm a.name.b=true)(Y:1<=a.len/\a.len<=16)(d:Dw ts i (wdAr a++r))(h:Lim (fun n=>hZ ts n (a0++[a]) f0 (i+(wdAr a).length)) R):Lim (fun n=>hZ ts n a0 f0 i) R:=by
 obtain⟨E,O,T,U⟩:=pa_a Z Y d;have hi:i<ts.length:=dw_lt (x:=(1,[97,114,114,97,121])) d;refine Lim.succ (g:=fun n=>bnd (eW ts (i+1)) fun s i=>bnd (fS ts i) fun k i=>bnd (ff ts [59] i) fun _ i=>hZ ts n (a0++[⟨s,k⟩]) f0 i) ?_ fun n=>by rw[hZ,if_neg (by omega),if_pos E]
 rw[O];refine .seq (.const _) ?_;rw[T];refine .seq (.const _) ?_;rw[U];exact .seq (.const _) h
theorem pr_f{f:FunT}{a0:List ArrT}{f0:List FunT}{R:Rs (List ArrT×List FunT)}(Y:wfF f=true)(U:inF f)(d:Dw ts i (wdFn f++r))(h:Lim (fun n=>hZ ts n a0 (f0++[f]) (i+(wdFn f).length)) R):Lim (fun n=>hZ ts n a0 f0 i) R:=by
 obtain⟨E,O,T⟩:=pa_f Y U d;have hi:i<ts.length:=dw_lt (x:=(1,[102,117,110,99])) d;refine Lim.succ (g:=fun n=>bnd (keyM ts [102,117,110,99] i) fun _ i=>bnd (funM ts n i) fun g i=>hZ ts n a0 (f0++[g]) i) ?_ fun n=>by rw[hZ,if_neg (by omega),if_neg (by rw[E];decide)]
 rw[show keyM ts [102,117,110,99] i= .ok ((),i+1) by unfold keyM;rw[if_pos O]];exact .seq (.const _) (.seq T h)
theorem pr_e{a0:List ArrT}{f0:List FunT}(d:Dw ts i [])(hi:i<=ts.length):Lim (fun n=>hZ ts n a0 f0 i) (.ok ((a0,f0),i)):=by
 have:ts.length<=i:=by unfold Dw at d;have:=congrArg List.length d;rw[a1y,a0P,a03]at this;omega
 exact Lim.succ (g:=fun _=> .ok ((a0,f0),i)) (.const _) fun n=>by rw[hZ,if_pos this]
end
def GdP(p:PrgT):Prop:=(∀a∈p.arrs,vnm a.name.b=true/\1<=a.len/\a.len<=16)/\∀f∈p.funs,wfF f=true/\inF f
def wdPr(p:PrgT):List Wd:=p.arrs.flatMap wdAr++p.funs.flatMap wdFn
theorem sc_p{p:PrgT}(h:GdP p){s:List UInt8}{ws:List Wd}(k:Sc s ws):Sc (txP p++s) (wdPr p++ws):=by
 have U: ∀l:List FunT,(∀f∈l,wfF f=true/\inF f)->Sc (l.flatMap fnT++s) (l.flatMap wdFn++ws):=by
  intro l;induction l with
  |nil=>intro _;exact k
  |cons f l ih=>
   intro h
   have:=sc_f (h f (a0s ..)).1 (h f (a0s ..)).2 (ih fun g T=>h g (a0f _ T))
   simpa using this
 have ha: ∀l:List ArrT,(∀a∈l,vnm a.name.b=true/\1<=a.len/\a.len<=16)->Sc (l.flatMap arT++(p.funs.flatMap fnT++s)) (l.flatMap wdAr++(p.funs.flatMap wdFn++ws)):=by
  intro l;induction l with
  |nil=>intro _;exact U _ h.2
  |cons a l ih=>
   intro h
   obtain⟨E,O⟩:=h a (a0s ..)
   have:=sc_a E O (ih fun g T=>h g (a0f _ T))
   simpa using this
 have:=ha _ h.1;unfold txP wdPr;simpa using this
theorem pr_p{ts:List Token}{p:PrgT}(h:GdP p){r:List Wd}{R:Rs (List ArrT×List FunT)}{i:Nat}{a0:List ArrT}{f0:List FunT}(d:Dw ts i (wdPr p++r))(k:Lim (fun n=>hZ ts n (a0++p.arrs) (f0++p.funs) (i+(wdPr p).length)) R):Lim (fun n=>hZ ts n a0 f0 i) R:=by
 have U: ∀(l:List FunT) (i:Nat) (a0:List ArrT) (f0:List FunT),(∀f∈l,wfF f=true/\inF f)->Dw ts i (l.flatMap wdFn++r)->Lim (fun n=>hZ ts n a0 (f0++l) (i+(l.flatMap wdFn).length)) R->Lim (fun n=>hZ ts n a0 f0 i) R:=by
  intro l;induction l with
  |nil=>intro i a0 f0 _ d k;simpa using k
  |cons f l ih=>
   intro i a0 f0 h d k
   rw[a1w,a0b]at d
   refine pr_f (h f (a0s ..)).1 (h f (a0s ..)).2 d (ih _ a0 (f0++[f]) (fun g T=>h g (a0f _ T)) d.app ?_)
   rw[a1w,a00,←a0E]at k
   rw[a0b];exact k
 have ha: ∀(l:List ArrT) (q:List Wd) (i:Nat) (a0:List ArrT) (f0:List FunT),(∀a∈l,vnm a.name.b=true/\1<=a.len/\a.len<=16)->Dw ts i (l.flatMap wdAr++q)->Lim (fun n=>hZ ts n (a0++l) f0 (i+(l.flatMap wdAr).length)) R->Lim (fun n=>hZ ts n a0 f0 i) R:=by
  intro l q;induction l with
  |nil=>intro i a0 f0 _ d k;simpa using k
  |cons a l ih=>
   intro i a0 f0 h d k
   rw[a1w,a0b]at d
   obtain⟨E,O⟩:=h a (a0s ..)
   refine pr_a E O d (ih _ (a0++[a]) f0 (fun g T=>h g (a0f _ T)) d.app ?_)
   rw[a1w,a00,←a0E]at k
   rw[a0b];exact k
 unfold wdPr at d k;rw[a0b]at d;refine ha p.arrs _ i a0 f0 h.1 d (U p.funs _ _ f0 h.2 d.app ?_);rw[a00,←a0E]at k;exact k
theorem sc_scan{s:List UInt8}{ws:List Wd}(T:s.length<=20000)(h:Sc s ws): ∃ts,bc s=(ts,0,0)/\ts.map wk=ws:=by obtain⟨l,E,O⟩:=h s 0 (s.length+1) rfl (a0y _);refine⟨l,?_,O⟩;unfold bc;rw[if_neg (by omega)];rw[a0A]at E;exact E
theorem par_lim{s:List UInt8}{ts:List Token}{p:PrgT}{e:ErrT}{x:List ArrT×List FunT}{j:Nat}(hs:bc s=(ts,0,0))(h:Lim (fun n=>hZ ts n [] [] 0) (.ok (x,j)))(q:ParR s p e):p=⟨x.1,x.2⟩/\e=⟨0,0⟩:=by
 unfold ParR at q;rw[hs,if_pos rfl]at q;obtain⟨y,i,b,U,_,O,T⟩:=q;rcases U with⟨hb,l,_,k⟩|⟨_,l,_,k⟩
 ·have:=k.uniq h;injection this with E;injection E with E Y;rw[hb]at O T;rw[←E];exact⟨O,T⟩
 have:=k.uniq h;cases this
theorem round{p q:PrgT}{e:ErrT}(h:GdP p)(U:(txP p).length<=20000)(r:ParR (txP p) q e):q=p/\e=⟨0,0⟩:=by
 have hs:=sc_p h Sc.nil;rw[a0m,a0m]at hs;obtain⟨ts,T,E⟩:=sc_scan U hs;have d:Dw ts 0 (wdPr p++[]):=by unfold Dw;rw[a0m];exact E
 have O:Dw ts (0+(wdPr p).length) []:=d.app;have Y:(wdPr p).length=ts.length:=by rw[←E,a1y]
 have k:=pr_p h (a0:=[]) (f0:=[]) d (pr_e O (by omega));have:=par_lim T k r;exact⟨this.1,this.2⟩
end Go.Proofs.Ytapgbjedgcpffaa.ru
