/-
Plain laws: what the functions compute answers as the statement says. No condition beyond those that each statement names.
-/
import Derived.Test.YtkpgbdkkgcdhmaaGreatZPRT
noncomputable section
namespace Go.Proofs.YtkpgbdkkgcdhmaaGreat.ru
open Go.R w1 w3 l1 pt pa pb pc pd pe pf pg ca cc cd ta tb gp rt
set_option linter.unusedVariables false
set_option linter.unusedSimpArgs false
open cb
def wdJ:Bool->List (List Wd)->List Wd
 |_,[]=> []
 |b,x::l=>(if b=true then [(3,[44])] else [])++(x++wdJ true l)
def wdS0(s:StmT)(t e:List Wd):List Wd:=
 if s.kind=1 then(1,s.name.b)::(3,[61])::(wdE s.val++[(3,[59])])
 else if s.kind=2 then(1,s.name.b)::(3,[91])::(wdE s.at_++(3,[93])::(3,[61])::(wdE s.val++[(3,[59])]))
 else if s.kind=5 then(1,[111,117,116])::(wdE s.val++[(3,[59])])
 else if s.kind=7 then [(1,[116,114,97,112]),(2,dec s.n.toNat),(3,[59])]
 else if s.kind=4 then(1,[119,104,105,108,101])::(3,[40])::(wdE s.val++(3,[41])::(3,[123])::(t++[(3,[125])]))
 else if s.kind=3 then(1,[105,102])::(3,[40])::(wdE s.val++(3,[41])::(3,[123])::(t++(3,[125])::(if 0<s.els.length then(1,[101,108,115,101])::(3,[123])::(e++[(3,[125])]) else [])))
 else(1,s.name.b)::(3,[61])::(1,s.to.b)::(3,[40])::(wdJ false (iS s.args)++[(3,[41]),(3,[59])])
mutual
def wdS:StmT->List Wd
 |⟨k,nm,to,n,a,v,ar,t,e⟩=>wdS0 ⟨k,nm,to,n,a,v,ar,t,e⟩ (wdL t) (wdL e)
def wdL:List StmT->List Wd
 | []=> []
 |s::l=>wdS s++wdL l
end
theorem wd_s(s:StmT):wdS s=wdS0 s (wdL s.thn) (wdL s.els):=by cases s;rw[wdS]
mutual
def inS:StmT->Prop
 |⟨_,_,_,_,a,v,ar,t,e⟩=>inE a/\inE v/\inE.inEs ar/\inL t/\inL e
def inL:List StmT->Prop
 | []=>True
 |s::l=>inS s/\inL l
end
theorem in_s{s:StmT}(h:inS s):inE s.at_/\inE s.val/\inE.inEs s.args/\inL s.thn/\inL s.els:=by cases s;rwa [inS]at h
def nmW(s:Str):List Wd:=[(1,s.b)]
def wdAr(a:ArrT):List Wd:=[(1,[97,114,114,97,121]),(1,a.name.b),(2,dec a.len.toNat),(3,[59])]
def wdLc(l:List Str):List Wd:=if 0<l.length then(1,[118,97,114])::wdJ false (l.map nmW) else []
def wdFn(f:FunT):List Wd:=(1,[102,117,110,99])::(1,f.name.b)::(3,[40])::(wdJ false (f.pars.map nmW)++(3,[41])::(wdLc f.locs++(3,[123])::(wdL f.body++(1,[114,101,116,117,114,110])::(wdE f.val++[(3,[59]),(3,[125])]))))
section
variable {s:StmT} {t e:List Wd}
theorem wk1(h:s.kind=1):wdS0 s t e=(1,s.name.b)::(3,[61])::(wdE s.val++[(3,[59])]):=by rw[wdS0,if_pos h]
theorem wk2(h:s.kind=2):wdS0 s t e=(1,s.name.b)::(3,[91])::(wdE s.at_++(3,[93])::(3,[61])::(wdE s.val++[(3,[59])])):=by rw[wdS0,if_neg (by omega),if_pos h]
theorem wk5(h:s.kind=5):wdS0 s t e=(1,[111,117,116])::(wdE s.val++[(3,[59])]):=by rw[wdS0,if_neg (by omega),if_neg (by omega),if_pos h]
theorem wk7(h:s.kind=7):wdS0 s t e=[(1,[116,114,97,112]),(2,dec s.n.toNat),(3,[59])]:=by rw[wdS0,if_neg (by omega),if_neg (by omega),if_neg (by omega),if_pos h]
theorem wk4(h:s.kind=4):wdS0 s t e=(1,[119,104,105,108,101])::(3,[40])::(wdE s.val++(3,[41])::(3,[123])::(t++[(3,[125])])):=by rw[wdS0,if_neg (by omega),if_neg (by omega),if_neg (by omega),if_neg (by omega),if_pos h]
theorem wk3(h:s.kind=3):wdS0 s t e=(1,[105,102])::(3,[40])::(wdE s.val++(3,[41])::(3,[123])::(t++(3,[125])::(if 0<s.els.length then(1,[101,108,115,101])::(3,[123])::(e++[(3,[125])]) else []))):=by rw[wdS0,if_neg (by omega),if_neg (by omega),if_neg (by omega),if_neg (by omega),if_neg (by omega),if_pos h]
theorem wk6(h:s.kind=6):wdS0 s t e=(1,s.name.b)::(3,[61])::(1,s.to.b)::(3,[40])::(wdJ false (iS s.args)++[(3,[41]),(3,[59])]):=by rw[wdS0,if_neg (by omega),if_neg (by omega),if_neg (by omega),if_neg (by omega),if_neg (by omega),if_neg (by omega)]
end
theorem kd_rng{s:StmT}(h:wfK s=true):1<=s.kind/\s.kind<=7:=by
 unfold wfK at h;repeat' split at h
 all_goals first|omega|cases h
theorem z_of{e:ExpT}(h:isZ e=true):e=zE:=by unfold isZ at h;simp only[a02,beq_iff_eq]at h;obtain⟨⟨⟨⟨A,E⟩,O⟩,T⟩,U⟩:=h;exact(e_mk A E O T (nil_of U)).symm
theorem ey{l:List StmT}(h:((l.length:Int)==0)=true):l=[]:=a0f (by have:=beq_iff_eq.1 h;omega)
theorem lW{l:List ExpT}(h:((l.length:Int)==0)=true):l=[]:=nil_of (beq_iff_eq.1 h)
theorem s_mk{s:StmT}{k n:Int}{nm to:List UInt8}{a v:ExpT}{ar:List ExpT}{t e:List StmT}(A:s.kind=k)(E:s.name.b=nm)(O:s.to.b=to)(T:s.n=n)(U:s.at_=a)(V:s.val=v)(Y:s.args=ar)(Z:s.thn=t)(h9:s.els=e):mkS k ⟨nm⟩ ⟨to⟩ n a v ar t e=s:=by cases s;cases A;cases E;cases O;cases T;cases U;cases V;cases Y;cases Z;cases h9;rfl
theorem wf1{s:StmT}(h:s.kind=1)(w:wfK s=true):vnm s.name.b=true/\wfE s.val=true/\mkS 1 ⟨s.name.b⟩ bV 0 zE s.val [] [] []=s:=by rw[wfK,if_pos h]at w;unfold flS at w;simp only[a02]at w;obtain⟨⟨⟨⟨⟨⟨⟨w1,A⟩,w3⟩,E⟩,O⟩,T⟩,U⟩,V⟩:=w;exact⟨w3,V,s_mk h rfl (beq_iff_eq.1 E) (beq_iff_eq.1 O) (z_of T) rfl (lW U) (ey w1) (ey A)⟩
theorem wf2{s:StmT}(h:s.kind=2)(w:wfK s=true):vnm s.name.b=true/\wfE s.at_=true/\wfE s.val=true/\mkS 2 ⟨s.name.b⟩ bV 0 s.at_ s.val [] [] []=s:=by rw[wfK,if_neg (by omega),if_pos h]at w;unfold flS at w;simp only[a02]at w;obtain⟨⟨⟨⟨⟨⟨⟨w1,A⟩,w3⟩,E⟩,O⟩,T⟩,U⟩,V⟩:=w;exact⟨w3,T,V,s_mk h rfl (beq_iff_eq.1 E) (beq_iff_eq.1 O) rfl rfl (lW U) (ey w1) (ey A)⟩
theorem onv{s:StmT}(w:onV s=true):s.name.b=[]/\s.to.b=[]/\s.n=0/\s.at_=zE/\s.args=[]:=by unfold onV at w;simp only[a02]at w;exact⟨beq_iff_eq.1 w.1.1.1.1,beq_iff_eq.1 w.1.1.1.2,beq_iff_eq.1 w.1.1.2,z_of w.1.2,lW w.2⟩
theorem wf3{s:StmT}(h:s.kind=3)(w:wfK s=true):wfE s.val=true/\mkS 3 bV bV 0 zE s.val [] s.thn s.els=s:=by rw[wfK,if_neg (by omega),if_neg (by omega),if_pos h,a02]at w;obtain⟨a,b,c,d,f⟩:=onv w.1;exact⟨w.2,s_mk h a b c d rfl f rfl rfl⟩
theorem wf4{s:StmT}(h:s.kind=4)(w:wfK s=true):wfE s.val=true/\mkS 4 bV bV 0 zE s.val [] s.thn []=s:=by rw[wfK,if_neg (by omega),if_neg (by omega),if_neg (by omega),if_pos h,a02,a02]at w;obtain⟨a,b,c,d,f⟩:=onv w.1.1;exact⟨w.1.2,s_mk h a b c d rfl f rfl (ey w.2)⟩
theorem wf5{s:StmT}(h:s.kind=5)(w:wfK s=true):wfE s.val=true/\mkS 5 bV bV 0 zE s.val [] [] []=s:=by rw[wfK,if_neg (by omega),if_neg (by omega),if_neg (by omega),if_neg (by omega),if_pos h,a02,a02]at w;obtain⟨a,b,c,d,f⟩:=onv w.1.2;have w1:=w.1.1;unfold flS at w1;rw[a02]at w1;exact⟨w.2,s_mk h a b c d rfl f (ey w1.1) (ey w1.2)⟩
theorem wf6{s:StmT}(h:s.kind=6)(w:wfK s=true):vnm s.name.b=true/\vnm s.to.b=true/\mkS 6 ⟨s.name.b⟩ ⟨s.to.b⟩ 0 zE zE s.args [] []=s:=by rw[wfK,if_neg (by omega),if_neg (by omega),if_neg (by omega),if_neg (by omega),if_neg (by omega),if_pos h]at w;unfold flS at w;simp only[a02]at w;obtain⟨⟨⟨⟨⟨⟨w1,A⟩,w3⟩,E⟩,O⟩,T⟩,U⟩:=w;exact⟨w3,E,s_mk h rfl rfl (beq_iff_eq.1 O) (z_of T) (z_of U) rfl (ey w1) (ey A)⟩
theorem wf7{s:StmT}(h:s.kind=7)(w:wfK s=true):(0<=s.n/\s.n<=1000000)/\mkS 7 bV bV s.n zE zE [] [] []=s:=by rw[wfK,if_neg (by omega),if_neg (by omega),if_neg (by omega),if_neg (by omega),if_neg (by omega),if_neg (by omega),if_pos h]at w;unfold flS at w;simp only[a02,decide_eq_true_eq]at w;obtain⟨⟨⟨⟨⟨⟨⟨⟨w1,A⟩,w3⟩,E⟩,O⟩,T⟩,U⟩,V⟩,Y⟩:=w;exact⟨⟨O,T⟩,s_mk h (beq_iff_eq.1 w3) (beq_iff_eq.1 E) rfl (z_of U) (z_of V) (lW Y) (ey w1) (ey A)⟩
section
variable {s:List UInt8} {ws:List Wd}
theorem Sc.jn1(hs:Nw s)(h:Sc s ws): ∀{l:List Str} (b:Bool),(∀x∈l,vnm x.b=true)->Sc (jnR b l++s) (wdJ b (l.map nmW)++ws)/\Nw (jnR true l++s)
 | [],b,_=>⟨h,hs⟩
 |x::l,b,hl=>by
  obtain⟨E,O⟩:=Sc.jn1 hs h (l:=l) true fun y T=>hl y (a0c _ T)
  have A:=E.name (hM (hl x (a0i ..))) O;refine⟨?_,Nw.c (by decide)⟩;rw[a1k,jnR,wdJ];cases b with
  |false=>simpa[nmW] using A
  |true=>have:=A.sp.sym (c:=44) (by decide);simpa[nmW] using this
theorem Sc.jn2(hs:Nw s)(h:Sc s ws): ∀{l:List ExpT} (b:Bool),fH l=true->inE.inEs l->Sc (jnR b (strs (jm l))++s) (wdJ b (iS l)++ws)/\Nw (jnR true (strs (jm l))++s)
 | [],b,_,_=>⟨h,hs⟩
 |x::l,b,hw,hi=>by
  rw[fH,a02]at hw;rw[inE.inEs]at hi;obtain⟨E,O⟩:=Sc.jn2 hs h (l:=l) true hw.2 hi.2;have A:=lS x hw.1 hi.1 O E;refine⟨?_,Nw.c (by decide)⟩;rw[jm,iS];show Sc (jnR b (⟨fmE x⟩::strs (jm l))++s) _;rw[jnR,wdJ];cases b with
  |false=>simpa using A
  |true=>have:=A.sp.sym (c:=44) (by decide);simpa using this
def ScS(s:StmT):Prop:=wfS s=true->inS s->∀{ind r:List UInt8} {ws:List Wd},(∀x∈ind,x=32)->Sc r ws->Sc (fmS s ind++r) (wdS s++ws)
theorem sc_l: ∀{l:List StmT},(∀s∈l,ScS s)->fK l=true->inL l->∀{ind r:List UInt8} {ws:List Wd},(∀x∈ind,x=32)->Sc r ws->Sc (il l ind++r) (wdL l++ws)
 | [],_,_,_,_,_,_,_,k=>by rw[il,wdL];exact k
 |s::l,h,hw,hi,ind,r,ws,hd,k=>by rw[fK,a02]at hw;rw[inL]at hi;rw[il,wdL,a0a,a0a];exact h s (a0i ..) hw.1 hi.1 hd (sc_l (fun x A=>h x (a0c _ A)) hw.2 hi.2 hd k)
theorem ind_2{ind:List UInt8}(h: ∀x∈ind,x=32): ∀x∈ind++[32,32],x=32:=fun x A=>by
 rcases a0e.1 A with A|A
 ·exact h x A
 simpa using A
theorem sc_s(s:StmT):ScS s:=stI (P:=ScS) (fun s h1 h2 hw hi ind r ws hd k=>by
 rw[wf_s,a02,a02,wfA,a02]at hw;obtain⟨⟨⟨a2,wk⟩,wt⟩,we⟩:=hw;obtain⟨ia,iv,a1,it,ie⟩:=in_s hi;rw[fm_s,wd_s,a0a];refine Sc.sps ?_ hd;have kn:=k.nl;have ks:=kn.sym (c:=59) (by decide);have kb:=kd_rng wk;have T:=fun{q:List UInt8} {v:List Wd} (k:Sc q v)=>sc_l h1 wt it (ind_2 hd) k
 have E:=fun{q:List UInt8} {v:List Wd} (k:Sc q v)=>sc_l h2 we ie (ind_2 hd) k
 by_cases k1:s.kind=1
 ·obtain⟨w1,O,_⟩:=wf1 k1 wk;rw[fk_1 k1,wk1 k1];have:=((lS s.val O iv (Nw.c (by decide)) ks).op (o:=[61]) (by decide)).sp.name (hM w1) (Nw.c (by decide));simpa using this
 by_cases k2:s.kind=2
 ·obtain⟨w1,O,w3,_⟩:=wf2 k2 wk;rw[fk_2 k2,wk2 k2];have:=((lS s.at_ O ia (Nw.c (by decide)) (((lS s.val w3 iv (Nw.c (by decide)) ks).op (o:=[61]) (by decide)).sp.sym (c:=93) (by decide))).sym (c:=91) (by decide)).name (hM w1) (Nw.c (by decide));simpa using this
 by_cases U:s.kind=3
 ·obtain⟨w1,_⟩:=wf3 U wk;rw[fk_3 U,wk3 U];by_cases q:0<s.els.length
  ·rw[if_pos q,if_pos q];have b1:=(kn.sym (c:=125) (by decide)).sps hd;have b2:=(((E b1).nl.sym (c:=123) (by decide)).sp.name (w:=[101,108,115,101]) (by decide) (Nw.c (by decide))).sp;have A:=(T ((b2.sym (c:=125) (by decide)).sps hd)).nl;have:=(((lS s.val w1 iv (Nw.c (by decide)) ((A.sym (c:=123) (by decide)).sp.sym (c:=41) (by decide))).sym (c:=40) (by decide)).sp).name (w:=[105,102]) (by decide) (Nw.c (by decide));simpa using this
  rw[if_neg q,if_neg q];have A:=(T ((kn.sym (c:=125) (by decide)).sps hd)).nl;have:=(((lS s.val w1 iv (Nw.c (by decide)) ((A.sym (c:=123) (by decide)).sp.sym (c:=41) (by decide))).sym (c:=40) (by decide)).sp).name (w:=[105,102]) (by decide) (Nw.c (by decide));simpa using this
 by_cases V:s.kind=4
 ·obtain⟨w1,_⟩:=wf4 V wk;rw[fk_4 V,wk4 V];have A:=(T ((kn.sym (c:=125) (by decide)).sps hd)).nl;have:=(((lS s.val w1 iv (Nw.c (by decide)) ((A.sym (c:=123) (by decide)).sp.sym (c:=41) (by decide))).sym (c:=40) (by decide)).sp).name (w:=[119,104,105,108,101]) (by decide) (Nw.c (by decide));simpa using this
 by_cases Y:s.kind=5
 ·obtain⟨w1,_⟩:=wf5 Y wk;rw[fk_5 Y,wk5 Y];have:=(lS s.val w1 iv (Nw.c (by decide)) ks).sp.name (w:=[111,117,116]) (by decide) (Nw.c (by decide));simpa using this
 by_cases Z:s.kind=6
 ·obtain⟨w1,O,_⟩:=wf6 Z wk;rw[fk_6 (by omega) (by omega) (by omega) (by omega) (by omega) (by omega),wk6 Z];have b:=(Sc.jn2 (Nw.c (by decide)) (ks.sym (c:=41) (by decide)) false a2 a1).1;have:=((((b.sym (c:=40) (by decide)).name (hM O) (Nw.c (by decide))).op (o:=[61]) (by decide)).sp).name (hM w1) (Nw.c (by decide));simpa[jn] using this
 obtain⟨w1,_⟩:=wf7 (by omega) wk;rw[fk_7 (by omega),wk7 (by omega)];obtain⟨n1,n2⟩:=nat_ok (n:=s.n.toNat) (by omega);have:=(ks.num n1 n2 (Nw.c (by decide))).sp.name (w:=[116,114,97,112]) (by decide) (Nw.c (by decide));rw[show bS s.n=dec s.n.toNat by unfold bS;rw[if_neg (by omega)]];simpa using this) _ s (a06 _)
def inF(f:FunT):Prop:=inL f.body/\inE f.val
theorem sc_a{a:ArrT}(O:vnm a.name.b=true)(T:1<=a.len/\a.len<=16)(h:Sc s ws):Sc (arT a++s) (wdAr a++ws):=by obtain⟨A,E⟩:=nat_ok (n:=a.len.toNat) (by omega);have:=(((h.nl.sym (c:=59) (by decide)).num A E (Nw.c (by decide))).sp.name (hM O) (Nw.c (by decide))).sp.name (w:=[97,114,114,97,121]) (by decide) (Nw.c (by decide));unfold arT wdAr;rw[show bS a.len=dec a.len.toNat by unfold bS;rw[if_neg (by omega)]];simpa using this
theorem sc_f{f:FunT}(hw:wfF f=true)(hi:inF f)(h:Sc s ws):Sc (fnT f++s) (wdFn f++ws):=by
 rw[wf_f,a02,a02,a0j]at hw;obtain⟨⟨w1,V⟩,w3⟩:=hw;have Y: ∀x∈[f.name]++f.pars++f.locs,vnm x.b=true:=w1;have E:=((h.nl.sym (c:=125) (by decide)).nl.sym (c:=59) (by decide))
 have O:=(lS f.val w3 hi.2 (Nw.c (by decide)) E).sp.name (w:=[114,101,116,117,114,110]) (by decide) (Nw.c (by decide));have A:=(sc_l (fun s _=>sc_s s) V hi.1 (ind:=[32,32]) (by simp) O.sp.sp).nl.sym (c:=123) (by decide);have T:Sc (lcT f.locs++(123::10::(il f.body [32,32]++(32::32::([114,101,116,117,114,110]++(32::(fmE f.val++(59::10::125::10::s)))))))) (wdLc f.locs++(3,[123])::(wdL f.body++(1,[114,101,116,117,114,110])::(wdE f.val++(3,[59])::(3,[125])::ws))):=by
  unfold lcT wdLc;by_cases q:0<f.locs.length
  ·rw[if_pos q,if_pos q];have:=(Sc.jn1 (Nw.c (by decide)) A.sp (l:=f.locs) false fun x Z=>Y x (by simp[Z])).1.sp.name (w:=[118,97,114]) (by decide) (Nw.c (by decide));simpa[jn] using this
  rw[if_neg q,if_neg q];exact A
 have U:=((Sc.jn1 (Nw.c (by decide)) (T.sp.sym (c:=41) (by decide)) (l:=f.pars) false fun x Z=>Y x (by simp[Z])).1.sym (c:=40) (by decide)).name (w:=f.name.b) (hM (Y _ (by simp))) (Nw.c (by decide));have:=U.sp.name (w:=[102,117,110,99]) (by decide) (Nw.c (by decide));unfold fnT wdFn;simpa[jn] using this
end
section
variable {ts:List Token} {i j:Nat} {r:List Wd}
theorem cZ{w v:List UInt8}(h:vnm w=true)(A:v∈pt.resL):w≠v:=by rintro rfl;unfold vnm jj at h;rw[decide_eq_true A]at h;simp at h
theorem isN_of{w:List UInt8}(h:Dw ts i ((1,w)::r))(A:vnm w=true):isN ts i=true:=by
 rw[h.n];unfold vnm at A;show(decide ((1:Int)=1)&& !jj w)=true
 rw[decide_eq_true rfl,(Bool.and_eq_true_iff.1 A).2];rfl
theorem small_of{n:Int}(h:Dw ts i ((2,dec n.toNat)::r))(A:0<=n/\n<=1000000):fQ ts i= .ok (n,i+1):=by
 have E:numV ts i=some n:=by unfold numV;rw[show(ts.getD i default).text.b=dec n.toNat from h.t,num_d (by omega)];congr 1;omega
 unfold fQ;rw[E,h.m];show(if(decide ((2:Int)=2)&&true&&decide (n<=1000000))=true then _ else _)=_;rw[decide_eq_true rfl,decide_eq_true A.2];rfl
theorem stp_j{b:Bool}{l:List (List Wd)}{r:List Wd}(hb:b=true)(h:Stp r):Stp (wdJ b l++r):=by
 subst hb;cases l with
 |nil=>exact h
 |cons x l=>exact .c (by decide)
theorem wde_hd(e:ExpT):wfE e=true->∃k w r,wdE e=(k,w)::r/\(k≠3\/w∈[[40],[45],[126]]):=exI (P:=fun e=>wfE e=true->∃k w r,wdE e=(k,w)::r/\(k≠3\/w∈[[40],[45],[126]])) (fun e ih hw=>by
 obtain⟨hk,hn⟩:=dI hw;have kid: ∀{q:Nat} {m:Bool} (t:List Wd),q<e.kids.length->∃k w r,wdF (e.kids.getD q default) m (wdE (e.kids.getD q default))++t=(k,w)::r/\(k≠3\/w∈[[40],[45],[126]]):=fun t h=>by
  unfold wdF;split
  ·exact⟨3,[40],_,rfl,.inr (by decide)⟩
  obtain⟨k,w,r,e1,e2⟩:=ih _ (e7 h) (gA hk h);exact⟨k,w,r++t,by rw[e1];rfl,e2⟩
 by_cases V:e.kind=1
 ·rw[wd_1 V];unfold wdN;split
  ·exact⟨3,[45],_,rfl,.inr (by decide)⟩
  exact⟨2,_,_,rfl,.inl (by decide)⟩
 by_cases Y:e.kind=2
 ·rw[wd_2 Y];exact⟨1,_,_,rfl,.inl (by decide)⟩
 by_cases O:e.kind=3
 ·rw[wd_3 O (wfN_3 O hn).1];exact⟨1,_,_,rfl,.inl (by decide)⟩
 by_cases U:e.kind=5
 ·have c:=wfN_5 U hn;rw[wd_5 U c];exact kid _ (by omega)
 obtain⟨T,q1,Z⟩:=wfN_4 V Y O U hn;by_cases A:e.op=20
 ·rw[wd_n T A (Z (.inl A))];exact⟨3,[45],_,rfl,.inr (by decide)⟩
 by_cases E:e.op=21
 ·rw[wd_t T E (Z (.inr E))];exact⟨3,[126],_,rfl,.inr (by decide)⟩
 have c:=(q1 ⟨A,E⟩).1;rw[wd_b T A E c];exact kid _ (by omega)) _ e (a06 _)
theorem hd_ne{w:List UInt8}{r:List Wd}(h:w≠ [40]):hdW ((3,w)::r)≠(3,[40]):=fun q=>h (show w=[40] from congrArg Prod.snd q)
theorem nocall(e:ExpT):wfE e=true->∀(r:List Wd),hdW r≠(3,[40])->∀w y,wdE e++r=(1,w)::y->hdW y≠(3,[40]):=exI (P:=fun e=>wfE e=true->∀(r:List Wd),hdW r≠(3,[40])->∀w y,wdE e++r=(1,w)::y->hdW y≠(3,[40])) (fun e ih hw r hr w y he=>by
 obtain⟨hk,hn⟩:=dI hw;have kid: ∀{q:Nat} {m:Bool} (t:List Wd),q<e.kids.length->hdW t≠(3,[40])->wdF (e.kids.getD q default) m (wdE (e.kids.getD q default))++t=(1,w)::y->hdW y≠(3,[40]):=fun t h ht he=>by
  unfold wdF at he;split at he
  ·injection he with A _;injection A with A _;exact absurd A (by decide)
  exact ih _ (e7 h) (gA hk h) t ht w y he
 by_cases Z:e.kind=1
 ·rw[wd_1 Z]at he;unfold wdN at he;split at he
  ·injection he with A _;injection A with A _;exact absurd A (by decide)
  injection he with A _;injection A with A _;exact absurd A (by decide)
 by_cases h2:e.kind=2
 ·rw[wd_2 h2]at he;injection he with _ T;rw[←T];exact hr
 by_cases U:e.kind=3
 ·rw[wd_3 U (wfN_3 U hn).1]at he;injection he with _ T;rw[←T];exact hd_ne (by decide)
 by_cases Y:e.kind=5
 ·have c:=wfN_5 Y hn;rw[wd_5 Y c,a0a]at he;exact kid _ (by omega) (hd_ne (by decide)) he
 obtain⟨V,q1,q2⟩:=wfN_4 Z h2 U Y hn;by_cases E:e.op=20
 ·rw[wd_n V E (q2 (.inl E))]at he;injection he with A _;injection A with A _;exact absurd A (by decide)
 by_cases O:e.op=21
 ·rw[wd_t V O (q2 (.inr O))]at he;injection he with A _;injection A with A _;exact absurd A (by decide)
 obtain⟨c,ho⟩:=q1 ⟨E,O⟩;rw[wd_b V E O c,a0a]at he;refine kid _ (by omega) (hd_ne fun q=>?_) he;have:=opX_mem ho;rw[q]at this;revert this;decide) _ e (a06 _)
theorem pa_argl: ∀{l:List ExpT} {l0:List ExpT} {i:Nat},fH l=true->inE.inEs l->Dw ts i (wdJ true (iS l)++(3,[41])::r)->Lim (fun n=>argL ts n l0 i) (.ok (l0++l,i+(wdJ true (iS l)).length+1))
 | [],l0,i,_,_,d=>by
  rw[iS,wdJ]at d⊢;have d:Dw ts i ((3,[41])::r):=d;refine Lim.succ (g:=fun n=>bnd (fe ts [41] i) fun _ i=> .ok (l0,i)) ?_ fun n=>by rw[argL,if_neg (by rw[d.nosy (.inr (by decide))];decide)]
  rw[d.exp,a0p];exact .const _
 |x::l,l0,i,hw,hi,d=>by
  rw[fH,a02]at hw;rw[inE.inEs]at hi;rw[iS,wdJ]at d⊢;have d0:Dw ts i ((3,[44])::(wdE x++(wdJ true (iS l)++(3,[41])::r))):=by simpa using d
  have A:=d0.tl;have p:=pa_ex x hw.1 hi.1 (stp_j rfl (.c (by decide))) A;have q:=pa_argl (l0:=l0++[x]) hw.2 hi.2 A.app;refine Lim.succ (g:=fun n=>bnd (cr ts n (i+1)) fun b i=>argL ts n (l0++[b]) i) (.seq p ?_) fun n=>by rw[argL,if_pos d0.sy]
  rw[a0a]at q;simp only[if_true,a01,a03,a05];rw[show ∀a b:Nat,i+(0+1+(a+b))+1=i+1+a+b+1 by intros;omega];exact q
theorem pa_args{l:List ExpT}(U:fH l=true)(hi:inE.inEs l)(d:Dw ts i ((3,[40])::(wdJ false (iS l)++(3,[41])::r))):Lim (fun n=>argM ts n i) (.ok (l,i+1+(wdJ false (iS l)).length+1)):=by
 have A:=d.tl;unfold argM;rw[d.exp];refine .seq (.const _) ?_;cases l with
 |nil=>
  rw[iS,wdJ]at A⊢
  have A:Dw ts (i+1) ((3,[41])::r):=A
  show Lim (fun n=>if isS ts (i+1) [41]=true then _ else _) _
  rw[A.sy];exact .const _
 |cons x l=>
  rw[fH,a02]at U
  rw[inE.inEs]at hi
  rw[iS,wdJ]at A⊢
  have E:Dw ts (i+1) (wdE x++(wdJ true (iS l)++(3,[41])::r)):=by simpa using A
  have p:=pa_ex x U.1 hi.1 (stp_j rfl (.c (by decide))) E
  have q:=pa_argl (l0:=[x]) U.2 hi.2 E.app
  obtain⟨w,v,V,O,T⟩:=wde_hd x U.1
  have k:isS ts (i+1) [41]=false:=by rw[O]at E;refine Dw.nosy (k:=w) (w:=v) E (T.imp id fun q e=>?_);rw[e]at q;revert q;decide
  show Lim (fun n=>if isS ts (i+1) [41]=true then _ else _) _
  rw[k]
  refine .seq p ?_
  simp only[a0g,if_false,a0z,a01]
  rw[show ∀a b:Nat,i+1+(a+b)+1=i+1+a+b+1 by intros;omega]
  exact q
theorem lQ{w:List UInt8}(A:vnm w=true)(d:Dw ts i ((1,w)::r))(n:Nat):simM ts n i=(if isS ts (i+1) [91] then bnd (cr ts n (i+1+1)) fun a i=>bnd (fe ts [93] i) fun _ i=>bnd (fe ts [61] i) fun _ i=>bnd (cr ts n i) fun v i=> .ok (mkS 2 ⟨w⟩ bV 0 a v [] [] [],i)
  else bnd (fe ts [61] (i+1)) fun _ i=>if isN ts i&&isS ts (i+1) [40] then bnd (eZ ts i) fun f i=>bnd (argM ts n i) fun l i=> .ok (mkS 6 ⟨w⟩ f 0 zE zE l [] [],i)
   else bnd (cr ts n i) fun v i=> .ok (mkS 1 ⟨w⟩ bV 0 zE v [] [] [],i)):=by
 unfold simM
 rw[d.nokey (.inr (cZ A (by decide))),d.nokey (.inr (cZ A (by decide))),d.name A];rfl
theorem pa_sim{s:StmT}(hk:s.kind=1\/s.kind=2\/s.kind=5\/s.kind=6\/s.kind=7)(hw:wfS s=true)(hi:inS s){w:List Wd}(e:wdS s=w++[(3,[59])])(d:Dw ts i (w++(3,[59])::r)):Lim (fun n=>simM ts n i) (.ok (s,i+w.length)):=by
 rw[wf_s,a02,a02,wfA,a02]at hw;obtain⟨⟨⟨a2,wk⟩,_⟩,_⟩:=hw;obtain⟨ia,iv,a1,_,_⟩:=in_s hi;rw[wd_s]at e;rcases hk with k|k|k|k|k
 ·obtain⟨w1,E,w3⟩:=wf1 k wk;rw[wk1 k]at e;obtain rfl:(1,s.name.b)::(3,[61])::wdE s.val=w:=a1i (bs:=[(3,[59])]) (by simpa using e);have d0:Dw ts i ((1,s.name.b)::(3,[61])::(wdE s.val++(3,[59])::r)):=d;have O:=d0.tl;have A:=O.tl;have p:=pa_ex s.val E iv (.c (by decide)) A;have hz:(isN ts (i+1+1)&&isS ts (i+1+1+1) [40])=false:=by
   obtain⟨kk,vv,Z,U,Y⟩:=wde_hd s.val E;by_cases k1:kk=1
   ·subst k1;have T:Dw ts (i+1+1) ((1,vv)::(Z++(3,[59])::r)):=by rw[U]at A;exact A
    have:=nocall s.val E ((3,[59])::r) (hd_ne (by decide)) vv (Z++(3,[59])::r) (by rw[U];rfl);rw[T.tl.s];cases q:decide ((hdW (Z++(3,[59])::r)).1=3) with
    |false=>rw[Bool.false_and,a1I]
    |true=>rw[decide_eq_false (fun z=>this (Prod.ext (of_decide_eq_true q) z))];simp
   have T:Dw ts (i+1+1) ((kk,vv)::(Z++(3,[59])::r)):=by rw[U]at A;exact A
   rw[T.n];show((decide (kk=1)&&_)&&_)=false
   rw[decide_eq_false k1];rfl
  refine lim_eq ?_ (funext fun n=>lQ w1 d0 n);rw[O.nosy (.inr (by decide)),O.exp];show Lim (fun n=>if(isN ts (i+1+1)&&isS ts (i+1+1+1) [40])=true then _ else _) _;rw[hz];refine .seq p ?_;rw[show i+((1,s.name.b)::(3,[61])::wdE s.val).length=i+1+1+(wdE s.val).length by simp;omega];show Lim (fun _=> .ok (mkS 1 ⟨s.name.b⟩ bV 0 zE s.val [] [] [],_)) _;rw[w3];exact .const _
 ·obtain⟨w1,E,w3,V⟩:=wf2 k wk;rw[wk2 k]at e;obtain rfl:(1,s.name.b)::(3,[91])::(wdE s.at_++(3,[93])::(3,[61])::wdE s.val)=w:=a1i (bs:=[(3,[59])]) (by simpa using e);have d0:Dw ts i ((1,s.name.b)::(3,[91])::(wdE s.at_++(3,[93])::(3,[61])::(wdE s.val++(3,[59])::r))):=by simpa using d
  have O:=d0.tl;have A:=O.tl;have p:=pa_ex s.at_ E ia (.c (by decide)) A;have T:=A.app;have q:=pa_ex s.val w3 iv (.c (by decide)) T.tl.tl;refine lim_eq ?_ (funext fun n=>lQ w1 d0 n);rw[O.sy];refine .seq p ?_;rw[T.exp];refine .seq (.const _) ?_;rw[T.tl.exp];refine .seq (.const _) (.seq q ?_);show Lim (fun _=> .ok (mkS 2 ⟨s.name.b⟩ bV 0 s.at_ s.val [] [] [],_)) _;rw[V,show i+((1,s.name.b)::(3,[91])::(wdE s.at_++(3,[93])::(3,[61])::wdE s.val)).length=i+1+1+(wdE s.at_).length+1+1+(wdE s.val).length by simp;omega];exact .const _
 ·obtain⟨w1,E⟩:=wf5 k wk;rw[wk5 k]at e;obtain rfl:(1,[111,117,116])::wdE s.val=w:=a1i (bs:=[(3,[59])]) (by simpa using e);have d0:Dw ts i ((1,[111,117,116])::(wdE s.val++(3,[59])::r)):=d;have p:=pa_ex s.val w1 iv (.c (by decide)) d0.tl;refine lim_eq (g:=fun n=>bnd (cr ts n (i+1)) fun x i=> .ok (mkS 5 bV bV 0 zE x [] [] [],i)) (.seq p ?_) (funext fun n=>by unfold simM;rw[d0.key];rfl);show Lim (fun _=> .ok (mkS 5 bV bV 0 zE s.val [] [] [],_)) _;rw[E,show i+((1,[111,117,116])::wdE s.val).length=i+1+(wdE s.val).length by simp;omega];exact .const _
 ·obtain⟨w1,E,w3⟩:=wf6 k wk;rw[wk6 k]at e;obtain rfl:(1,s.name.b)::(3,[61])::(1,s.to.b)::(3,[40])::(wdJ false (iS s.args)++[(3,[41])])=w:=a1i (bs:=[(3,[59])]) (by simpa using e);have d0:Dw ts i ((1,s.name.b)::(3,[61])::(1,s.to.b)::(3,[40])::(wdJ false (iS s.args)++(3,[41])::(3,[59])::r)):=by simpa using d
  have O:=d0.tl;have A:=O.tl;have T:=A.tl;have p:=pa_args a2 a1 T;refine lim_eq ?_ (funext fun n=>lQ w1 d0 n);rw[O.nosy (.inr (by decide)),O.exp];show Lim (fun n=>if(isN ts (i+1+1)&&isS ts (i+1+1+1) [40])=true then _ else _) _;rw[isN_of A E,T.sy,A.name E];refine .seq p ?_;show Lim (fun _=> .ok (mkS 6 ⟨s.name.b⟩ ⟨s.to.b⟩ 0 zE zE s.args [] [],_)) _;rw[w3,show i+((1,s.name.b)::(3,[61])::(1,s.to.b)::(3,[40])::(wdJ false (iS s.args)++[(3,[41])])).length=i+1+1+1+1+(wdJ false (iS s.args)).length+1 by simp;omega];exact .const _
 obtain⟨w1,E⟩:=wf7 k wk;rw[wk7 k]at e;obtain rfl:[(1,[116,114,97,112]),(2,dec s.n.toNat)]=w:=a1i (bs:=[(3,[59])]) (by simpa using e);have d0:Dw ts i ((1,[116,114,97,112])::(2,dec s.n.toNat)::(3,[59])::r):=d;refine lim_eq (g:=fun _=> .ok (s,i+2)) (.const _) (funext fun n=>?_);unfold simM;rw[d0.nokey (.inr (by decide)),d0.key,small_of d0.tl w1];show Except.ok (mkS 7 bV bV s.n zE zE [] [] [],i+1+1)=_;rw[E]
theorem wfS_p{s:StmT}(A:wfS s=true):wfK s=true/\fK s.thn=true/\fK s.els=true:=by rw[wf_s,a02,a02,wfA,a02]at A;exact⟨A.1.1.2,A.1.2,A.2⟩
def Nel(r:List Wd):Prop:=hdW r≠(1,[101,108,115,101])
theorem Nel.k(h:Nel r)(d:Dw ts i r):isK ts i [101,108,115,101]=false:=by
 rw[d.kw];cases q:decide ((hdW r).1=1) with
 |false=>rfl
 |true=>rw[a17];exact decide_eq_false fun z=>h (Prod.ext (of_decide_eq_true q) z)
theorem Nel.s{w:List UInt8}:Nel ((3,w)::r):=fun q=>absurd (show(3:Int)=1 from congrArg Prod.fst q) (by decide)
theorem Nel.w{w:List UInt8}(h:w≠ [101,108,115,101]):Nel ((1,w)::r):=fun q=>h (show w=_ from congrArg Prod.snd q)
theorem wds_hd{s:StmT}(U:wfS s=true): ∃w t,wdS s=(1,w)::t/\w≠ [101,108,115,101]/\w≠ [114,101,116,117,114,110]:=by
 obtain⟨wk,_,_⟩:=wfS_p U;have kb:=kd_rng wk;rw[wd_s];by_cases k1:s.kind=1
 ·rw[wk1 k1];exact⟨_,_,rfl,cZ (wf1 k1 wk).1 (by decide),cZ (wf1 k1 wk).1 (by decide)⟩
 by_cases k2:s.kind=2
 ·rw[wk2 k2];exact⟨_,_,rfl,cZ (wf2 k2 wk).1 (by decide),cZ (wf2 k2 wk).1 (by decide)⟩
 by_cases E:s.kind=3
 ·rw[wk3 E];exact⟨_,_,rfl,by decide,by decide⟩
 by_cases O:s.kind=4
 ·rw[wk4 O];exact⟨_,_,rfl,by decide,by decide⟩
 by_cases T:s.kind=5
 ·rw[wk5 T];exact⟨_,_,rfl,by decide,by decide⟩
 by_cases A:s.kind=6
 ·rw[wk6 A];exact⟨_,_,rfl,cZ (wf6 A wk).1 (by decide),cZ (wf6 A wk).1 (by decide)⟩
 rw[wk7 (by omega)];exact⟨_,_,rfl,by decide,by decide⟩
theorem nel_l{l:List StmT}(E:fK l=true)(h:Nel r):Nel (wdL l++r):=by
 cases l with
 |nil=>exact h
 |cons s l=>
  rw[fK,a02]at E
  obtain⟨w,t,e,A,_⟩:=wds_hd E.1
  rw[wdL,e];exact Nel.w A
theorem pa_cond{e:ExpT}(E:wfE e=true)(hi:inE e)(d:Dw ts i ((3,[40])::(wdE e++(3,[41])::r))):Lim (fun n=>condM ts n i) (.ok (e,i+1+(wdE e).length+1)):=by have A:=d.tl;unfold condM;rw[d.exp];refine .seq (.const _) (.seq (pa_ex e E hi (.c (by decide)) A) ?_);rw[A.app.exp];exact .const _
def PaS(ts:List Token)(s:StmT):Prop:=wfS s=true->inS s->∀{i:Nat} {r:List Wd},Nel r->Dw ts i (wdS s++r)->Lim (fun n=>stmM ts n i) (.ok (s,i+(wdS s).length))
theorem pa_l: ∀{l:List StmT} {l0:List StmT} {i:Nat},(∀s∈l,PaS ts s)->fK l=true->inL l->Dw ts i (wdL l++(3,[125])::r)->Lim (fun n=>stsM ts n l0 i) (.ok (l0++l,i+(wdL l).length+1))
 | [],l0,i,_,_,_,d=>by
  rw[wdL]at d⊢;have d:Dw ts i ((3,[125])::r):=d;refine Lim.succ (g:=fun _=> .ok (l0,i+1)) ?_ fun n=>by rw[stsM,if_pos d.sy]
  rw[a0p];exact .const _
 |s::l,l0,i,h,hw,hi,d=>by
  rw[fK,a02]at hw;rw[inL]at hi;rw[wdL]at d⊢;have d0:Dw ts i (wdS s++(wdL l++(3,[125])::r)):=by simpa using d
  have p:=h s (a0i ..) hw.1 hi.1 (nel_l hw.2 .s) d0;have q:=pa_l (l0:=l0++[s]) (fun x A=>h x (a0c _ A)) hw.2 hi.2 d0.app;obtain⟨w,t,e,_,_⟩:=wds_hd hw.1;have k:isS ts i [125]=false:=by rw[e]at d0;exact Dw.nosy (k:=1) (w:=w) d0 (.inl (by decide))
  refine Lim.succ (g:=fun n=>bnd (stmM ts n i) fun s i=>stsM ts n (l0++[s]) i) (.seq p ?_) fun n=>by rw[stsM,if_neg (by rw[k];decide)]
  rw[a01,←a0A];rw[a0a]at q;exact q
theorem pa_b{l:List StmT}(h: ∀s∈l,PaS ts s)(A:fK l=true)(hi:inL l)(d:Dw ts i ((3,[123])::(wdL l++(3,[125])::r))):Lim (fun n=>blkM ts n i) (.ok (l,i+1+(wdL l).length+1)):=by have q:=pa_l (l0:=[]) h A hi d.tl;exact Lim.succ (g:=fun n=>stsM ts n [] (i+1)) q fun n=>by rw[blkM,d.exp];rfl
theorem pa_s(s:StmT):PaS ts s:=stI (P:=PaS ts) (fun s h1 h2 hw hi i r hr d=>by
 obtain⟨wk,wt,we⟩:=wfS_p hw;obtain⟨ia,iv,ba,it,ie⟩:=in_s hi;have kb:=kd_rng wk;by_cases k3:s.kind=3
 ·obtain⟨w1,V⟩:=wf3 k3 wk;rw[wd_s,wk3 k3]at d⊢;have d0:Dw ts i ((1,[105,102])::(3,[40])::(wdE s.val++(3,[41])::(3,[123])::(wdL s.thn++(3,[125])::((if 0<s.els.length then(1,[101,108,115,101])::(3,[123])::(wdL s.els++[(3,[125])]) else [])++r)))):=by simpa using d
  have E:=d0.tl;have p:=pa_cond w1 iv E;have Z:=(E.tl.app).tl;have q:=pa_b h1 wt it Z;have O:=(Z.tl.app).tl;generalize hj:i+1+1+(wdE s.val).length+1+1+(wdL s.thn).length+1=j at O q;refine Lim.succ (g:=fun n=>bnd (condM ts n (i+1)) fun v i=>bnd (blkM ts n i) fun t i=>if isK ts i [101,108,115,101] then bnd (blkM ts n (i+1)) fun e i=> .ok (mkS 3 bV bV 0 zE v [] t e,i) else .ok (mkS 3 bV bV 0 zE v [] t [],i)) (.seq p (.seq q ?_)) fun n=>by rw[stmM,if_pos d0.key]
  by_cases c:0<s.els.length
  ·rw[if_pos c]at O⊢;have U:Dw ts j ((1,[101,108,115,101])::(3,[123])::(wdL s.els++(3,[125])::r)):=by simpa using O
   rw[U.key];refine .seq (pa_b h2 we ie U.tl) ?_;show Lim (fun _=> .ok (mkS 3 bV bV 0 zE s.val [] s.thn s.els,_)) _;rw[V];simp only[a01,a03,a05];rw[show ∀a b c:Nat,i+(a+(b+(c+(0+1)+1+1+1)+1+1)+1+1)=i+1+1+a+1+1+b+1+1+1+c+1 by intros;omega,hj];exact .const _
  rw[if_neg c]at O⊢;have U:Dw ts j r:=O;rw[hr.k U];show Lim (fun _=> .ok (mkS 3 bV bV 0 zE s.val [] s.thn [],_)) _;rw[show mkS 3 bV bV 0 zE s.val [] s.thn []=s by rw[←a0f (show s.els.length=0 by omega)];exact V];simp only[a01,a03,a05];rw[show ∀a b:Nat,i+(a+(b+(0+1)+1+1)+1+1)=i+1+1+a+1+1+b+1 by intros;omega,hj];exact .const _
 by_cases k4:s.kind=4
 ·obtain⟨w1,V⟩:=wf4 k4 wk;rw[wd_s,wk4 k4]at d⊢;have d0:Dw ts i ((1,[119,104,105,108,101])::(3,[40])::(wdE s.val++(3,[41])::(3,[123])::(wdL s.thn++(3,[125])::r))):=by simpa using d
  have E:=d0.tl;have p:=pa_cond w1 iv E;have q:=pa_b h1 wt it (E.tl.app).tl;refine Lim.succ (g:=fun n=>bnd (condM ts n (i+1)) fun v i=>bnd (blkM ts n i) fun t i=> .ok (mkS 4 bV bV 0 zE v [] t [],i)) (.seq p (.seq q ?_)) fun n=>by rw[stmM,if_neg (by rw[d0.nokey (.inr (by decide))];decide),if_pos d0.key]
  show Lim (fun _=> .ok (mkS 4 bV bV 0 zE s.val [] s.thn [],_)) _;rw[V];simp only[a01,a03,a05];rw[show ∀a b:Nat,i+(a+(b+(0+1)+1+1)+1+1)=i+1+1+a+1+1+b+1 by intros;omega];exact .const _
 obtain⟨w,e⟩: ∃w,wdS s=w++[(3,[59])]:=by
  rw[wd_s];by_cases k1:s.kind=1
  ·rw[wk1 k1];exact⟨(1,s.name.b)::(3,[61])::wdE s.val,by simp⟩
  by_cases k2:s.kind=2
  ·rw[wk2 k2];exact⟨(1,s.name.b)::(3,[91])::(wdE s.at_++(3,[93])::(3,[61])::wdE s.val),by simp⟩
  by_cases Y:s.kind=5
  ·rw[wk5 Y];exact⟨(1,[111,117,116])::wdE s.val,by simp⟩
  by_cases T:s.kind=6
  ·rw[wk6 T];exact⟨(1,s.name.b)::(3,[61])::(1,s.to.b)::(3,[40])::(wdJ false (iS s.args)++[(3,[41])]),by simp⟩
  rw[wk7 (by omega)];exact⟨[(1,[116,114,97,112]),(2,dec s.n.toNat)],rfl⟩
 have d0:Dw ts i (w++(3,[59])::r):=by rw[e]at d;simpa using d
 have p:=pa_sim (by omega) hw hi e d0;obtain⟨v,t,A,_,_⟩:=wds_hd hw;have hv:v≠ [105,102]/\v≠ [119,104,105,108,101]:=by
  rw[wd_s]at A;by_cases k1:s.kind=1
  ·rw[wk1 k1]at A;injection A with A _;injection A with _ A;rw[←A];exact⟨cZ (wf1 k1 wk).1 (by decide),cZ (wf1 k1 wk).1 (by decide)⟩
  by_cases k2:s.kind=2
  ·rw[wk2 k2]at A;injection A with A _;injection A with _ A;rw[←A];exact⟨cZ (wf2 k2 wk).1 (by decide),cZ (wf2 k2 wk).1 (by decide)⟩
  by_cases Y:s.kind=5
  ·rw[wk5 Y]at A;injection A with A _;injection A with _ A;rw[←A];decide
  by_cases T:s.kind=6
  ·rw[wk6 T]at A;injection A with A _;injection A with _ A;rw[←A];exact⟨cZ (wf6 T wk).1 (by decide),cZ (wf6 T wk).1 (by decide)⟩
  rw[wk7 (by omega)]at A;injection A with A _;injection A with _ A;rw[←A];decide
 rw[A]at d;have E:Dw ts i ((1,v)::(t++r)):=d;refine Lim.succ (g:=fun n=>bnd (simM ts n i) fun s i=>bnd (fe ts [59] i) fun _ i=> .ok (s,i)) (.seq p ?_) fun n=>by rw[stmM,if_neg (by rw[E.nokey (.inr hv.1)];decide),if_neg (by rw[E.nokey (.inr hv.2)];decide)]
 rw[d0.app.exp,e,a01,show i+(w.length+[((3:Int),([59]:List UInt8))].length)=i+w.length+1 from rfl];exact .const _) _ s (a06 _)
theorem pa_namL: ∀{l l0:List Str} {i:Nat},(∀x∈l,vnm x.b=true)->hdW r≠(3,[44])->Dw ts i (wdJ true (l.map nmW)++r)->Lim (fun n=>namL ts n l0 i) (.ok (l0++l,i+(wdJ true (l.map nmW)).length))
 | [],l0,i,_,hr,d=>by
  have d:Dw ts i r:=d;have k:isS ts i [44]=false:=by
   rw[d.s];cases q:decide ((hdW r).1=3) with
   |false=>rfl
   |true=>rw[a17];exact decide_eq_false fun z=>hr (Prod.ext (of_decide_eq_true q) z)
  refine Lim.succ (g:=fun _=> .ok (l0,i)) ?_ fun n=>by rw[namL,if_neg (by rw[k];decide)]
  rw[a0p];exact .const _
 |x::l,l0,i,hl,hr,d=>by
  have d0:Dw ts i ((3,[44])::(1,x.b)::(wdJ true (l.map nmW)++r)):=d;have q:=pa_namL (l0:=l0++[x]) (fun y A=>hl y (a0c _ A)) hr d0.tl.tl;refine Lim.succ (g:=fun n=>bnd (eZ ts (i+1)) fun b i=>namL ts n (l0++[b]) i) ?_ fun n=>by rw[namL,if_pos d0.sy]
  rw[d0.tl.name (hl x (a0i ..))];rw[a0a]at q;rw[show i+(wdJ true ((x::l).map nmW)).length=i+1+1+(wdJ true (l.map nmW)).length by rw[a1k,wdJ];simp[nmW];omega];exact q
theorem pa_nam{x:Str}{l:List Str}(A: ∀y∈x::l,vnm y.b=true)(E:hdW r≠(3,[44]))(d:Dw ts i (wdJ false ((x::l).map nmW)++r)):Lim (fun n=>namM ts n i) (.ok (x::l,i+(wdJ false ((x::l).map nmW)).length)):=by
 have d0:Dw ts i ((1,x.b)::(wdJ true (l.map nmW)++r)):=d;have q:=pa_namL (l0:=[x]) (fun y O=>A y (a0c _ O)) E d0.tl;unfold namM;rw[d0.name (A x (a0i ..)),show i+(wdJ false ((x::l).map nmW)).length=i+1+(wdJ true (l.map nmW)).length by
  rw[a1k,wdJ];simp[nmW];omega]
 exact q
theorem pa_bod: ∀{l l0:List StmT} {i:Nat},fK l=true->inL l->Dw ts i (wdL l++(1,[114,101,116,117,114,110])::r)->Lim (fun n=>kA ts n l0 i) (.ok (l0++l,i+(wdL l).length+1))
 | [],l0,i,_,_,d=>by
  rw[wdL]at d⊢;have d:Dw ts i ((1,[114,101,116,117,114,110])::r):=d;refine Lim.succ (g:=fun _=> .ok (l0,i+1)) ?_ fun n=>by rw[kA,if_pos d.key]
  rw[a0p];exact .const _
 |s::l,l0,i,hw,hi,d=>by
  rw[fK,a02]at hw;rw[inL]at hi;rw[wdL]at d⊢;have d0:Dw ts i (wdS s++(wdL l++(1,[114,101,116,117,114,110])::r)):=by simpa using d
  have p:=pa_s s hw.1 hi.1 (nel_l hw.2 (.w (by decide))) d0;have q:=pa_bod (l0:=l0++[s]) hw.2 hi.2 d0.app;obtain⟨w,t,e,_,A⟩:=wds_hd hw.1;have k:isK ts i [114,101,116,117,114,110]=false:=by rw[e]at d0;exact Dw.nokey (k:=1) (w:=w) d0 (.inr A)
  refine Lim.succ (g:=fun n=>bnd (stmM ts n i) fun s i=>kA ts n (l0++[s]) i) (.seq p ?_) fun n=>by rw[kA,if_neg (by rw[k];decide)]
  rw[a01,←a0A];rw[a0a]at q;exact q
theorem hd_nc{k:Int}{w:List UInt8}{r:List Wd}(h:w≠ [44]):hdW ((k,w)::r)≠(3,[44]):=fun q=>h (show w=[44] from congrArg Prod.snd q)
theorem pa_f{f:FunT}(hw:wfF f=true)(hi:inF f)(d:Dw ts i (wdFn f++r)):isK ts i [97,114,114,97,121]=false/\isK ts i [102,117,110,99]=true/\Lim (fun n=>funM ts n (i+1)) (.ok (f,i+(wdFn f).length)):=by
 rw[wf_f,a02,a02,a0j]at hw;obtain⟨⟨w1,w2⟩,w3⟩:=hw;have hn: ∀x∈[f.name]++f.pars++f.locs,vnm x.b=true:=w1;have d0:Dw ts i ((1,[102,117,110,99])::(1,f.name.b)::(3,[40])::(wdJ false (f.pars.map nmW)++(3,[41])::(wdLc f.locs++(3,[123])::(wdL f.body++(1,[114,101,116,117,114,110])::(wdE f.val++(3,[59])::(3,[125])::r))))):=by unfold wdFn at d;simpa using d
 refine⟨d0.nokey (.inr (by decide)),d0.key,?_⟩;have T:=d0.tl;have U:=T.tl;have E:=U.tl;have Y:=E.app;have A:=Y.tl;have Z:=A.app;have d7:=Z.tl;have b:=pa_bod (l0:=[]) w2 hi.1 d7;have d8:=d7.app.tl;have v:=pa_ex f.val w3 hi.2 (.c (by decide)) d8;have d9:=d8.app;have hp:Lim (fun n=>if isS ts (i+1+1+1) [41] then .ok (([]:List Str),i+1+1+1) else namM ts n (i+1+1+1)) (.ok (f.pars,i+1+1+1+(wdJ false (f.pars.map nmW)).length)):=by
  cases hq:f.pars with
  |nil=>
   rw[hq]at E
   have E:Dw ts (i+1+1+1) ((3,[41])::_):=E
   rw[E.sy];exact .const _
  |cons x l=>
   rw[hq]at E
   have hl: ∀y∈x::l,vnm y.b=true:=fun y hy=>hn y (by rw[hq];simp only[a0e];exact .inl (.inr hy))
   have V:Dw ts (i+1+1+1) ((1,x.b)::_):=E
   rw[V.nosy (.inl (by decide))]
   exact pa_nam hl (hd_nc (by decide)) E
 have hl:Lim (fun n=>if isK ts (i+1+1+1+(wdJ false (f.pars.map nmW)).length+1) [118,97,114] then namM ts n (i+1+1+1+(wdJ false (f.pars.map nmW)).length+1+1) else .ok (([]:List Str),i+1+1+1+(wdJ false (f.pars.map nmW)).length+1)) (.ok (f.locs,i+1+1+1+(wdJ false (f.pars.map nmW)).length+1+(wdLc f.locs).length)):=by
  cases hq:f.locs with
  |nil=>
   rw[hq]at A
   have A:Dw ts _ ((3,[123])::_):=A
   rw[A.nokey (.inl (by decide))];exact .const _
  |cons x l=>
   rw[hq]at A
   have hl: ∀y∈x::l,vnm y.b=true:=fun y hy=>hn y (by rw[hq];simp only[a0e];exact .inr hy)
   have O:Dw ts (i+1+1+1+(wdJ false (f.pars.map nmW)).length+1) ((1,[118,97,114])::(wdJ false ((x::l).map nmW)++(3,[123])::(wdL f.body++(1,[114,101,116,117,114,110])::(wdE f.val++(3,[59])::(3,[125])::r)))):=by unfold wdLc at A;rw[if_pos (by simp)]at A;exact A
   rw[O.key]
   have:=pa_nam hl (hd_nc (by decide)) O.tl
   rw[show(wdLc (x::l)).length=1+(wdJ false ((x::l).map nmW)).length by unfold wdLc;rw[if_pos (by simp),a03,Nat.add_comm],←a0A]
   exact this
 unfold funM;rw[T.name (hn _ (by simp))];refine .seq (.const _) ?_;rw[U.exp];refine .seq (.const _) (.seq hp ?_);rw[Y.exp];refine .seq (.const _) (.seq hl ?_);rw[Z.exp];refine .seq (.const _) (.seq b (.seq v ?_));rw[d9.exp];refine .seq (.const _) ?_;rw[d9.tl.exp];have e:i+(wdFn f).length=i+1+1+1+(wdJ false (f.pars.map nmW)).length+1+(wdLc f.locs).length+1+(wdL f.body).length+1+(wdE f.val).length+1+1:=by unfold wdFn;simp only[a01,a03,a05];omega
 rw[e];exact .const _
theorem pa_a{a:ArrT}(A:vnm a.name.b=true)(E:1<=a.len/\a.len<=16)(d:Dw ts i (wdAr a++r)):isK ts i [97,114,114,97,121]=true/\eZ ts (i+1)= .ok (a.name,i+1+1)/\fQ ts (i+1+1)= .ok (a.len,i+1+1+1)/\fe ts [59] (i+1+1+1)= .ok ((),i+1+1+1+1):=by have d0:Dw ts i ((1,[97,114,114,97,121])::(1,a.name.b)::(2,dec a.len.toNat)::(3,[59])::r):=d;exact⟨d0.key,d0.tl.name A,small_of d0.tl.tl (by omega),d0.tl.tl.tl.exp⟩
theorem dw_lt{x:Wd}(d:Dw ts i (x::r)):i<ts.length:=by
 rcases a0k i ts.length with h|h
 ·exact h
 unfold Dw at d;rw[a0T h]at d;cases d
theorem pr_a{a:ArrT}{a0:List ArrT}{f0:List FunT}{R:Rs (List ArrT×List FunT)}(V:vnm a.name.b=true)(U:1<=a.len/\a.len<=16)(d:Dw ts i (wdAr a++r))(h:Lim (fun n=>hP ts n (a0++[a]) f0 (i+(wdAr a).length)) R):Lim (fun n=>hP ts n a0 f0 i) R:=by
 obtain⟨A,E,O,T⟩:=pa_a V U d;have hi:i<ts.length:=dw_lt (x:=(1,[97,114,114,97,121])) d;refine Lim.succ (g:=fun n=>bnd (eZ ts (i+1)) fun s i=>bnd (fQ ts i) fun k i=>bnd (fe ts [59] i) fun _ i=>hP ts n (a0++[⟨s,k⟩]) f0 i) ?_ fun n=>by rw[hP,if_neg (by omega),if_pos A]
 rw[E];refine .seq (.const _) ?_;rw[O];refine .seq (.const _) ?_;rw[T];exact .seq (.const _) h
theorem pr_f{f:FunT}{a0:List ArrT}{f0:List FunT}{R:Rs (List ArrT×List FunT)}(U:wfF f=true)(T:inF f)(d:Dw ts i (wdFn f++r))(h:Lim (fun n=>hP ts n a0 (f0++[f]) (i+(wdFn f).length)) R):Lim (fun n=>hP ts n a0 f0 i) R:=by
 obtain⟨A,E,O⟩:=pa_f U T d;have hi:i<ts.length:=dw_lt (x:=(1,[102,117,110,99])) d;refine Lim.succ (g:=fun n=>bnd (keyM ts [102,117,110,99] i) fun _ i=>bnd (funM ts n i) fun g i=>hP ts n a0 (f0++[g]) i) ?_ fun n=>by rw[hP,if_neg (by omega),if_neg (by rw[A];decide)]
 rw[show keyM ts [102,117,110,99] i= .ok ((),i+1) by unfold keyM;rw[if_pos E]];exact .seq (.const _) (.seq O h)
theorem pr_e{a0:List ArrT}{f0:List FunT}(d:Dw ts i [])(hi:i<=ts.length):Lim (fun n=>hP ts n a0 f0 i) (.ok ((a0,f0),i)):=by
 have:ts.length<=i:=by unfold Dw at d;have:=congrArg List.length d;rw[a1h,a0V,a05]at this;omega
 exact Lim.succ (g:=fun _=> .ok ((a0,f0),i)) (.const _) fun n=>by rw[hP,if_pos this]
end
def GdP(p:PrgT):Prop:=(∀a∈p.arrs,vnm a.name.b=true/\1<=a.len/\a.len<=16)/\∀f∈p.funs,wfF f=true/\inF f
def wdPr(p:PrgT):List Wd:=p.arrs.flatMap wdAr++p.funs.flatMap wdFn
theorem sc_p{p:PrgT}(h:GdP p){s:List UInt8}{ws:List Wd}(k:Sc s ws):Sc (txP p++s) (wdPr p++ws):=by
 have T: ∀l:List FunT,(∀f∈l,wfF f=true/\inF f)->Sc (l.flatMap fnT++s) (l.flatMap wdFn++ws):=by
  intro l;induction l with
  |nil=>intro _;exact k
  |cons f l ih=>
   intro h
   have:=sc_f (h f (a0i ..)).1 (h f (a0i ..)).2 (ih fun g O=>h g (a0c _ O))
   simpa using this
 have ha: ∀l:List ArrT,(∀a∈l,vnm a.name.b=true/\1<=a.len/\a.len<=16)->Sc (l.flatMap arT++(p.funs.flatMap fnT++s)) (l.flatMap wdAr++(p.funs.flatMap wdFn++ws)):=by
  intro l;induction l with
  |nil=>intro _;exact T _ h.2
  |cons a l ih=>
   intro h
   obtain⟨A,E⟩:=h a (a0i ..)
   have:=sc_a A E (ih fun g O=>h g (a0c _ O))
   simpa using this
 have:=ha _ h.1;unfold txP wdPr;simpa using this
theorem pr_p{ts:List Token}{p:PrgT}(h:GdP p){r:List Wd}{R:Rs (List ArrT×List FunT)}{i:Nat}{a0:List ArrT}{f0:List FunT}(d:Dw ts i (wdPr p++r))(k:Lim (fun n=>hP ts n (a0++p.arrs) (f0++p.funs) (i+(wdPr p).length)) R):Lim (fun n=>hP ts n a0 f0 i) R:=by
 have T: ∀(l:List FunT) (i:Nat) (a0:List ArrT) (f0:List FunT),(∀f∈l,wfF f=true/\inF f)->Dw ts i (l.flatMap wdFn++r)->Lim (fun n=>hP ts n a0 (f0++l) (i+(l.flatMap wdFn).length)) R->Lim (fun n=>hP ts n a0 f0 i) R:=by
  intro l;induction l with
  |nil=>intro i a0 f0 _ d k;simpa using k
  |cons f l ih=>
   intro i a0 f0 h d k
   rw[a1v,a0a]at d
   refine pr_f (h f (a0i ..)).1 (h f (a0i ..)).2 d (ih _ a0 (f0++[f]) (fun g O=>h g (a0c _ O)) d.app ?_)
   rw[a1v,a01,←a0A]at k
   rw[a0a];exact k
 have ha: ∀(l:List ArrT) (q:List Wd) (i:Nat) (a0:List ArrT) (f0:List FunT),(∀a∈l,vnm a.name.b=true/\1<=a.len/\a.len<=16)->Dw ts i (l.flatMap wdAr++q)->Lim (fun n=>hP ts n (a0++l) f0 (i+(l.flatMap wdAr).length)) R->Lim (fun n=>hP ts n a0 f0 i) R:=by
  intro l q;induction l with
  |nil=>intro i a0 f0 _ d k;simpa using k
  |cons a l ih=>
   intro i a0 f0 h d k
   rw[a1v,a0a]at d
   obtain⟨A,E⟩:=h a (a0i ..)
   refine pr_a A E d (ih _ (a0++[a]) f0 (fun g O=>h g (a0c _ O)) d.app ?_)
   rw[a1v,a01,←a0A]at k
   rw[a0a];exact k
 unfold wdPr at d k;rw[a0a]at d;refine ha p.arrs _ i a0 f0 h.1 d (T p.funs _ _ f0 h.2 d.app ?_);rw[a01,←a0A]at k;exact k
theorem sc_scan{s:List UInt8}{ws:List Wd}(O:s.length<=20000)(h:Sc s ws): ∃ts,aB s=(ts,0,0)/\ts.map wk=ws:=by obtain⟨l,A,E⟩:=h s 0 (s.length+1) rfl (a1b _);refine⟨l,?_,E⟩;unfold aB;rw[if_neg (by omega)];rw[a0R]at A;exact A
theorem par_lim{s:List UInt8}{ts:List Token}{p:PrgT}{e:ErrT}{x:List ArrT×List FunT}{j:Nat}(hs:aB s=(ts,0,0))(h:Lim (fun n=>hP ts n [] [] 0) (.ok (x,j)))(q:ParR s p e):p=⟨x.1,x.2⟩/\e=⟨0,0⟩:=by
 unfold ParR at q;rw[hs,if_pos rfl]at q;obtain⟨y,i,b,T,_,E,O⟩:=q;rcases T with⟨hb,l,_,k⟩|⟨_,l,_,k⟩
 ·have:=k.uniq h;injection this with A;injection A with A U;rw[hb]at E O;rw[←A];exact⟨E,O⟩
 have:=k.uniq h;cases this
theorem round{p q:PrgT}{e:ErrT}(h:GdP p)(T:(txP p).length<=20000)(r:ParR (txP p) q e):q=p/\e=⟨0,0⟩:=by
 have hs:=sc_p h Sc.nil;rw[a0p,a0p]at hs;obtain⟨ts,O,A⟩:=sc_scan T hs;have d:Dw ts 0 (wdPr p++[]):=by unfold Dw;rw[a0p];exact A
 have E:Dw ts (0+(wdPr p).length) []:=d.app;have U:(wdPr p).length=ts.length:=by rw[←A,a1h]
 have k:=pr_p h (a0:=[]) (f0:=[]) d (pr_e E (by omega));have:=par_lim O k r;exact⟨this.1,this.2⟩
end Go.Proofs.YtkpgbdkkgcdhmaaGreat.ru
