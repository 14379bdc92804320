/-
Plain laws: what the functions compute answers as the statement says. No condition beyond those that each statement names.
-/
import Derived.Test.YtkpgbdkkgcdhmaaGreatZPKP
import Derived.Test.YtkpgbdkkgcdhmaaGreatZPDH
import Derived.Test.YtkpgbdkkgcdhmaaGreatZPDP
noncomputable section
namespace Go.Proofs.YtkpgbdkkgcdhmaaGreat.ln
open Go.R w3 l1 pt ga gb ca cc cd ta tb bk km kp db dc dd de df dg dh dp
set_option linter.unusedVariables false
set_option linter.unusedSimpArgs false
open cb hiding jl jn
open da hiding jl jn
theorem kJ{α:Type} [Rp α] [Inhabited α]{F:Fz}{v:Value}{l:List α}(h:SR F v l){x:α}(A:x∈l): ∃cs,Rp.rep F cs x:=by obtain⟨i,hi,rfl⟩:=a1V A;obtain⟨cf,hc⟩:=h.view;have:=((hc i).1 default hi).1;rw[a0b,a09 hi]at this;exact⟨_,this⟩
mutual
def inE:ExpT->Prop
 |⟨_,n,_,_,ks⟩=>in64 n/\inEs ks
def inEs:List ExpT->Prop
 | []=>True
 |e::l=>inE e/\inEs l
end
mutual
def inS:StmT->Prop
 |⟨_,_,_,n,a,v,ar,t,e⟩=>in64 n/\inE a/\inE v/\inEs ar/\inSs t/\inSs e
def inSs:List StmT->Prop
 | []=>True
 |s::l=>inS s/\inSs l
end
theorem nr: ∀{l:List ExpT},(∀x∈l,inE x)->inEs l
 | [],_=>by rw[inEs];trivial
 |e::l,h=>by rw[inEs];exact⟨h e (by simp),nr fun x A=>h x (by simp[A])⟩
theorem ke: ∀{l:List StmT},(∀x∈l,inS x)->inSs l
 | [],_=>by rw[inSs];trivial
 |e::l,h=>by rw[inSs];exact⟨h e (by simp),ke fun x A=>h x (by simp[A])⟩
theorem inE_lv{F:Fz}: ∀d cs (x:ExpT),(ExpT.lv d).r F cs x->inE x
 |0,_,_,h=>h.elim
 |d+1,cs,x,⟨O,Z,e,U,A,a_,E⟩=>by
  have:inEs x.kids:=nr fun y hy=>by obtain⟨c,hc⟩:= @kJ ExpT (ExpT.lv d).rp _ _ _ _ E _ hy;exact inE_lv d c y hc
  cases x;rw[inE];exact⟨A,this⟩
theorem inE_rp{F:Fz}{cs:List Value}{x:ExpT}(h:Rp.rep F cs x):inE x:=by obtain⟨d,h⟩:=h;exact inE_lv d cs x h
theorem nq{F:Fz}{v:Value}{l:List ExpT}(h:SR F v l):inEs l:=nr fun x A=>by obtain⟨cs,hc⟩:=kJ h A;exact inE_rp hc
theorem inE_mk{e:ExpT}(h:in64 e.n)(k:inEs e.kids):inE e:=by cases e;rw[inE];exact⟨h,k⟩
theorem inS_lv{F:Fz}: ∀d cs (x:StmT),(StmT.lv d).r F cs x->inS x
 |0,_,_,h=>h.elim
 |d+1,cs,x,⟨a8,k8,a2,a6,a3,a7,a4,a9,a5,ba,e,h0,U,h2,a_,h4,h5,Z,h7,h8,h9,A,E,O⟩=>by
  have q1:inSs x.thn:=ke fun y hy=>by obtain⟨c,hc⟩:= @kJ StmT (StmT.lv d).rp _ _ _ _ E _ hy;exact inS_lv d c y hc
  have q2:inSs x.els:=ke fun y hy=>by obtain⟨c,hc⟩:= @kJ StmT (StmT.lv d).rp _ _ _ _ O _ hy;exact inS_lv d c y hc
  have q3:=inE_mk a_ (nq h8);have q4:=inE_mk Z (nq h9);have q5:=nq A;cases x;rw[inS];exact⟨U,q3,q4,q5,q1,q2⟩
theorem inSs_sr{F:Fz}{v:Value}{l:List StmT}(h:SR F v l):inSs l:=ke fun x A=>by obtain⟨cs,d,hc⟩:=kJ h A;exact inS_lv d cs x hc
def inP(p:PrgT):Prop:=(∀a∈p.arrs,in64 a.len)/\∀f∈p.funs,inSs f.body/\inE f.val
theorem inP_sr{F:Fz}{v w:Value}{p:PrgT}(A:SR F v p.arrs)(E:SR F w p.funs):inP p:=by
 refine⟨fun a ha=>?_,fun f hf=>?_⟩
 ·obtain⟨cs,rfl,hc⟩:=kJ A ha;exact hc
 obtain⟨cs,Z,k1,a2,k2,a3,k3,a8,k8,rfl,q0,O,q2,q3,q4,U,a_⟩:=kJ E hf;exact⟨inSs_sr U,inE_mk O (nq a_)⟩
mutual
theorem nd_bk: ∀e:ExpT,ndE e<=bkE e
 |⟨_,_,_,_,ks⟩=>by rw[ndE,bkE];have:=nds_bk ks;omega
theorem nds_bk: ∀l:List ExpT,ndEs l<=dv l
 | []=>by rw[ndEs,dv];exact a08 _
 |e::l=>by rw[ndEs,dv];have:=nd_bk e;have:=nds_bk l;omega
end
mutual
theorem ndS_bk: ∀s:StmT,ndS s<=bkS s
 |⟨_,_,_,_,a,v,ar,t,e⟩=>by rw[ndS,bkS];have:=nd_bk a;have:=nd_bk v;have:=nds_bk ar;have:=na t;have:=na e;omega
theorem na: ∀l:List StmT,ev l<=bX l
 | []=>by rw[ev,bX];exact a08 _
 |e::l=>by rw[ev,bX];have:=ndS_bk e;have:=na l;omega
end
mutual
theorem n5_bk: ∀e:ExpT,nE5 e+1<=2 *bkE e
 |⟨_,_,_,_,ks⟩=>by rw[nE5,bkE];have:=n5s_bk ks;omega
theorem n5s_bk: ∀l:List ExpT,nEs5 l<=2 *dv l
 | []=>by rw[nEs5,dv];exact a08 _
 |e::l=>by rw[nEs5,dv];have:=n5_bk e;have:=n5s_bk l;omega
end
mutual
theorem n5S_bk: ∀s:StmT,nS5 s+1<=2 *bkS s
 |⟨_,_,_,_,a,v,ar,t,e⟩=>by rw[nS5,bkS];have:=n5_bk a;have:=n5_bk v;have:=n5s_bk ar;have:=ng t;have:=ng e;omega
theorem ng: ∀l:List StmT,ne l<=2 *bX l
 | []=>by rw[ne,bX];exact a08 _
 |e::l=>by rw[ne,bX];have:=n5S_bk e;have:=ng l;omega
end
mutual
theorem nb_bk: ∀e:ExpT,bkE e<2000000000->nbE e/\nmE e
 |⟨_,_,nm,_,ks⟩,h=>by rw[bkE]at h;rw[nbE,nmE];have:=nbs_bk ks M;exact⟨⟨by omega,this.1⟩,by omega,this.2⟩
theorem nbs_bk: ∀l:List ExpT,dv l<2000000000->nbEs l/\nmEs l
 | [],_=>by rw[nbEs,nmEs];exact⟨trivial,trivial⟩
 |e::l,h=>by
  rw[dv]at h;rw[nbEs,nmEs];have A:=nb_bk e M;have E:=nbs_bk l M
  exact⟨⟨A.1,E.1⟩,A.2,E.2⟩
end
mutual
theorem nbS_bk: ∀s:StmT,bkS s<2000000000->nbS s/\nmS s
 |⟨_,nm,to,_,a,v,ar,t,e⟩,h=>by
  rw[bkS]at h;rw[nbS,nmS];have A:=nb_bk a M;have E:=nb_bk v M;have O:=nbs_bk ar M;have U:=kY t M;have a_:=kY e M
  exact⟨⟨by omega,by omega,A.1,E.1,O.1,U.1,a_.1⟩,by omega,by omega,A.2,E.2,O.2,U.2,a_.2⟩
theorem kY: ∀l:List StmT,bX l<2000000000->nbSs l/\nmSs l
 | [],_=>by rw[nbSs,nmSs];exact⟨trivial,trivial⟩
 |e::l,h=>by
  rw[bX]at h;rw[nbSs,nmSs];have A:=nbS_bk e M;have E:=kY l M
  exact⟨⟨A.1,E.1⟩,A.2,E.2⟩
end
theorem bkN_at: ∀{l:List Str} {s:Str},s∈l->s.b.length<=bkN l
 |x::l,s,h=>by
  rw[bkN];rcases a0o.1 h with rfl|h
  ·omega
  have:=bkN_at h;omega
theorem nH: ∀{l:List FunT} {f:FunT},f∈l->bkF f<=lP l
 |x::l,s,h=>by
  rw[lP];rcases a0o.1 h with rfl|h
  ·omega
  have:=nH h;omega
theorem bkAs_at: ∀{l:List ArrT} {f:ArrT},f∈l->bkA f<=i8 l
 |x::l,s,h=>by
  rw[i8];rcases a0o.1 h with rfl|h
  ·omega
  have:=bkAs_at h;omega
structure GdB(p:PrgT):Prop where
 b:bkP p<=1100000
 i:inP p
section
variable {p:PrgT}
theorem GdB.sn(h:GdB p):SnP p:=by
 have hb:=h.b;unfold bkP at hb;have E:=nI p.arrs;have O:=i7 p.funs
 refine⟨by omega,by omega,fun f hf=>?_⟩;have A:=nH hf;unfold bkF at A;have U:=cR f.pars;have a_:=cR f.locs;have Z:=na f.body;have q7:=nd_bk f.val
 exact⟨by omega,by omega,by omega,by omega⟩
theorem GdB.nb(h:GdB p):NbP p:=by
 have O:=h.b;unfold bkP at O;refine⟨fun a E=>?_,fun f U=>?_⟩
 ·have:=bkAs_at E;unfold bkA at this;omega
 have A:=nH U;unfold bkF at A;exact⟨by omega,fun s hs=>by have:=bkN_at hs;omega,fun s hs=>by have:=bkN_at hs;omega,(kY f.body M).1,(nb_bk f.val M).1⟩
theorem GdB.nm(h:GdB p):NmP p:=by
 have hb:=h.b;unfold bkP at hb;have E:=nI p.arrs;have O:=i7 p.funs
 refine⟨by omega,by omega,fun i hi=>?_,fun i hi=>?_⟩
 ·have:=bkAs_at (dO (l:=p.arrs) hi);unfold bkA at this;omega
 have A:=nH (dO (l:=p.funs) hi);unfold bkF at A;have U:=cR (p.funs.getD i default).pars;have a_:=cR (p.funs.getD i default).locs;have Z:=ng (p.funs.getD i default).body;have q7:=n5_bk (p.funs.getD i default).val
 exact⟨by omega,fun j hj=>by have:=bkN_at (dO (l:=(p.funs.getD i default).pars) hj);omega,fun j hj=>by have:=bkN_at (dO (l:=(p.funs.getD i default).locs) hj);omega,by omega,by omega,(kY (p.funs.getD i default).body M).2,(nb_bk (p.funs.getD i default).val M).2,by omega,by omega⟩
end
theorem txl_{n:Int}(h:in64 n):(cJ n).length<=20:=by
 unfold cJ;split
 ·rw[a01];have:=dec_len 18 n.natAbs M;omega
 have:=dec_len 18 n.toNat M;omega
theorem tx21{n:Int}(h:in64 n):(cJ n).length<=21:=Nat.le_succ_of_le (txl_ h)
def lns:List (List UInt8)->Nat
 | []=>0
 |t::l=>t.length+lns l
theorem lns3(ts:List (List UInt8)):(ts.getD 0 []).length+(ts.getD 1 []).length+(ts.getD 2 []).length<=lns ts:=by
 match ts with
 | []=>exact a08 _
 | [a]=>show a.length+0+0<=a.length+0;omega
 | [a,b]=>show a.length+b.length+0<=a.length+(b.length+0);omega
 |a::b::c::l=>show a.length+b.length+c.length<=a.length+(b.length+(c.length+lns l));omega
theorem opF_len(e:ExpT)(m:Bool)(t:List UInt8):(opF e m t).length<=t.length+2:=by
 unfold opF;split
 ·simp only[a00,a01,a03];omega
 omega
theorem opX_len(o:Int):(opX o).length<=3:=by
 unfold opX;rcases a0s (o-4).toNat opTx.length with h|h
 ·have: ∀s∈opTx,s.b.length<=3:=by decide
  exact this _ (dO h)
 rw[dG h];exact a0r _
theorem fmN_len{k n o:Int}{nm:List UInt8}{ks:List ExpT}{ts:List (List UInt8)}(h:in64 n):(fmN k n nm o ks ts).length<=lns ts+nm.length+21:=by
 have t:=tx21 h;have l:=lns3 ts;have a:=fun i m=>opF_len (ks.getD i default) m (ts.getD i [])
 have A:=a 0 false;have E:=a 1 false;have O:=a 2 false;have U:=a 0 true
 have x:=opX_len o;unfold fmN opK2;split
 ·omega
 split
 ·omega
 split
 ·simp only[a00,a01,a03];omega
 split
 ·simp only[a00,a01,a03];omega
 split
 ·simp only[a00,a01,a03];omega
 split
 ·simp only[a00,a01,a03];omega
 simp only[a00,a01,a03];omega
mutual
theorem fm_bk: ∀e:ExpT,inE e->(fmE e).length<=21 *bkE e
 |⟨k,n,nm,o,ks⟩,h=>by rw[inE]at h;rw[fmE,bkE];have:=fmN_len (k:=k) (nm:=nm.b) (o:=o) (ks:=ks) (ts:=hC ks) h.1;have:=fms_bk ks h.2;omega
theorem fms_bk: ∀l:List ExpT,inEs l->lns (hC l)<=21 *dv l
 | [],_=>a0r _
 |e::l,h=>by
  rw[inEs]at h;rw[hC,dv];have:=fm_bk e h.1;have:=fms_bk l h.2
  show(fmE e).length+lns (hC l)<=_;omega
end
theorem np: ∀(b:Bool) (l:List Str),(jnR b l).length<=bkN l *2
 |_,[]=>a0r _
 |b,x::l=>by have:=np true l;rw[jnR,bkN];cases b<;>simp only[a00,a01,a03,if_true,a0h,if_false]<;>omega
theorem bkN_strs: ∀ts:List (List UInt8),bkN (mS ts)=lns ts+ts.length
 | []=>rfl
 |t::l=>by
  have:=bkN_strs l;show 1+t.length+bkN (mS l)=t.length+lns l+(l.length+1)
  omega
theorem fmEs_len: ∀l:List ExpT,(hC l).length=l.length
 | []=>rfl
 |e::l=>by rw[hC];show(hC l).length+1=l.length+1;rw[fmEs_len l]
theorem fmK_len{s:StmT}{ind t e:List UInt8}(hi:ind.length<=42)(h:in64 s.n/\inE s.at_/\inE s.val/\inEs s.args):(ind++fmK s ind t e).length<=t.length+e.length+200 *(1+s.name.b.length+s.to.b.length+bkE s.at_+bkE s.val+dv s.args):=by
 obtain⟨A,E,O,U⟩:=h;have Z:=tx21 A;have t2:=fm_bk _ E;have t3:=fm_bk _ O;have t4:=fms_bk _ U
 have a_:=np false (mS (hC s.args));rw[bkN_strs,fmEs_len]at a_;have t6:=ko s.args;unfold fmK jn;repeat' split
 all_goals (simp only[a00,a01,a03];omega)
mutual
theorem fmS_bk: ∀(s:StmT) (k:Nat) (ind:List UInt8),inS s->dS s k<=20->ind.length=2 *k+2->(fmS s ind).length<=200 *bkS s
 |⟨kd,nm,to,n,a,v,ar,t,e⟩,k,ind,h,hd,hi=>by rw[inS]at h;rw[dS]at hd;rw[fmS,bkS];have E:=nt t (k+1) (ind++[32,32]) h.2.2.2.2.1 M (by rw[a00,hi];show 2 *k+2+2=_;omega);have O:=nt e (k+1) (ind++[32,32]) h.2.2.2.2.2 M (by rw[a00,hi];show 2 *k+2+2=_;omega);have A:=fmK_len (s:=⟨kd,nm,to,n,a,v,ar,t,e⟩) (ind:=ind) (t:=bU t (ind++[32,32])) (e:=bU e (ind++[32,32])) M ⟨h.1,h.2.1,h.2.2.1,h.2.2.2.1⟩;simp only at A;omega
theorem nt: ∀(l:List StmT) (k:Nat) (ind:List UInt8),inSs l->dSs l k<=20->ind.length=2 *k+2->(bU l ind).length<=200 *bX l
 | [],_,_,_,_,_=>by rw[bU];exact a0r _
 |s::l,k,ind,h,hd,hi=>by rw[inSs]at h;rw[dSs]at hd;rw[bU,bX,a00];have:=fmS_bk s k ind h.1 M hi;have:=nt l k ind h.2 M hi;omega
end
theorem dpG_at: ∀{l:List FunT} {f:FunT},dpG l=false->f∈l->dSs f.body 0<=20
 |x::l,f,h,hf=>by
  rw[dpG,a0Z]at h;rcases a0o.1 hf with rfl|hf
  ·have:=h.1;simp only[a0Z,decide_eq_false_iff_not]at this;omega
  exact dpG_at h.2 hf
theorem fn_len{f:FunT}(h:inSs f.body/\inE f.val)(hd:dSs f.body 0<=20):(fnT f).length<=300 *bkF f:=by have A:=nt f.body 0 [32,32] h.1 hd V;have E:=fm_bk f.val h.2;have O:=np false f.pars;have U:=np false f.locs;have a_:=cR f.pars;unfold fnT lcT jn bkF;split<;>simp only[a00,a01,a03]<;>omega
theorem fls_len: ∀{l:List FunT},(∀f∈l,(fnT f).length<=300 *bkF f)->(l.flatMap fnT).length<=300 *lP l
 | [],_=>a0r _
 |f::l,h=>by
  rw[List.flatMap_cons,a00,lP];have:=h f (by simp);have:=fls_len (l:=l) fun g A=>h g (by simp[A])
  omega
theorem als_len: ∀{l:List ArrT},(∀a∈l,in64 a.len)->(l.flatMap arT).length<=300 *i8 l
 | [],_=>a0r _
 |a::l,h=>by
  rw[List.flatMap_cons,a00,i8];have q:=tx21 (h a (by simp));have:=als_len (l:=l) fun g A=>h g (by simp[A])
  have e:(arT a).length<=300 *bkA a:=by unfold arT bkA;simp only[a00,a01,a03];omega
  omega
theorem GdB.len{p:PrgT}(h:GdB p)(c:chk p=0):(txP p).length<=2000000000:=by
 have O:=(ck_ok c).2;have Z:=h.b;unfold bkP at Z;unfold exL at O;simp only[a0Z]at O;unfold txP;rw[a00];have A:=als_len h.i.1;have E:=fls_len (l:=p.funs) fun f U=>fn_len (h.i.2 f U) (dpG_at O.2 U)
 omega
theorem GdB.len1{p:PrgT}(h:GdB p)(c:chk p=0):(txP p).length<=1099511627776:=a0k (h.len c) e_
theorem GdB.len5{p:PrgT}(h:GdB p)(c:ckP p=0):(txP p).length<=2000000000:=h.len ((ck_iff p).1 c)
theorem prs_eq(p:PrgT):prT5 p=prT p:=by
 unfold prT5 prT;by_cases h:ckP p=0
 ·rw[if_pos h,if_pos ((ck_iff p).1 h)]
 rw[if_neg h,if_neg fun k=>h ((ck_iff p).2 k)]
theorem GdB.of{p:PrgT}{F:Fz}{v w:Value}(O:bkP p<=1100000)(A:SR F v p.arrs)(E:SR F w p.funs):GdB p:=⟨O,inP_sr A E⟩
theorem bk_gen{l:List Int}:bkP (eQ l)<=1100000:=by
 have A:i8 (eQ l).arrs<=4:=bk_fs;have E:=bk_A l;have O:=bk_B l;have U:=bk_C l;have a_:=bk_D l
 unfold bkP;show i8 (eQ l).arrs+lP [⟨⟨[102]⟩,[⟨[120]⟩,⟨[121]⟩],[⟨[105]⟩,⟨[106]⟩],(progA l).1,(progB l).1⟩,⟨⟨[103]⟩,[⟨[110]⟩],[⟨[105]⟩],(progC l).1,(progD l).1⟩]<=_;simp only[lP,bkF,bkN,a01,a03];omega
end Go.Proofs.YtkpgbdkkgcdhmaaGreat.ln
