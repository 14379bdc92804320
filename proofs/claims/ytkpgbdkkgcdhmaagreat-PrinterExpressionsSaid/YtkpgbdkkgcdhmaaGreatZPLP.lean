/-
Plain laws: what the functions compute answers as the statement says. No condition beyond those that each statement names.
-/
import Derived.Test.YtkpgbdkkgcdhmaaGreatZPRU
import Derived.Test.YtkpgbdkkgcdhmaaGreatZPDH
noncomputable section
namespace Go.Proofs.YtkpgbdkkgcdhmaaGreat.lp
open Go.R w1 w3 l1 pt pa pb pc pd pe pf pg ca cc cd ta tb ga gp rt ru db dc dd de df dg dp dh
set_option linter.unusedVariables false
set_option linter.unusedSimpArgs false
open cb
open da hiding jl jn
def exP(e:ExpT):PrgT:=⟨[⟨⟨[97]⟩,1⟩,⟨⟨[98]⟩,1⟩],[⟨⟨[102]⟩,[⟨[120]⟩,⟨[121]⟩,⟨[105]⟩,⟨[106]⟩],[],[],e⟩]⟩
theorem nb_nm(e:ExpT):nbE e->nmE e:=exI (P:=fun e=>nbE e->nmE e) (fun e ih h=>by
 obtain⟨A,E⟩:=nb_e h;have key: ∀l:List ExpT,(∀x∈l,nbE x->nmE x)->lX l->nmEs l:=by
  intro l;induction l with
  |nil=>intro _ _;rw[nmEs];trivial
  |cons x l ih=>
   intro h k
   rw[lX]at k;rw[nmEs]
   exact⟨h x (a0i ..) k.1,ih (fun y O=>h y (a0c _ O)) k.2⟩
 have:=key _ ih E;cases e;rw[nmE];exact⟨A,this⟩) _ e (a06 _)
theorem nd5_eq(e:ExpT):nE5 e+1=2 *ndE e:=exI (P:=fun e=>nE5 e+1=2 *ndE e) (fun e ih=>by
 have key: ∀l:List ExpT,(∀x∈l,nE5 x+1=2 *ndE x)->nEs5 l=2 *gQ l:=by
  intro l;induction l with
  |nil=>intro _;rw[nEs5,gQ]
  |cons x l ih=>
   intro h
   rw[nEs5,gQ,ih fun y A=>h y (a0c _ A)]
   have:=h x (a0i ..);omega
 rw[nde5,nd_e,key _ ih];omega) _ e (a06 _)
section
variable {e:ExpT} (h:GE 0 4 e)
include h
theorem ex_b:ndE e<=121/\(fmE e).length<=2100/\dpE e<=20:=by
 have A:Nd 4<=121/\Ld 4<=2100:=by decide
 have:=h.nd;have:=h.len;have:=h.dp
 omega
theorem ex_chk:chk (exP e)=0:=by
 obtain⟨_,_,hd⟩:=ex_b h;have A:exL (exP e)=false:=by show(decide (4<2)||decide (8<1)||_||dpG [_])=false;rw[dpG,dpG];show((false||false)||false||((decide (6<4)||decide (8<0)||decide (200<nSs [])||decide (16<wSs [])||decide (20<dSs [] 0)||tdSs []||decide (20<dpE e))||false))=false;rw[decide_eq_false (show ¬20<dpE e by omega),nSs,wSs,dSs,tdSs];rfl
 have E:wfP (exP e)=true:=by show(true&&(wfF _&&true))=true;rw[wf_f];show(true&&((true&&fK []&&wfE e)&&true))=true;rw[fK,h.wf];rfl
 have O:dupP (exP e)=false:=rfl;have T:(exP e).funs.all (dfF (exP e))=true:=by show((dfSs (bz 0) abG (exP e) []&&dfE (bz 0) abG e)&&true)=true;rw[dfSs,h.df];rfl
 have U:(exP e).funs.all (arF (exP e))=true:=by show(arSs (exP e) []&&true)=true;rw[arSs];rfl
 exact ck_0 A E O T U
theorem ex_ck:ckP (exP e)=0:=(ck_iff _).2 (ex_chk h)
theorem ex_gd:GdP (exP e):=by
 refine⟨by intro a ha;simp[exP]at ha;rcases ha with rfl|rfl<;>decide,fun f A=>?_⟩;simp only[exP,a0E]at A;subst A;refine⟨?_,?_,h.ie⟩
 ·rw[wf_f];show(true&&fK []&&wfE e)=true;rw[fK,h.wf];rfl
 show inL [];rw[inL];trivial
theorem ex_sn:SnP (exP e):=by obtain⟨E,_,_⟩:=ex_b h;refine⟨by show 2<1000000000;decide,by show 1<1000000000;decide,fun f A=>?_⟩;simp only[exP,a0E]at A;subst A;refine⟨by show 4<_;decide,by show 0<_;decide,?_,by show ndE e<_;omega⟩;show kz []<_;rw[kz];decide
theorem ex_nm:NmP (exP e):=by
 obtain⟨A,_,_⟩:=ex_b h;refine⟨by show 2<_;decide,by show 1<_;decide,?_,?_⟩
 ·intro i hi;have hi:i<2:=hi
  rcases i with _|_|i
  ·show 1<_;decide
  ·show 1<_;decide
  omega
 intro i hi;have hi:i<1:=hi
 obtain rfl:i=0:=by omega
 refine⟨by show 1<_;decide,?_,?_,by show 4<_;decide,by show 0<_;decide,?_,?_,?_,?_⟩
 ·intro i hi;have hi:i<4:=hi
  rcases i with _|_|_|_|i
  ·show 1<_;decide
  ·show 1<_;decide
  ·show 1<_;decide
  ·show 1<_;decide
  omega
 ·intro i hi;exact absurd hi (Nat.not_lt_zero _)
 ·show nmSs [];rw[nmSs];trivial
 ·exact nb_nm e h.nb
 ·show nSs5 []<_;rw[nSs5];decide
 have:=nd5_eq e;show nE5 e<_;omega
theorem ex_len:(txP (exP e)).length<=20000:=by
 obtain⟨_,O,_⟩:=ex_b h;have A:txP (exP e)=[97,114,114,97,121,32,97,32]++bS 1++[59,10,97,114,114,97,121,32,98,32]++bS 1++[59,10]++([102,117,110,99,32,102,40,120,44,32,121,44,32,105,44,32,106,41,32,123,10,32,32,114,101,116,117,114,110,32]++fmE e++[59,10,125,10]):=by unfold txP exP arT fnT lcT;simp[jn,jnR,il]
 have E:bS 1=[49]:=by unfold bS;rw[if_neg (by decide)];exact du (by decide)
 rw[A,E];simp only[a01,a03,a05];omega
theorem jA{q:PrgT}{f:ErrT}(r:ParR (prT5 (exP e)) q f):q=exP e/\f=⟨0,0⟩:=by
 have:prT5 (exP e)=txP (exP e):=by unfold prT5;rw[if_pos (ex_ck h)]
 rw[this]at r;exact round (ex_gd h) (ex_len h) r
end
end Go.Proofs.YtkpgbdkkgcdhmaaGreat.lp
