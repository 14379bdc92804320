/-
Plain laws: what the functions compute answers as the statement says. No condition beyond those that each statement names.
-/
import Derived.Test.YtkpgbdkkgcdhmaaGreatZPDF
import Derived.Test.YtkpgbdkkgcdhmaaGreatZPTB
import Derived.Test.YtkpgbdkkgcdhmaaGreatZPPH
noncomputable section
namespace Go.Proofs.YtkpgbdkkgcdhmaaGreat.dp
open Go.R w1 w3 l1 pt ca cc cd ta tb db dc dd de df
set_option linter.unusedVariables false
set_option linter.unusedSimpArgs false
open cb hiding jl jn
open da hiding jl jn
theorem fk_name{u:List UInt8}(h:(au u).1=1):inNm (au u).2.1=true/\0<aN u:=by
 unfold au at h⊢;split at h
 ·split at h<;>first|exact absurd (show(3:Int)=1 from h) e_|exact absurd (show(2:Int)=1 from h) e_|exact absurd (show(0:Int)=1 from h) e_
 next A=>
 split at h
 ·split at h<;>first|exact absurd (show(3:Int)=1 from h) e_|exact absurd (show(2:Int)=1 from h) e_|exact absurd (show(0:Int)=1 from h) e_
 next E=>
 split at h
 ·exact absurd h e_
 next O=>
 rw[if_neg A,if_neg E,if_neg O];refine⟨?_,by omega⟩;have e:u.take (aN u)=u.takeWhile bT:=by unfold aN;exact(List.prefix_iff_eq_take.1 (List.takeWhile_prefix _)).symm
 unfold inNm;simp only[a06,decide_eq_true_eq];have hl:(u.take (aN u)).length=aN u:=by rw[a0S];have:=ji u;omega
 refine⟨⟨⟨?_,by rw[e];exact List.all_takeWhile⟩,by omega⟩,by omega⟩;have Z:=(ph.word_head (s:=u)).2 A;have U:(u.take (aN u)).getD 0 0=u.getD 0 0:=by
  cases u with
  |nil=>rfl
  |cons c u=>obtain⟨m,hm⟩: ∃m,aN (c::u)=m+1:=⟨aN (c::u)-1,by omega⟩;rw[hm];rfl
 rw[U];unfold bT at Z;cases hd:bK (u.getD 0 0) with
 |true=>exact absurd hd E
 |false=>rw[hd,Bool.or_false]at Z;exact Z
theorem sc_no{s:List UInt8}(h:scK s=false):inNm s=true:=by
 unfold scK at h;simp only[a0Z,bne_eq_false_iff_eq]at h;obtain⟨⟨⟨A,E⟩,O⟩,U⟩:=h;unfold cm at A E O U;by_cases hl:20000<s.length
 ·rw[if_pos hl]at A;exact absurd A e_
 rw[if_neg hl]at A E O U;rw[gi]at A E O U;by_cases ha:spl false s<s.length
 ·rw[if_pos ha]at A E O U;by_cases he:(au (s.drop (spl false s))).2.2=0
  ·rw[if_pos he]at A E O U;unfold consT at A E O U;split at A
   ·next hr=>
    rw[if_pos hr]at O U;have a_:(au (s.drop (spl false s))).1=1:=O;have Z:(au (s.drop (spl false s))).2.1=s:=U;have:=(fk_name a_).1;rwa [Z]at this
   next hr=>exact absurd A hr
  rw[if_neg he]at A;exact absurd A he
 rw[if_neg ha]at E;exact absurd E e_
theorem nm_sc{s:List UInt8}(h:inNm s=true):cm s=([⟨1,⟨s⟩,0⟩],0,0):=by
 unfold inNm at h;simp only[a06,decide_eq_true_eq]at h;obtain⟨⟨⟨A,E⟩,O⟩,U⟩:=h;have hw:aN s=s.length:=by exact(gf (a08 _) (by rw[a0T];exact E) (fun h=>absurd h (Nat.lt_irrefl _))).symm
 have hd:bK (s.getD 0 0)=false:=by
  generalize s.getD 0 0=c at A;cases e:bK c with
  |false=>rfl
  |true=>
   unfold bN at A;unfold bK at e
   simp only[a06,a0P,decide_eq_true_eq,beq_iff_eq]at A e
   omega
 have hs:spl false s=0:=by
  cases s with
  |nil=>rfl
  |cons c s=>
   have A:bN c=true:=A
   rw[spl]
   unfold bN at A
   simp only[a06,a0P,decide_eq_true_eq,beq_iff_eq]at A
   rw[if_neg,if_neg]
   ·rintro rfl;exact absurd A e_
   rintro(rfl|rfl|rfl|rfl)<;>exact absurd A e_
 have Z:au s=(1,s,0):=by unfold au;rw[if_neg M,if_neg (by rw[hd];decide),if_neg M,hw,a0T]
 unfold cm;rw[if_neg M,hs,gi,if_pos M,a0I,Z];rw[if_pos rfl];show consT ⟨1,⟨s⟩,((0:Nat):Int)⟩ (gi s.length s (0+s.length+spl false (s.drop (0+s.length))))=_;rw[a0H,a1f (a08 _)];have:gi s.length s (s.length+spl false [])=([],0,0):=by
  show gi s.length s (s.length+0)=_;cases hn:s.length with
  |zero=>omega
  |succ n=>rw[gi,if_neg M]
 rw[this];rfl
theorem sc_eq(s:List UInt8):scK s= !inNm s:=by
 cases h:scK s with
 |false=>rw[sc_no h];rfl
 |true=>
  cases k:inNm s with
  |false=>rfl
  |true=>
   unfold scK at h;rw[nm_sc k]at h
   simp at h
theorem rs_eq(s:List UInt8):rsK s=resV s:=by unfold rsK resV pt.resL;rw[a11];simp only[a0P,beq_iff_eq,decide_eq_true_eq,a0o,a0a,or_false,or_assoc]
theorem vn_eq(s:List UInt8):vnK s=vnm s:=by unfold vnK vnm;rw[sc_eq,rs_eq,a1t]
theorem wx_eq(e:ExpT):wxE e=wfN e.kind e.n e.name.b e.op (e.kids.length:Int):=by
 unfold wxE wfN;rw[vn_eq];by_cases A:e.kind=1
 ·rw[if_pos A,if_pos A];ac_rfl
 rw[if_neg A,if_neg A];by_cases a_:e.kind=5
 ·rw[if_pos a_,if_neg M,if_neg M,if_neg M,if_pos a_];ac_rfl
 rw[if_neg a_];by_cases U:e.kind=4
 ·rw[if_pos U,if_neg M,if_neg M,if_pos U];congr 1;unfold opK5 binO;by_cases Z:e.op=20
  ·rw[Z];simp
  by_cases o2:e.op=21
  ·rw[o2];simp
  rw[if_neg (by simp[Z,o2])];have a1:(e.op==20)=false:=by simpa using Z
  have a2:(e.op==21)=false:=by simpa using o2
  rw[a1,a2];simp[Bool.and_comm]
 rw[if_neg U];by_cases E:e.kind=2
 ·rw[if_pos E,if_pos E];ac_rfl
 rw[if_neg E,if_neg E];by_cases O:e.kind=3
 ·rw[if_pos O,if_pos O];ac_rfl
 rw[if_neg O,if_neg O,if_neg U,if_neg a_]
theorem wks_eq{m:ExpT->Int->Bool}{q:ExpT->Bool}{d:Int}: ∀{l:List ExpT},(∀x∈l,wkE m x d=q x)->wkEs m l d=l.all q
 | [],_=>by rw[wkEs];rfl
 |e::l,h=>by rw[wkEs,h e (a0E ..),wks_eq (l:=l) fun x A=>h x (a0g _ A)];rfl
theorem wfs_all: ∀l:List ExpT,hU l=l.all wfE
 | []=>by rw[hU];rfl
 |e::l=>by rw[hU,wfs_all l];rfl
theorem wk_wf(e:ExpT): ∀d,wkE (fun x _=>wxE x) e d=wfE e:=exI (P:=fun e=> ∀d,wkE (fun x _=>wxE x) e d=wfE e) (fun e h d=>by
 rw[wk_e,wx_eq,wf_e,wks_eq (q:=wfE) (fun x A=>h x A _),wfs_all,Bool.and_comm]) _ e (a08 _)
theorem wfX_eq(e:ExpT):wfX e=wfE e:=wk_wf e 0
theorem wfX_f:wfX=wfE:=funext wfX_eq
theorem dps_all{n:Nat}: ∀l:List ExpT,(decide (n+dpEs l<=20))=(decide (n<=20)&&l.all fun x=>decide (n+(1+dpE x)<=20))
 | []=>by rw[dpEs];simp
 |e::l=>by have:=dps_all (n:=n) l;rw[dpEs,a0f];generalize l.all (fun x=>decide (n+(1+dpE x)<=20))=b at this⊢;rw[a11]at this⊢;cases b<;>simp only[a06,decide_eq_true_eq,a0A,a1m,a0h,iff_false,and_false]at this⊢ <;>omega
theorem wk_dp(e:ExpT): ∀n:Nat,wkE (fun _ d=>decide (d<=20)) e (n:Int)=decide (n+dpE e<=20):=exI (P:=fun e=> ∀n:Nat,wkE (fun _ d=>decide (d<=20)) e (n:Int)=decide (n+dpE e<=20)) (fun e h n=>by
 rw[wk_e,dp_e,dps_all,wks_eq (q:=fun x=>decide (n+(1+dpE x)<=20)) (fun x A=>by
  have:=h x A (n+1);rw[show((n:Int)+1)=((n+1:Nat):Int) by omega,this];congr 1;rw[a0Q])]
 congr 1;rw[decide_eq_decide];omega) _ e (a08 _)
mutual
def alS(q:StmT->Bool):StmT->Bool
 |⟨k,nm,to,n,a,v,ar,t,e⟩=>q ⟨k,nm,to,n,a,v,ar,t,e⟩&&alL q t&&alL q e
def alL(q:StmT->Bool):List StmT->Bool
 | []=>true
 |s::l=>alS q s&&alL q l
end
theorem al_s{q:StmT->Bool}(s:StmT):alS q s=(q s&&alL q s.thn&&alL q s.els):=by cases s;rw[alS]
theorem ey{q:StmT->Bool}: ∀l:List StmT,alL q l=l.all (alS q)
 | []=>by rw[alL];rfl
 |s::l=>by rw[alL,ey l];rfl
theorem hL{α:Type}{q r:α->Bool}: ∀{l:List α},(∀x∈l,q x=r x)->l.all q=l.all r
 | [],_=>rfl
 |x::l,h=>by rw[a0f,a0f,h x (a0E ..),hL (l:=l) fun y A=>h y (a0g _ A)]
theorem al_cg{q:StmT->Bool}{Q:StmT->Bool}(O: ∀s,Q s=(q s&&s.thn.all Q&&s.els.all Q))(s:StmT):Q s=alS q s:=stI (P:=fun s=>Q s=alS q s) (fun s A E=>by
 rw[O,al_s,ey,ey,hL A,hL E]) _ s (a08 _)
theorem al_and{q r:StmT->Bool}(s:StmT):(alS q s&&alS r s)=alS (fun s=>q s&&r s) s:=al_cg (Q:=fun s=>alS q s&&alS r s) (fun s=>by
 have key: ∀l:List StmT,(l.all fun s=>alS q s&&alS r s)=(l.all (alS q)&&l.all (alS r)):=by
  intro l;induction l with
  |nil=>rfl
  |cons x l ih=>rw[a0f,a0f,a0f,ih];ac_rfl
 rw[key,key,al_s,al_s,ey,ey,ey,ey];ac_rfl) s
theorem alL_and{q r:StmT->Bool}: ∀l:List StmT,(alL q l&&alL r l)=alL (fun s=>q s&&r s) l
 | []=>by rw[alL,alL,alL];rfl
 |s::l=>by rw[alL,alL,alL,←alL_and l,←al_and];ac_rfl
section
variable {σ:Type} {g:σ->StmT->σ}
mutual
def fdS(g:σ->StmT->σ):StmT->σ->σ
 |⟨k,nm,to,n,a,v,ar,t,e⟩,w=>fdL g e (fdL g t (g w ⟨k,nm,to,n,a,v,ar,t,e⟩))
def fdL(g:σ->StmT->σ):List StmT->σ->σ
 | [],w=>w
 |s::l,w=>fdL g l (fdS g s w)
end
theorem fd_s(s:StmT)(w:σ):fdS g s w=fdL g s.els (fdL g s.thn (g w s)):=by cases s;rw[fdS]
variable {m:σ->StmT->Int->σ×Bool} {q:StmT->Bool}
theorem mL: ∀{l:List StmT},(∀s∈l,∀w d,(wsS m s w d).2=alS q s/\(alS q s=true->(wsS m s w d).1=fdS g s w))->∀w d,(wsL m l w d).2=alL q l/\(alL q l=true->(wsL m l w d).1=fdL g l w)
 | [],_,w,d=>by rw[wsL,alL,fdL];exact⟨V,fun _=>rfl⟩
 |s::l,h,w,d=>by
  obtain⟨A,E⟩:=h s (a0E ..) w d;have ih:=mL (l:=l) fun x O=>h x (a0g _ O)
  rw[wsL,alL,fdL];rcases e:wsS m s w d with⟨a,b⟩;rw[e]at A E;cases b with
  |false=>rw[←A];exact⟨V,fun k=>by cases k⟩
  |true=>
   have A:true=alS q s:=A
   rw[←A,a1C]
   have:=E A.symm
   rw[←show a=fdS g s w from this]
   exact ih a d
theorem wss_gen(O: ∀w s d,m w s d=(g w s,q s))(s:StmT): ∀w d,(wsS m s w d).2=alS q s/\(alS q s=true->(wsS m s w d).1=fdS g s w):=stI (P:=fun s=> ∀w d,(wsS m s w d).2=alS q s/\(alS q s=true->(wsS m s w d).1=fdS g s w)) (fun s A E w d=>by
 rw[ws_s,O,al_s,fd_s];cases U:q s with
 |false=>exact⟨V,fun k=>by cases k⟩
 |true=>
  rw[a1C]
  obtain⟨k1,k2⟩:=mL A (g w s) (d+1)
  dsimp only
  rcases e:wsL m s.thn (g w s) (d+1) with⟨a,b⟩
  rw[e]at k1 k2
  cases b with
  |false=>rw[←k1];exact⟨V,fun k=>by cases k⟩
  |true=>
   have k1:true=alL q s.thn:=k1
   rw[←k1,a1C]
   rw[←show a=fdL g s.thn (g w s) from k2 k1.symm]
   exact mL E a (d+1)) _ s (a08 _)
theorem ws_gen(A: ∀w s d,m w s d=(g w s,q s))(l:List StmT)(w:σ)(d:Int):(wsL m l w d).2=alL q l/\(alL q l=true->(wsL m l w d).1=fdL g l w):=mL (fun s _=>wss_gen A s) w d
end
theorem wp_al(q:StmT->Bool)(l:List StmT)(d:Int):wpL (fun s _=>q s) l d=alL q l:=(ws_gen (g:=fun w _=>w) (q:=q) (fun _ _ _=>rfl) l () d).1
theorem len_z{α:Type}(l:List α):decide ((0:Int)<(l.length:Int))= !((l.length:Int)==0):=by
 cases l with
 |nil=>rfl
 |cons x l=>simp;omega
theorem nm_t(s:List UInt8):nmF s true=vnm s:=vn_eq s
theorem nm_f(s:List UInt8):nmF s false=(s==[]):=by cases s<;>rfl
theorem ex_t(e:ExpT):exF e true=wfE e:=wfX_eq e
theorem ex_f(e:ExpT):exF e false=isZ e:=by cases e;rfl
theorem hM{s:StmT}(w:FdT)(E:fdK s.kind=w)(A:fdO s.kind=true):wsK s=(nmF s.name.b w.name&&nmF s.to.b w.to&&exF s.at_ w.at_&&exF s.val w.val&&(!(decide (s.n<0)||decide ((1000000:Int)<s.n))&&(w.n||s.n==0))&&(w.args||(s.args.length:Int)==0)&&(w.thn||(s.thn.length:Int)==0)&&(w.els||(s.els.length:Int)==0)&&hU s.args):=by unfold wsK ws1 ws2;rw[E,A,len_z,len_z,len_z,wfX_f,wfs_all];have e:(s.n !=0)= !(s.n==0):=rfl;rw[e];simp only[a1X,Bool.not_and,a1t,a1x,a1g];ac_rfl
theorem n_z(n:Int):(!(decide (n<0)||decide ((1000000:Int)<n))&&(n==0))=(n==0):=by rw[a11];simp;omega
theorem n_r(n:Int):(!(decide (n<0)||decide ((1000000:Int)<n)))=(decide (0<=n)&&decide (n<=1000000)):=by rw[a11];simp
theorem ws_wfa(s:StmT):wsK s=wfA s:=by
 unfold wfA;by_cases A:s.kind=1
 ·rw[hM _ V (by rw[A];rfl),wfK,if_pos A,A];show(nmF _ true&&nmF _ false&&exF _ false&&exF _ true&&(_&&(false||_))&&(false||_)&&(false||_)&&(false||_)&&_)=_;unfold flS;simp only[nm_t,nm_f,ex_t,ex_f,a1g,n_z];ac_rfl
 by_cases E:s.kind=2
 ·rw[hM _ V (by rw[E];rfl),wfK,if_neg A,if_pos E,E];show(nmF _ true&&nmF _ false&&exF _ true&&exF _ true&&(_&&(false||_))&&(false||_)&&(false||_)&&(false||_)&&_)=_;unfold flS;simp only[nm_t,nm_f,ex_t,ex_f,a1g,n_z];ac_rfl
 by_cases O:s.kind=3
 ·rw[hM _ V (by rw[O];rfl),wfK,if_neg A,if_neg E,if_pos O,O];show(nmF _ false&&nmF _ false&&exF _ false&&exF _ true&&(_&&(false||_))&&(false||_)&&(true||_)&&(true||_)&&_)=_;unfold onV;simp only[nm_t,nm_f,ex_t,ex_f,a1g,a1P,a0A,n_z];ac_rfl
 by_cases U:s.kind=4
 ·rw[hM _ V (by rw[U];rfl),wfK,if_neg A,if_neg E,if_neg O,if_pos U,U];show(nmF _ false&&nmF _ false&&exF _ false&&exF _ true&&(_&&(false||_))&&(false||_)&&(true||_)&&(false||_)&&_)=_;unfold onV;simp only[nm_t,nm_f,ex_t,ex_f,a1g,a1P,a0A,n_z];ac_rfl
 by_cases a_:s.kind=5
 ·rw[hM _ V (by rw[a_];rfl),wfK,if_neg A,if_neg E,if_neg O,if_neg U,if_pos a_,a_];show(nmF _ false&&nmF _ false&&exF _ false&&exF _ true&&(_&&(false||_))&&(false||_)&&(false||_)&&(false||_)&&_)=_;unfold onV flS;simp only[nm_t,nm_f,ex_t,ex_f,a1g,a1P,a0A,n_z];ac_rfl
 by_cases Z:s.kind=6
 ·rw[hM _ V (by rw[Z];rfl),wfK,if_neg A,if_neg E,if_neg O,if_neg U,if_neg a_,if_pos Z,Z];show(nmF _ true&&nmF _ true&&exF _ false&&exF _ false&&(_&&(false||_))&&(true||_)&&(false||_)&&(false||_)&&_)=_;unfold flS;simp only[nm_t,nm_f,ex_t,ex_f,a1g,a1P,a0A,n_z];ac_rfl
 by_cases h7:s.kind=7
 ·rw[hM _ V (by rw[h7];rfl),wfK,if_neg A,if_neg E,if_neg O,if_neg U,if_neg a_,if_neg Z,if_pos h7,h7];show(nmF _ false&&nmF _ false&&exF _ false&&exF _ false&&(_&&(true||_))&&(false||_)&&(false||_)&&(false||_)&&_)=_;unfold flS;simp only[nm_t,nm_f,ex_t,ex_f,a1g,a1P,a0A,n_r];ac_rfl
 have ho:fdO s.kind=false:=by unfold fdO;simp;omega
 unfold wsK ws1;rw[ho,wfK,if_neg A,if_neg E,if_neg O,if_neg U,if_neg a_,if_neg Z,if_neg h7];simp
theorem mK: ∀l:List StmT,dJ l=l.all wfS
 | []=>by rw[dJ];rfl
 |s::l=>by rw[dJ,mK l];rfl
theorem wp_wf(l:List StmT)(d:Int):wpL (fun s _=>wsK s) l d=dJ l:=by rw[wp_al,mK,ey];exact hL fun s _=>(al_cg (q:=wsK) (Q:=wfS) (fun s=>by rw[wf_s,mK,mK,ws_wfa]) s).symm
theorem wfF_eq(f:FunT):wfF5 f=wfF f:=by
 unfold wfF5 wfF;have e:(fun s:Str=>vnK s.b)=fun s=>vnm s.b:=funext fun s=>vn_eq s.b
 rw[wp_wf,wfX_eq,vn_eq,a1H,a1H,e];simp only[a1X,a1t,a0f,a1i,a0A];ac_rfl
theorem wfP_eq(p:PrgT):wfPr p=wfP p:=by
 unfold wfPr wfP;have e:(fun a:ArrT=>vnK a.name.b)=fun a=>vnm a.name.b:=funext fun a=>vn_eq a.name.b
 rw[e,show wfF5=wfF from funext wfF_eq]
theorem lm_s{n k:Nat}(E:n<=200)(A:k<=16)(s:StmT)(d:Nat):lmS ((n:Int),(k:Int)) s (d:Int)=((((n+1:Nat):Int),((k+(if s.kind=4 then 1 else 0):Nat):Int)),decide (d<=20/\n+1<=200/\k+(if s.kind=4 then 1 else 0)<=16)):=by
 have e:lmN ((n:Int),(k:Int)) s=(((n+1:Nat):Int),((k+(if s.kind=4 then 1 else 0):Nat):Int)):=by unfold lmN;rw[lK (n:=(n:Int)+1) M,lK (n:=(k:Int)+1) M];split<;>rfl
 unfold lmS;rw[e];congr 1;rw[a11];simp only[a06,decide_eq_true_eq];generalize (if s.kind=4 then 1 else 0)=z;omega
def LmA(s:StmT):Prop:= ∀(n k d:Nat),n<=200->k<=16->(wsS lmS s ((n:Int),(k:Int)) (d:Int)).2=decide (n+nS s<=200/\k+wS s<=16/\dS s d<=20)/\((wsS lmS s ((n:Int),(k:Int)) (d:Int)).2=true->(wsS lmS s ((n:Int),(k:Int)) (d:Int)).1=(((n+nS s:Nat):Int),((k+wS s:Nat):Int)))
theorem lm_l: ∀{l:List StmT},(∀s∈l,LmA s)->∀(n k d:Nat),n<=200->k<=16->(wsL lmS l ((n:Int),(k:Int)) (d:Int)).2=decide (n+nSs l<=200/\k+wSs l<=16/\dSs l d<=20)/\((wsL lmS l ((n:Int),(k:Int)) (d:Int)).2=true->(wsL lmS l ((n:Int),(k:Int)) (d:Int)).1=(((n+nSs l:Nat):Int),((k+wSs l:Nat):Int)))
 | [],_,n,k,d,hn,hk=>by rw[wsL,nSs,wSs,dSs];exact⟨(decide_eq_true ⟨by omega,by omega,by omega⟩).symm,fun _=>rfl⟩
 |s::l,h,n,k,d,hn,hk=>by
  obtain⟨A,E⟩:=h s (a0E ..) n k d hn hk;rw[wsL,nSs,wSs,dSs];rcases e:wsS lmS s ((n:Int),(k:Int)) (d:Int) with⟨a,b⟩;rw[e]at A E;cases b with
  |false=>
   refine⟨?_,fun q=>by cases q⟩
   have A:false=decide (n+nS s<=200/\k+wS s<=16/\dS s d<=20):=A
   have:=of_decide_eq_false A.symm
   exact(decide_eq_false (fun q=>this ⟨by omega,by omega,by omega⟩)).symm
  |true=>
   have A:true=decide (n+nS s<=200/\k+wS s<=16/\dS s d<=20):=A
   have q:=of_decide_eq_true A.symm
   have E:a=(((n+nS s:Nat):Int),((k+wS s:Nat):Int)):=E V
   subst E
   obtain⟨O,U⟩:=lm_l (l:=l) (fun x Z=>h x (a0g _ Z)) (n+nS s) (k+wS s) d q.1 q.2.1
   dsimp only
   refine⟨O.trans ?_,fun z=>(U z).trans ?_⟩
   ·rw[decide_eq_decide];omega
   rw[a0Q,a0Q]
theorem lm_a(s:StmT):LmA s:=stI (P:=LmA) (fun s O U n k d hn hk=>by
 have hd:dS s d=max d (max (dSs s.thn (d+1)) (dSs s.els (d+1))):=by cases s;rw[dS]
 rw[ws_s,lm_s hn hk,n_s,w_s,hd];generalize hz:(if s.kind=4 then 1 else 0)=z;by_cases c:d<=20/\n+1<=200/\k+z<=16
 ·rw[decide_eq_true c];dsimp only;obtain⟨A,E⟩:=lm_l O (n+1) (k+z) (d+1) c.2.1 c.2.2;rw[show((d:Int)+1)=((d+1:Nat):Int) by omega];rcases e:wsL lmS s.thn (((n+1:Nat):Int),((k+z:Nat):Int)) ((d+1:Nat):Int) with⟨a,b⟩;rw[e]at A E;cases b with
  |false=>
   refine⟨?_,fun q=>by cases q⟩
   have A:false=decide (n+1+nSs s.thn<=200/\k+z+wSs s.thn<=16/\dSs s.thn (d+1)<=20):=A
   have:=of_decide_eq_false A.symm
   exact(decide_eq_false (fun q=>this ⟨by omega,by omega,by omega⟩)).symm
  |true=>
   have A:true=decide (n+1+nSs s.thn<=200/\k+z+wSs s.thn<=16/\dSs s.thn (d+1)<=20):=A
   have q:=of_decide_eq_true A.symm
   have E:a=(((n+1+nSs s.thn:Nat):Int),((k+z+wSs s.thn:Nat):Int)):=E V
   subst E
   obtain⟨a_,Z⟩:=lm_l U (n+1+nSs s.thn) (k+z+wSs s.thn) (d+1) q.1 q.2.1
   dsimp only
   refine⟨a_.trans ?_,fun z=>(Z z).trans ?_⟩
   ·rw[decide_eq_decide];omega
   congr 2<;>omega
 rw[decide_eq_false c];refine⟨(decide_eq_false (fun q=>c ⟨by omega,by omega,by omega⟩)).symm,fun q=>by cases q⟩) _ s (a08 _)
theorem td_al(s:StmT):(!tdS s)=alS (weS fun _ d=>decide (d<=20)) s:=al_cg (Q:=fun s=> !tdS s) (fun s=>by
 have key: ∀l:List StmT,cV l= !l.all fun s=> !tdS s:=by
  intro l;induction l with
  |nil=>rw[cV];rfl
  |cons x l ih=>rw[cV,ih,a0f,Bool.not_and,a1t]
 have A: ∀e:ExpT,wkE (fun _ d=>decide (d<=20)) e 0= !decide (20<dpE e):=fun e=>by have:=wk_dp e 0;rw[show((0:Nat):Int)=0 from rfl]at this;rw[this,a11];simp
 rw[td_s,key,key];unfold weS we1;rw[A,A,hL (l:=s.args) (q:=fun x=>wkE (fun _ d=>decide (d<=20)) x 0) (r:=fun x=> !decide (20<dpE x)) fun e _=>A e];have k1:(s.args.any fun x=>decide (20<dpE x))= !s.args.all fun x=> !decide (20<dpE x):=by rw[List.not_all_eq_any_not];congr 1;funext x;rw[a1t]
 rw[k1];simp only[a1X,a1t];ac_rfl) s
theorem tds_al(l:List StmT):alL (weS fun _ d=>decide (d<=20)) l= !cV l:=by
 rw[ey];induction l with
 |nil=>rw[cV];rfl
 |cons x l ih=>rw[cV,a0f,ih,←td_al,a1X]
theorem lmF_eq(g:FunT):lmF g= !dgB g:=by unfold lmF wxF dgB;have A:=(lm_l (l:=g.body) (fun s _=>lm_a s) 0 0 0 M M).1;rw[show(((0:Nat):Int),((0:Nat):Int))=((0:Int),(0:Int)) from V,show((0:Nat):Int)=0 from rfl]at A;rw[A,wp_al,tds_al];have E:=wk_dp g.val 0;rw[show((0:Nat):Int)=0 from rfl]at E;rw[E,a11];cases cV g.body<;>simp<;>omega
theorem dg_any: ∀l:List FunT,dpG l= !l.all lmF
 | []=>by rw[dpG];rfl
 |f::l=>by rw[dpG,dg_any l,a0f,Bool.not_and,lmF_eq,a1t];rfl
theorem lm_eq(p:PrgT):lmP p= !exL p:=by
 unfold lmP lm0 exL;rw[dg_any];have e:(p.arrs.any fun a=>decide (a.len<1)||decide (16<a.len))= !p.arrs.all lmA:=by rw[List.not_all_eq_any_not];congr 1;funext a;unfold lmA;rw[a1t]
 rw[e];simp only[a1X,a1t];congr 2;rw[a11];simp;omega
theorem has_in(l:List Str)(s:List UInt8):ed l s=decide (s∈l.map (·.b)):=by unfold ed;rw[a11];simp only[List.any_eq_true,beq_iff_eq,decide_eq_true_eq,a0v]
theorem du_eq: ∀(l seen:List Str),gB seen l=bP (seen.map (·.b)) l
 | [],_=>by rw[gB,bP]
 |s::l,seen=>by
  rw[gB,bP,has_in,du_eq l,a0G];by_cases h:s.b∈seen.map (·.b)
  ·rw[decide_eq_true h,if_pos h];rfl
  rw[decide_eq_false h,if_neg h];rfl
theorem du_app: ∀(l m:List Str) (w:List (List UInt8)),bP w (l++m)=(bP w l||bP (w++l.map (·.b)) m)
 | [],m,w=>by rw[a0i,bP,List.map_nil,a0l];rfl
 |k::l,m,w=>by
  rw[a0w,bP,bP];by_cases h:k.b∈w
  ·rw[if_pos h,if_pos h];rfl
  rw[if_neg h,if_neg h,du_app l m,a0d];rfl
theorem du_F(aa:List Str): ∀(l:List FunT) (fs:List Str),dupF aa fs l=(gB fs (l.map FunT.name)||l.any fun f=>gB aa (f.pars++f.locs))
 | [],fs=>by rw[dupF,List.map_nil,gB];rfl
 |f::l,fs=>by rw[dupF,a1l,gB,du_F aa l,List.any_cons];ac_rfl
theorem dup_eq(p:PrgT):nx p=dupP p:=by
 unfold nx dup0 dupP;rw[du_F,du_eq];have A:([p.arrs.map ArrT.name]:List (List Str)).flatten=p.arrs.map (·.name):=by simp
 have E:([p.funs.map FunT.name]:List (List Str)).flatten=p.funs.map FunT.name:=by simp
 rw[A,E,du_eq];cases h:bP [] (p.arrs.map (·.name)) with
 |true=>rw[show([]:List Str).map (·.b)=[] from V,h];rfl
 |false=>
  have O:dupF5 p=fun f=>gB (p.arrs.map (·.name)) (f.pars++f.locs):=funext fun f=>by unfold dupF5;rw[show([p.arrs.map ArrT.name,f.pars,f.locs]:List (List Str)).flatten=p.arrs.map (·.name)++(f.pars++f.locs) by simp,du_app,h,du_eq];rfl
  rw[O,show([]:List Str).map (·.b)=[] from V,h];rfl
theorem tb_in(A:List (List Str))(s:List UInt8):decide (s∈tbS A)=ed A.flatten s:=by rw[has_in];rfl
theorem re_df(lv la:List (List UInt8))(vs aa:List Str)(A: ∀s,decide (s∈lv)=ed vs s)(E: ∀s,decide (s∈la)=ed aa s)(e:ExpT): ∀d,wkE (fun x _=>reE lv la x) e d=dfE vs aa e:=exI (P:=fun e=> ∀d,wkE (fun x _=>reE lv la x) e d=dfE vs aa e) (fun e h d=>by
 have k: ∀l:List ExpT,iJ vs aa l=l.all (dfE vs aa):=by
  intro l;induction l with
  |nil=>rw[iJ];rfl
  |cons x l ih=>rw[iJ,ih];rfl
 have k2:dfE vs aa e=(iJ vs aa e.kids&&((e.kind !=2)||ed vs e.name.b)&&((e.kind !=3)||ed aa e.name.b)):=by cases e;rw[dfE]
 rw[wk_e,k2,k,wks_eq (q:=dfE vs aa) fun x O=>h x O _];unfold reE;rw[A,E];ac_rfl) _ e (a08 _)
theorem not_in: ∀{l:List Str} {w:List (List UInt8)},bP w l=false->∀x∈l,¬x.b∈w
 |k::l,w,h,x,hx=>by
  rw[bP]at h;split at h
  ·cases h
  next c=>
  rcases a0o.1 hx with rfl|hx
  ·exact c
  exact fun q=>not_in h x hx (a1S _ q)
theorem las_no{s:List UInt8}: ∀{l:List FunT} (r:Option Int),(∀f∈l,f.name.b≠s)->(l.map flE).foldl (fun r e=>if s=e.1 then some e.2 else r) r=r
 | [],_,_=>rfl
 |f::l,r,h=>by rw[a1l,a1G];show(l.map flE).foldl _ (if s=f.name.b then some _ else r)=r;rw[if_neg fun q=>h f (a0E ..) q.symm];exact las_no r fun g A=>h g (a0g _ A)
theorem ff_ge(s:List UInt8): ∀(l:List FunT) (i:Nat),ffN s l i= -1\/(i:Int)<=ffN s l i
 | [],i=> .inl V
 |f::l,i=>by
  rw[ffN];split
  ·exact .inr (Int.le_refl _)
  rcases ff_ge s l (i+1) with h|h
  ·exact .inl h
  exact .inr M
theorem las_ff{s:List UInt8}: ∀{l:List FunT} {w:List (List UInt8)} (i:Nat) (r:Option Int),bP w (l.map FunT.name)=false->(l.map flE).foldl (fun r e=>if s=e.1 then some e.2 else r) r=if 0<=ffN s l i then some ((l.getD (ffN s l i-i).toNat default).pars.length:Int) else r
 | [],_,_,_,_=>rfl
 |f::l,w,i,r,h=>by
  rw[a1l,bP]at h;rw[a1l,a1G,ffN];show(l.map flE).foldl _ (if s=f.name.b then some (f.pars.length:Int) else r)=_;split at h
  ·cases h
  by_cases c:f.name.b=s
  ·rw[if_pos c.symm,if_pos c,las_no _ fun g A q=>not_in h g.name (List.mem_map_of_mem A) (by rw[q,c];simp),if_pos M,Int.sub_self];rfl
  rw[if_neg (fun q=>c q.symm),if_neg c,las_ff (i+1) r h];rcases ff_ge s l (i+1) with k|k
  ·rw[k];rfl
  rw[if_pos M,if_pos M];obtain⟨m,E⟩: ∃m:Nat,ffN s l (i+1)=((i+1+m:Nat):Int):=⟨(ffN s l (i+1)-(i+1)).toNat,by omega⟩
  rw[E,show(((i+1+m:Nat):Int)-((i+1:Nat):Int)).toNat=m by omega,show(((i+1+m:Nat):Int)-(i:Int)).toNat=m+1 by omega];rfl
theorem las_eq{p:PrgT}(h:bP [] (p.funs.map FunT.name)=false)(s:List UInt8):jt (p.funs.map flE) s=if 0<=ffP p s then some ((p.funs.getD (ffP p s).toNat default).pars.length:Int) else none:=by have:=las_ff (s:=s) 0 none h;unfold jt ffP;rw[this];rw[show((0:Nat):Int)=0 from V,Int.sub_zero]
section
variable {p:PrgT} {lv la:List (List UInt8)} {vs aa:List Str}
def reQ(lv la:List (List UInt8))(fl:List (List UInt8×Int))(s:StmT):Bool:=if s.kind=1 then decide (s.name.b∈lv) else if s.kind=2 then decide (s.name.b∈la) else if s.kind=6 then(jt fl s.to.b).isSome&&decide (s.name.b∈lv) else true
def reG(fl:List (List UInt8×Int))(w:Int)(s:StmT):Int:=if(s.kind==6&&reA fl s)=true then 5 else w
theorem reS_eq(fl:List (List UInt8×Int))(w:Int)(s:StmT)(d:Int):reS lv la fl w s d=(reG fl w s,reQ lv la fl s):=by
 unfold reS reG reQ;by_cases E:s.kind=1
 ·rw[if_pos E,if_pos E,if_neg (by rw[E];simp)]
 rw[if_neg E,if_neg E];by_cases O:s.kind=2
 ·rw[if_pos O,if_pos O,if_neg (by rw[O];simp)]
 rw[if_neg O,if_neg O];by_cases A:s.kind=6
 ·rw[if_pos A,if_pos A,A];rfl
 rw[if_neg A,if_neg A,if_neg (by simp[A])]
theorem reQ_eq(U:bP [] (p.funs.map FunT.name)=false)(E: ∀s,decide (s∈lv)=ed vs s)(O: ∀s,decide (s∈la)=ed aa s)(s:StmT):reQ lv la (p.funs.map flE) s=swK vs aa p s:=by
 unfold reQ swK;rw[E,O,las_eq U];have e: ∀(c:Prop) [Decidable c] (x:Int),(if c then some x else none).isSome=decide c:=by intro c _ x;by_cases h:c<;>simp[h]
 rw[e];by_cases k1:s.kind=1
 ·rw[if_pos k1,if_pos k1]
 rw[if_neg k1,if_neg k1];by_cases k2:s.kind=2
 ·rw[if_pos k2,if_neg M,if_pos k2]
 rw[if_neg k2];by_cases A:s.kind=6
 ·rw[if_pos A,if_pos A,Bool.and_comm]
 rw[if_neg A,if_neg A,if_neg k2]
theorem dfs_all: ∀l:List ExpT,iJ vs aa l=l.all (dfE vs aa)
 | []=>by rw[iJ];rfl
 |x::l=>by rw[iJ,dfs_all l];rfl
theorem df_al(O:bP [] (p.funs.map FunT.name)=false)(A: ∀s,decide (s∈lv)=ed vs s)(E: ∀s,decide (s∈la)=ed aa s)(l:List StmT):(alL (weS fun x _=>reE lv la x) l&&alL (reQ lv la (p.funs.map flE)) l)=jh vs aa p l:=by
 have key: ∀l:List StmT,jh vs aa p l=l.all (dfS vs aa p):=by
  intro l;induction l with
  |nil=>rw[jh];rfl
  |cons x l ih=>rw[jh,ih];rfl
 rw[alL_and,key,ey];refine hL fun s _=>(al_cg (Q:=dfS vs aa p) (fun s=>?_) s).symm
 have:dfS vs aa p s=(dfK vs aa p s&&jh vs aa p s.thn&&jh vs aa p s.els):=by cases s;rw[dfS]
 rw[this,key,key,reQ_eq O A E];unfold weS we1 dfK;rw[re_df lv la vs aa A E,re_df lv la vs aa A E,hL (l:=s.args) (q:=fun x=>wkE (fun x _=>reE lv la x) x 0) (r:=dfE vs aa) fun e _=>re_df lv la vs aa A E e 0,dfs_all];simp only[a1X,a1t];ac_rfl
theorem fd_5{b:StmT->Bool}{g:Int->StmT->Int}(O: ∀w s,g w s=if b s=true then 5 else w)(s:StmT): ∀w,fdS g s w=if alS (fun s=> !b s) s=true then w else 5:=stI (P:=fun s=> ∀w,fdS g s w=if alS (fun s=> !b s) s=true then w else 5) (fun s A E w=>by
 have key: ∀l:List StmT,(∀s∈l,∀w,fdS g s w=if alS (fun s=> !b s) s=true then w else 5)->∀w,fdL g l w=if alL (fun s=> !b s) l=true then w else 5:=by
  intro l;induction l with
  |nil=>intro _ w;rw[fdL,alL];rfl
  |cons x l ih=>
   intro h w
   rw[fdL,alL,h x (a0E ..),ih fun y U=>h y (a0g _ U)]
   cases alS (fun s=> !b s) x<;>cases alL (fun s=> !b s) l<;>rfl
 rw[fd_s,al_s,key _ A,key _ E,O];cases b s<;>cases alL (fun s=> !b s) s.thn<;>cases alL (fun s=> !b s) s.els<;>rfl) _ s (a08 _)
theorem fd_5l{b:StmT->Bool}{g:Int->StmT->Int}(A: ∀w s,g w s=if b s=true then 5 else w): ∀(l:List StmT) (w:Int),fdL g l w=if alL (fun s=> !b s) l=true then w else 5
 | [],w=>by rw[fdL,alL];rfl
 |x::l,w=>by rw[fdL,alL,fd_5 A,fd_5l A l];cases alS (fun s=> !b s) x<;>cases alL (fun s=> !b s) l<;>rfl
theorem ar_al(U:bP [] (p.funs.map FunT.name)=false): ∀{l:List StmT},alL (fun s=> !(s.kind==6)||decide (0<=ffP p s.to.b)) l=true->alL (fun s=> !((s.kind==6)&&reA (p.funs.map flE) s)) l=arSs p l:=by
 have k1: ∀s:StmT,(!(s.kind==6)||decide (0<=ffP p s.to.b))=true->(!((s.kind==6)&&reA (p.funs.map flE) s))=arK p s:=by
  intro s h;unfold arK reA;cases Z:(s.kind==6) with
  |false=>rfl
  |true=>
   rw[Z]at h
   have h:0<=ffP p s.to.b:=by simpa using h
   rw[las_eq U,if_pos h]
   congr 1
   show(((_:Int) !=_))=_
   exact bne_comm
 have key: ∀l:List StmT,arSs p l=l.all (arS p):=by
  intro l;induction l with
  |nil=>rw[arSs];rfl
  |cons x l ih=>rw[arSs,ih];rfl
 have k2: ∀s,alS (fun s=> !(s.kind==6)||decide (0<=ffP p s.to.b)) s=true->alS (fun s=> !((s.kind==6)&&reA (p.funs.map flE) s)) s=arS p s:=fun s=>stI (P:=fun s=>alS (fun s=> !(s.kind==6)||decide (0<=ffP p s.to.b)) s=true->alS (fun s=> !((s.kind==6)&&reA (p.funs.map flE) s)) s=arS p s) (fun s A E h=>by
  rw[al_s,a06,a06,ey,ey,a0u,a0u]at h;have:arS p s=(arK p s&&arSs p s.thn&&arSs p s.els):=by cases s;rw[arS]
  rw[al_s,this,k1 s h.1.1,ey,ey,key,key,hL (l:=s.thn) fun x O=>A x O (h.1.2 x O),hL (l:=s.els) fun x O=>E x O (h.2 x O)]) _ s (a08 _)
 intro l h;rw[ey,a0u]at h;rw[ey,key,hL fun x O=>k2 x (h x O)]
theorem al_imp{q r:StmT->Bool}(h: ∀s,q s=true->r s=true)(l:List StmT)(k:alL q l=true):alL r l=true:=by
 have e:(fun s=>q s&&r s)=q:=funext fun s=>by cases e:q s with|false=>rfl|true=>rw[h s e];rfl
 have:=alL_and (q:=q) (r:=r) l;rw[e,k,a1C]at this;exact this
end
theorem res_0{p:PrgT}(hf:bP [] (p.funs.map FunT.name)=false): ∀(l:List FunT) (w:Int),(w=0\/w=5)->((reL5 (tbS ([p.arrs.map ArrT.name]:List (List Str))) (p.funs.map flE) l w=0)↔(w=0/\l.all (dfF p)=true/\l.all (arF p)=true))
 | [],w,_=>by rw[reL5];simp
 |g::l,w,hw=>by
  have A: ∀s,decide (s∈lvF g)=ed (g.pars++g.locs) s:=fun s=>by rw[tb_in];simp
  have E: ∀s,decide (s∈tbS ([p.arrs.map ArrT.name]:List (List Str)))=ed (arN p) s:=fun s=>by rw[tb_in];unfold arN;simp
  have hg:=ws_gen (m:=reS (lvF g) (tbS ([p.arrs.map ArrT.name]:List (List Str))) (p.funs.map flE)) (fun w s d=>reS_eq (lv:=lvF g) (la:=tbS ([p.arrs.map ArrT.name]:List (List Str))) (p.funs.map flE) w s d) g.body w 0;have hd:=df_al (p:=p) hf A E g.body;have hx:wxF (fun x _=>reE (lvF g) (tbS ([p.arrs.map ArrT.name]:List (List Str))) x) g=(dfE (g.pars++g.locs) (arN p) g.val&&alL (weS fun x _=>reE (lvF g) (tbS ([p.arrs.map ArrT.name]:List (List Str))) x) g.body):=by unfold wxF;rw[wp_al,re_df _ _ _ _ A E]
  rw[reL5,a0f,a0f,hg.1,hx];have O:dfF p g=((dfE (g.pars++g.locs) (arN p) g.val&&alL (weS fun x _=>reE (lvF g) (tbS ([p.arrs.map ArrT.name]:List (List Str))) x) g.body)&&alL (reQ (lvF g) (tbS ([p.arrs.map ArrT.name]:List (List Str))) (p.funs.map flE)) g.body):=by unfold dfF;rw[←hd];ac_rfl
  rw[O];cases c1:(dfE (g.pars++g.locs) (arN p) g.val&&alL (weS fun x _=>reE (lvF g) (tbS ([p.arrs.map ArrT.name]:List (List Str))) x) g.body) with
  |false=>simp
  |true=>
   cases c2:alL (reQ (lvF g) (tbS ([p.arrs.map ArrT.name]:List (List Str))) (p.funs.map flE)) g.body with
   |false=>simp
   |true=>
    rw[if_pos V,if_pos V,hg.2 c2,fd_5l (g:=reG (p.funs.map flE)) (b:=fun s=>s.kind==6&&reA (p.funs.map flE) s) (fun w s=>rfl)]
    have U:alL (fun s=> !(s.kind==6)||decide (0<=ffP p s.to.b)) g.body=true:=al_imp (fun s hs=>by
     cases hk:(s.kind==6) with
     |false=>rfl
     |true=>
      have a_:s.kind=6:=by simpa using hk
      rw[reQ_eq hf A E]at hs
      unfold swK at hs
      rw[if_neg M,if_pos a_,a06]at hs
      simpa using hs.2) g.body c2
    rw[ar_al hf U]
    show _↔w=0/\(true&&true&&l.all (dfF p))=true/\(arF p g&&l.all (arF p))=true
    unfold arF
    cases Z:arSs p g.body with
    |false=>rw[if_neg e_,res_0 hf l 5 (.inr V)];simp
    |true=>rw[if_pos V,res_0 hf l w hw];simp[arF]
theorem ck_iff(p:PrgT):ckP p=0↔chk p=0:=by
 unfold ckP chk;rw[lm_eq,wfP_eq,dup_eq];cases E:exL p with
 |true=>simp
 |false=>
  cases O:wfP p with
  |false=>simp
  |true=>
   cases A:dupP p with
   |true=>simp
   |false=>
    have U:bP [] (p.funs.map FunT.name)=false:=by have:=dup_eq p;rw[A]at this;unfold nx dup0 at this;simp only[a0Z]at this;have h:=this.1.2;rwa [show([p.funs.map FunT.name]:List (List Str)).flatten=p.funs.map FunT.name by simp]at h
    simp only[a1E,Bool.true_eq_false,a0h,if_false]
    unfold resP
    rw[res_0 U p.funs 0 (.inl V)]
    cases p.funs.all (dfF p)<;>cases p.funs.all (arF p)<;>simp
theorem ck5_ok{p:PrgT}(h:ckP p=0):wfP p=true/\exL p=false:=ck_ok ((ck_iff p).1 h)
end Go.Proofs.YtkpgbdkkgcdhmaaGreat.dp
