/-
Plain laws: what the functions compute answers as the statement says. No condition beyond those that each statement names.
-/
import Derived.Test.YtapgbjedgcpffaaZQGR
import Derived.Test.YtapgbjedgcpffaaZQSB
noncomputable section
namespace Go.Proofs.Ytapgbjedgcpffaa.lq
open Go.R w1 w3 l1 pt pa pb pc pd pe pf pg ca cc cd ta tb ga gb gp rt ru gr ra rb
set_option linter.unusedVariables false
set_option linter.unusedSimpArgs false
open cb hiding jl jn
theorem seq{p q r:PrgT}{e:ErrT}(Z:GdP p)(hq:GdP q)(hl:(txP p).length+(txP q).length<=20000)(h:ParR (txP p++txP q) r e):r=⟨p.arrs++q.arrs,p.funs++q.funs⟩/\e=⟨0,0⟩:=by
 have O:=sc_p hq Sc.nil;rw[a0m,a0m]at O;have hs:=sc_p Z O;obtain⟨ts,Y,T⟩:=sc_scan (by rw[a00];exact hl) hs;have d:Dw ts 0 (wdPr p++wdPr q):=T;have E:Dw ts (0+(wdPr p).length) (wdPr q++[]):=by rw[a0m];exact d.app
 have U:Dw ts (0+(wdPr p).length+(wdPr q).length) []:=E.app;have ar:(wdPr p).length+(wdPr q).length=ts.length:=by rw[←a00,←T,a1y]
 have k:=pr_p Z (a0:=[]) (f0:=[]) d (pr_p hq E (pr_e U (by omega)));have:=par_lim Y k h;exact⟨this.1,this.2⟩
theorem wfs_all: ∀l:List ExpT,dO l=l.all wfE
 | []=>by rw[dO];rfl
 |x::l=>by rw[dO,wfs_all l];rfl
theorem few_e(e:ExpT):wfE e=true->Few e:=exI (P:=fun e=>wfE e=true->Few e) (fun e ih h=>by
 obtain⟨hk,hn⟩:=dI h;refine⟨?_,fun x hx=>ih x hx (a0l.1 (wfs_all e.kids▸hk) x hx)⟩;by_cases O:e.kind=1
 ·have:=(wfN_1 O hn).1;omega
 by_cases E:e.kind=2
 ·have:=(wfN_2 (.inl E) hn).2.2.2 E;omega
 by_cases T:e.kind=3
 ·have:=(wfN_3 T hn).1;omega
 by_cases U:e.kind=5
 ·have:=wfN_5 U hn;omega
 obtain⟨_,Y,Z⟩:=wfN_4 O E T U hn;by_cases o:e.op=20\/e.op=21
 ·have:=Z o;omega
 have:=(Y ⟨fun x=>o (.inl x),fun x=>o (.inr x)⟩).1;omega) _ e (a06 _)
theorem few_z:Few zE:=⟨by decide,fun x h=>by cases h⟩
theorem fes_len: ∀l:List ExpT,(jJ (gc l)).length=l.length
 | []=>rfl
 |x::l=>by rw[gc];exact congrArg Nat.succ (fes_len l)
theorem jr_len: ∀l:List Str,l.length<=(jnR true l).length
 | []=>a0p _
 |x::l=>by have:=jr_len l;rw[jnR];simp;omega
theorem jn_len(l:List Str):l.length<=(jn l).length+1:=by
 cases l with
 |nil=>simp
 |cons x l=>have:=jr_len l;unfold jn;rw[jnR];simp;omega
theorem fl_len(ind:List UInt8): ∀l:List StmT,(∀s∈l,1<=(fmS s ind).length)->l.length<=(bV l ind).length
 | [],_=>a0p _
 |s::l,h=>by
  have E:=fl_len ind l fun x T=>h x (a0f _ T)
  have O:=h s (a0s ..);rw[bV,a00,a01];omega
theorem fl_mem(ind:List UInt8): ∀l:List StmT,∀s∈l,(fmS s ind).length<=(bV l ind).length
 |x::l,s,h=>by
  rw[bV,a00];rcases a0j.1 h with rfl|h
  ·omega
  have:=fl_mem ind l s h;omega
theorem ws_mem: ∀l:List StmT,cE l=true->∀s∈l,wfS s=true
 |x::l,h,s,m=>by
  rw[cE,a04]at h;rcases a0j.1 m with rfl|m
  ·exact h.1
  exact ws_mem l h.2 s m
def FS(s:StmT):Prop:=Few s.at_/\Few s.val/\s.args.length<=1000000/\(∀e∈s.args,Few e)/\FewL s.thn/\FewL s.els
def PS(s:StmT):Prop:=wfS s=true->∀ind,1<=(fmS s ind).length/\((fmS s ind).length<=1000000->FS s)
theorem few_l{l:List StmT}(h: ∀s∈l,PS s)(w:cE l=true){ind:List UInt8}(E:(bV l ind).length<=1000000):FewL l:=by
 have k: ∀s∈l,FS s:=fun s hs=>(h s hs (ws_mem l w s hs) ind).2 (a0h (fl_mem ind l s hs) E)
 exact .mk (a0h (fl_len ind l fun s hs=>(h s hs (ws_mem l w s hs) ind).1) E) (fun s hs=>(k s hs).1) (fun s hs=>(k s hs).2.1) (fun s hs=>(k s hs).2.2.1) (fun s hs=>(k s hs).2.2.2.1) (fun s hs=>(k s hs).2.2.2.2.1) fun s hs=>(k s hs).2.2.2.2.2
theorem jj:FewL []:= .mk (by decide) (fun _ h=>by cases h) (fun _ h=>by cases h) (fun _ h=>by cases h) (fun _ h=>by cases h) (fun _ h=>by cases h) fun _ h=>by cases h
theorem fs_mk{s:StmT}{k n:Int}{Y to:Str}{a v:ExpT}{t e:List StmT}(h:mkS k Y to n a v [] t e=s)(E:Few a)(O:Few v)(T:FewL t)(U:FewL e):FS s:=by subst h;exact⟨E,O,by show 0<=_;omega,(fun _ h=>by cases h),T,U⟩
theorem few_s(s:StmT):PS s:=stI (P:=PS) (fun s O Z hw ind=>by
 rw[wf_s,a04,a04,wfA,a04]at hw;obtain⟨⟨⟨ar,wk⟩,wt⟩,we⟩:=hw;have kb:=kd_rng wk;rw[fm_s];by_cases k1:s.kind=1
 ·obtain⟨w1,E,w3⟩:=wf1 k1 wk;rw[fk_1 k1];exact⟨by(simp only[a00,a01,a03];omega),fun _=>fs_mk w3 few_z (few_e _ E) jj jj⟩
 by_cases k2:s.kind=2
 ·obtain⟨w1,E,w3,w4⟩:=wf2 k2 wk;rw[fk_2 k2];exact⟨by(simp only[a00,a01,a03];omega),fun _=>fs_mk w4 (few_e _ E) (few_e _ w3) jj jj⟩
 by_cases T:s.kind=3
 ·obtain⟨w1,E⟩:=wf3 T wk;rw[fk_3 T];refine⟨by(simp only[a00,a01,a03];omega),fun h=>fs_mk E few_z (few_e _ w1) (few_l O wt (ind:=ind++[32,32]) ?_) ?_⟩
  ·simp only[a00,a01]at h;omega
  by_cases q:0<s.els.length
  ·rw[if_pos q]at h;refine few_l Z we (ind:=ind++[32,32]) ?_;simp only[a00,a01]at h;omega
  rw[show s.els=[] from a0g (by omega)];exact jj
 by_cases U:s.kind=4
 ·obtain⟨w1,E⟩:=wf4 U wk;rw[fk_4 U];refine⟨by(simp only[a00,a01,a03];omega),fun h=>fs_mk E few_z (few_e _ w1) (few_l O wt (ind:=ind++[32,32]) ?_) jj⟩;simp only[a00,a01]at h;omega
 by_cases Y:s.kind=5
 ·obtain⟨w1,E⟩:=wf5 Y wk;rw[fk_5 Y];exact⟨by(simp only[a00,a01,a03];omega),fun _=>fs_mk E few_z (few_e _ w1) jj jj⟩
 by_cases k6:s.kind=6
 ·obtain⟨w1,E,w3⟩:=wf6 k6 wk;rw[fk_6 (by omega) (by omega) (by omega) (by omega) (by omega) (by omega)];refine⟨by(simp only[a00,a01,a03];omega),fun h=>?_⟩;have ha: ∀e∈s.args,Few e:=fun e he=>few_e e (a0l.1 (wfs_all s.args▸ar) e he)
  have hn:=jn_len (jJ (gc s.args));rw[fes_len]at hn;have hx:s.args.length<=1000000:=by simp only[a00,a01]at h;omega
  revert ha hx;rw[←w3];exact fun ha hx=>⟨few_z,few_z,hx,ha,jj,jj⟩
 obtain⟨w1,E⟩:=wf7 (by omega) wk;rw[fk_7 (by omega)];exact⟨by(simp only[a00,a01,a03];omega),fun _=>fs_mk E few_z few_z jj jj⟩) _ s (a06 _)
def FF(f:FunT):Prop:=f.pars.length<=1000000/\f.locs.length<=1000000/\FewL f.body/\Few f.val
theorem few_f{f:FunT}(h:wfF f=true)(T:(fnT f).length<=1000000)(E:f.pars.length<=1000000)(O:f.locs.length<=1000000):FF f:=by rw[wf_f,a04,a04]at h;refine⟨E,O,few_l (fun s _=>few_s s) h.1.2 (ind:=[32,32]) ?_,few_e _ h.2⟩;unfold fnT at T;simp only[a00]at T;omega
theorem few_p{l m:List Int}(h: ∀x∈l,in64 x)(k: ∀x∈m,in64 x):FewP ⟨(bx l).arrs++(bx m).arrs,(bx l).funs++(bx m).funs⟩:=by
 have one: ∀{l:List Int},(∀x∈l,in64 x)->∀f∈(bx l).funs,FF f:=by
  intro l h f E;have O:=(lQ h).2 f E;have Z:=(jU h).1;have Y:(fnT f).length<=(txP (bx l)).length:=by unfold txP;rw[a00];obtain⟨a,b,e⟩:=List.append_of_mem E;rw[e];simp;omega
  have U:f.pars.length<=2/\f.locs.length<=2:=by
   unfold bx at E;rcases a0j.1 E with rfl|E
   ·exact⟨a06 2,a06 2⟩
   rcases a0j.1 E with rfl|E
   ·exact⟨Nat.le_succ 1,Nat.le_succ 1⟩
   cases E
  exact few_f O.1 (by omega) (by omega) (by omega)
 refine⟨(by decide:4<=1000000),(by decide:4<=1000000),fun i hi=>?_⟩;have T:(((bx l).funs++(bx m).funs).getD i default)∈(bx l).funs++(bx m).funs:=by rw[a0a,a09 hi];exact a0J hi
 rcases a0c.1 T with q|q
 ·exact one h _ q
 exact one k _ q
end Go.Proofs.Ytapgbjedgcpffaa.lq
