/-
The text of a program. No condition but that it is not longer than a machine dQ.
-/
import Derived.Test.YtkpgbdkkgcdhmaaZNTA
noncomputable section
namespace Go.Proofs.Ytkpgbdkkgcdhmaa.tb
open Go.R
set_option maxRecDepth 10000
set_option linter.unusedVariables false
set_option linter.unusedSimpArgs false
open w3 l1 pt ca cb cc cd ta
theorem fm_s(s:StmT)(ind:List UInt8):fmS s ind=ind++fmK s ind (hZ s.thn (ind++[32,32])) (hZ s.els (ind++[32,32])):=by cases s;rw[fmS]
theorem wts_at: ∀{l:List StmT} {i:Nat},kT l=true->i<l.length->wfS (l.getD i default)=true
 |e::l,0,h,_=>by rw[kT,a05]at h;exact h.1
 |e::l,i+1,h,hi=>by rw[kT,a05]at h;exact wts_at (l:=l) h.2 (by simpa using hi)
theorem wk_v{s:StmT}(h:wfK s=true):(1<=s.kind/\s.kind<=5)->wfE s.val=true:=by
 intro A;unfold wfK at h;repeat' split at h
 all_goals first|(simp only[a05]at h;first|exact h.2|exact h.1.2|omega)|omega|cases h
theorem wk_a{s:StmT}(h:wfK s=true):s.kind=2->wfE s.at_=true:=by intro A;unfold wfK at h;rw[if_neg M,if_pos A]at h;simp only[a05]at h;exact h.1.1.2
section
variable {s:StmT} {ind t e:List UInt8}
theorem fk_1(h:s.kind=1):fmK s ind t e=s.name.b++[32,61,32]++fmE s.val++[59,10]:=by rw[fmK,if_pos h]
theorem fk_2(h:s.kind=2):fmK s ind t e=s.name.b++[91]++fmE s.at_++[93,32,61,32]++fmE s.val++[59,10]:=by rw[fmK,if_neg M,if_pos h]
theorem fk_5(h:s.kind=5):fmK s ind t e=[111,117,116,32]++fmE s.val++[59,10]:=by rw[fmK,if_neg M,if_neg M,if_pos h]
theorem fk_7(h:s.kind=7):fmK s ind t e=[116,114,97,112,32]++eL s.n++[59,10]:=by rw[fmK,if_neg M,if_neg M,if_neg M,if_pos h]
theorem fk_4(h:s.kind=4):fmK s ind t e=[119,104,105,108,101,32,40]++fmE s.val++[41,32,123,10]++t++ind++[125,10]:=by rw[fmK,if_neg M,if_neg M,if_neg M,if_neg M,if_pos h]
theorem fk_3(h:s.kind=3):fmK s ind t e=[105,102,32,40]++fmE s.val++[41,32,123,10]++t++ind++[125]++(if 0<s.els.length then [32,101,108,115,101,32,123,10]++e++ind++[125] else [])++[10]:=by rw[fmK,if_neg M,if_neg M,if_neg M,if_neg M,if_neg M,if_pos h]
theorem fk_6(A:s.kind≠1)(E:s.kind≠2)(O:s.kind≠5)(U:s.kind≠7)(a_:s.kind≠4)(Z:s.kind≠3):fmK s ind t e=s.name.b++[32,61,32]++s.to.b++[40]++jn (strs (iu s.args))++[41,59,10]:=by rw[fmK,if_neg A,if_neg E,if_neg O,if_neg U,if_neg a_,if_neg Z]
end
theorem lU(l:List ExpT):(strs (iu l)).length=l.length:=by
 unfold strs;rw[a0U];induction l with
 |nil=>rfl
 |cons e l ih=>rw[iu,a01,ih];rfl
theorem strs_at: ∀{l:List ExpT} {k:Nat},k<l.length->(strs (iu l))[k]?=some ⟨fmE (l.getD k default)⟩
 |e::l,0,_=>by rw[iu];rfl
 |e::l,k+1,h=>by rw[iu];exact strs_at (l:=l) (by simpa using h)
theorem st_n{l:List ExpT}{k:Nat}(h:k<l.length):(strs (iu l)).take (k+1)=(strs (iu l)).take k++[⟨fmE (l.getD k default)⟩]:=by rw[a1g,strs_at h];rfl
theorem aY{l:List ExpT}{k:Nat}(h:k<l.length):(⟨fmE (l.getD k default)⟩:Str)∈strs (iu l):=a0q (strs_at h)
theorem jnR_le: ∀(b:Bool) (l:List Str) (x:Str),x∈l->x.b.length<=(jnR b l).length
 |b,y::l,x,h=>by
  rw[jnR,a00,a00];rcases a0r.1 h with rfl|h
  ·omega
  have:=jnR_le true l x h;omega
theorem bT(l:List Str)(x:Str)(h:x∈l):x.b.length<=(jn l).length:=jnR_le false l x h
def SnP(p:PrgT):Prop:=p.arrs.length<1000000000/\p.funs.length<1000000000/\∀f∈p.funs,f.pars.length<1000000000/\f.locs.length<1000000000/\ka f.body<1000000000/\ndE f.val<1000000000
theorem ck_ok{p:PrgT}(h:chk p=0):wfP p=true/\exL p=false:=by
 unfold chk at h;split at h
 ·cases h
 next A=>
 split at h
 ·cases h
 next E=>exact⟨by simpa using E,by simpa using A⟩
theorem fl_arr{α:Type} [Inhabited α]{g:α->List UInt8}{l:List α}{i:Nat}(h:i<l.length):(l.drop i).flatMap g=g (l.getD i default)++(l.drop (i+1)).flatMap g:=by rw[drop_c (d:=default) h,a1B]
theorem wf_ok{p:PrgT}(h:wfP p=true){i:Nat}(hi:i<p.funs.length):kT (p.funs.getD i default).body=true/\wfE (p.funs.getD i default).val=true:=by unfold wfP at h;rw[a05]at h;have:=a0y.1 h.2 _ (i6 hi);rw[wf_f,a05,a05]at this;exact⟨this.1.2,this.2⟩
end Go.Proofs.Ytkpgbdkkgcdhmaa.tb
