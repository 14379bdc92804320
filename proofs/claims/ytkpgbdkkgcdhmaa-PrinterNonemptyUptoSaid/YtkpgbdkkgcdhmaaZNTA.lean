/-
The text of an expression. No condition but that the expression is one that a parser can give and that its text is not longer than a machine dQ.
-/
import Derived.Test.YtkpgbdkkgcdhmaaZNCD
import Derived.Test.YtkpgbdkkgcdhmaaZNW3
noncomputable section
namespace Go.Proofs.Ytkpgbdkkgcdhmaa.ta
open Go.R
set_option maxRecDepth 10000
set_option linter.unusedVariables false
set_option linter.unusedSimpArgs false
open w3 l1 pt ca cb cc cd
def opTx:List Str:=[⟨[43]⟩,⟨[45]⟩,⟨[42]⟩,⟨[47]⟩,⟨[37]⟩,⟨[38]⟩,⟨[124]⟩,⟨[94]⟩,⟨[60,60]⟩,⟨[62,62,62]⟩,⟨[62,62]⟩,⟨[61,61]⟩,⟨[33,61]⟩,⟨[60]⟩,⟨[60,61]⟩]
def opX(o:Int):List UInt8:=(opTx.getD (o-4).toNat default).b
def opF(e:ExpT)(m:Bool)(t:List UInt8):List UInt8:=if(e.kind=4\/e.kind=5)\/(m=true/\e.kind=1) then([40]++t)++[41] else t
def opK2(ks:List ExpT)(ts:List (List UInt8))(i:Nat)(m:Bool):List UInt8:=opF (ks.getD i default) m (ts.getD i [])
def fmN(k n:Int)(nm:List UInt8)(o:Int)(ks:List ExpT)(ts:List (List UInt8)):List UInt8:=
 if k=1 then eL n
 else if k=2 then nm
 else if k=3 then((nm++[91])++ts.getD 0 [])++[93]
 else if k=5 then(((opK2 ks ts 0 false++[32,63,32])++opK2 ks ts 1 false)++[32,58,32])++opK2 ks ts 2 false
 else if o=20 then [45]++opK2 ks ts 0 true
 else if o=21 then [126]++opK2 ks ts 0 false
 else(((opK2 ks ts 0 false++[32])++opX o)++[32])++opK2 ks ts 1 false
mutual
def fmE:ExpT->List UInt8
 |⟨k,n,nm,o,ks⟩=>fmN k n nm.b o ks (iu ks)
def iu:List ExpT->List (List UInt8)
 | []=> []
 |e::l=>fmE e::iu l
end
def jnR:Bool->List Str->List UInt8
 |_,[]=> []
 |b,x::l=>(if b=true then [44,32] else [])++x.b++jnR true l
def jn(l:List Str):List UInt8:=jnR false l
def strs(l:List (List UInt8)):List Str:=l.map Str.mk
def fmK(s:StmT)(ind t e:List UInt8):List UInt8:=
 if s.kind=1 then s.name.b++[32,61,32]++fmE s.val++[59,10]
 else if s.kind=2 then s.name.b++[91]++fmE s.at_++[93,32,61,32]++fmE s.val++[59,10]
 else if s.kind=5 then [111,117,116,32]++fmE s.val++[59,10]
 else if s.kind=7 then [116,114,97,112,32]++eL s.n++[59,10]
 else if s.kind=4 then [119,104,105,108,101,32,40]++fmE s.val++[41,32,123,10]++t++ind++[125,10]
 else if s.kind=3 then [105,102,32,40]++fmE s.val++[41,32,123,10]++t++ind++[125]++(if 0<s.els.length then [32,101,108,115,101,32,123,10]++e++ind++[125] else [])++[10]
 else s.name.b++[32,61,32]++s.to.b++[40]++jn (strs (iu s.args))++[41,59,10]
mutual
def fmS:StmT->List UInt8->List UInt8
 |⟨k,nm,to,n,a,v,ar,t,e⟩,ind=>ind++fmK ⟨k,nm,to,n,a,v,ar,t,e⟩ ind (hZ t (ind++[32,32])) (hZ e (ind++[32,32]))
def hZ:List StmT->List UInt8->List UInt8
 | [],_=> []
 |s::l,ind=>fmS s ind++hZ l ind
end
def arT(a:ArrT):List UInt8:=[97,114,114,97,121,32]++a.name.b++[32]++eL a.len++[59,10]
def lcT(l:List Str):List UInt8:=if 0<l.length then [118,97,114,32]++jn l++[32] else []
def fnT(f:FunT):List UInt8:=[102,117,110,99,32]++f.name.b++[40]++jn f.pars++[41,32]++lcT f.locs++[123,10]++hZ f.body [32,32]++[32,32,114,101,116,117,114,110,32]++fmE f.val++[59,10,125,10]
def txP(p:PrgT):List UInt8:=p.arrs.flatMap arT++p.funs.flatMap fnT
def prT(p:PrgT):List UInt8:=if chk p=0 then txP p else []
theorem jn_end{l:List Str}{s:List UInt8}{i:Nat}{b:Bool}(h:jn l=s++jnR b (l.drop i))(hi:l.length<=i):jn l=s:=by rw[h,drop_e hi];cases b<;>exact a0f _
theorem jn_b{l:List Str}{s:List UInt8}{i n:Nat}{b:Bool}(hi:i<l.length)(h:jn l=s++jnR b (l.drop i))(A:(jn l).length<=n):s.length+(if b=true then 2 else 0)+(l.getD i default).b.length<=n:=by rw[h,drop_c (d:=default) hi,jnR,a00,a00,a00]at A;cases b<;>simp at A⊢ <;>omega
theorem jn_s1{l:List Str}{s:List UInt8}{i:Nat}(hi:i<l.length)(h:jn l=s++jnR (decide (0<i)) (l.drop i))(A:0<i):jn l=((s++[44,32])++(l.getD i default).b)++jnR (decide (0<i+1)) (l.drop (i+1)):=by rw[h,drop_c (d:=default) hi,jnR,decide_eq_true A,decide_eq_true (Nat.succ_pos i)];simp only[a0c,if_true]
theorem jn_s0{l:List Str}{s:List UInt8}{i:Nat}(hi:i<l.length)(h:jn l=s++jnR (decide (0<i)) (l.drop i))(A:i=0):jn l=(s++(l.getD i default).b)++jnR (decide (0<i+1)) (l.drop (i+1)):=by rw[h,drop_c (d:=default) hi,jnR,decide_eq_false (show ¬0<i by omega),decide_eq_true (Nat.succ_pos i)];simp
theorem fm_e(e:ExpT):fmE e=fmN e.kind e.n e.name.b e.op e.kids (iu e.kids):=by cases e;rw[fmE]
theorem fms_at: ∀{l:List ExpT} {i:Nat},i<l.length->(iu l).getD i []=fmE (l.getD i default)
 |e::l,0,_=>by rw[iu];rfl
 |e::l,i+1,h=>by rw[iu];exact fms_at (l:=l) (by simpa using h)
theorem op_at{l:List ExpT}{i:Nat}(m:Bool)(h:i<l.length):opK2 l (iu l) i m=opF (l.getD i default) m (fmE (l.getD i default)):=by unfold opK2;rw[fms_at h]
theorem fm_1{e:ExpT}(h:e.kind=1):fmE e=eL e.n:=by rw[fm_e,fmN,if_pos h]
theorem fm_2{e:ExpT}(h:e.kind=2):fmE e=e.name.b:=by rw[fm_e,fmN,if_neg M,if_pos h]
theorem fm_3{e:ExpT}(h:e.kind=3)(k:(e.kids.length:Int)=1):fmE e=((e.name.b++[91])++fmE (e.kids.getD 0 default))++[93]:=by rw[fm_e,fmN,if_neg M,if_neg M,if_pos h,fms_at M]
theorem fm_5{e:ExpT}(h:e.kind=5)(k:(e.kids.length:Int)=3):fmE e=(((opF (e.kids.getD 0 default) false (fmE (e.kids.getD 0 default))++[32,63,32])++opF (e.kids.getD 1 default) false (fmE (e.kids.getD 1 default)))++[32,58,32])++opF (e.kids.getD 2 default) false (fmE (e.kids.getD 2 default)):=by rw[fm_e,fmN,if_neg M,if_neg M,if_neg M,if_pos h,op_at _ M,op_at _ M,op_at _ M]
theorem fm_n{e:ExpT}(h:e.kind=4)(o:e.op=20)(k:(e.kids.length:Int)=1):fmE e=[45]++opF (e.kids.getD 0 default) true (fmE (e.kids.getD 0 default)):=by rw[fm_e,fmN,if_neg M,if_neg M,if_neg M,if_neg M,if_pos o,op_at _ M]
theorem fm_t{e:ExpT}(h:e.kind=4)(o:e.op=21)(k:(e.kids.length:Int)=1):fmE e=[126]++opF (e.kids.getD 0 default) false (fmE (e.kids.getD 0 default)):=by rw[fm_e,fmN,if_neg M,if_neg M,if_neg M,if_neg M,if_neg M,if_pos o,op_at _ M]
theorem fm_b{e:ExpT}(h:e.kind=4)(o:e.op≠20)(A:e.op≠21)(k:(e.kids.length:Int)=2):fmE e=(((opF (e.kids.getD 0 default) false (fmE (e.kids.getD 0 default))++[32])++opX e.op)++[32])++opF (e.kids.getD 1 default) false (fmE (e.kids.getD 1 default)):=by rw[fm_e,fmN,if_neg M,if_neg M,if_neg M,if_neg M,if_neg o,if_neg A,op_at _ M,op_at _ M]
theorem wf_parts{e:ExpT}(h:wfE e=true):wfEs e.kids=true/\wfN e.kind e.n e.name.b e.op (e.kids.length:Int)=true:=by rw[wf_e,a05]at h;exact h
theorem aW: ∀{l:List ExpT} {i:Nat},wfEs l=true->i<l.length->wfE (l.getD i default)=true
 |e::l,0,h,_=>by rw[wfEs,a05]at h;exact h.1
 |e::l,i+1,h,hi=>by rw[wfEs,a05]at h;exact aW (l:=l) h.2 (by simpa using hi)
theorem mn{l:List ExpT}{i:Nat}(h:wfEs l=true)(hi:i<l.length):ndE (l.getD i default)<=ndEs l/\wfE (l.getD i default)=true/\∀m,(fmE (l.getD i default)).length<=(opF (l.getD i default) m (fmE (l.getD i default))).length:=⟨nd_at hi,aW h hi,fun m=>by unfold opF;split<;>first|(simp only[a00];omega)|exact a08 _⟩
theorem op_len(e:ExpT)(m:Bool)(t:List UInt8):t.length<=(opF e m t).length:=by unfold opF;split<;>first|(simp only[a00];omega)|exact a08 _
theorem opF_1{e:ExpT}{m:Bool}{t:List UInt8}(h:(e.kind=4\/e.kind=5)\/(m=true/\e.kind=1)):opF e m t=([40]++t)++[41]:=by unfold opF;rw[if_pos h]
theorem opF_0{e:ExpT}{m:Bool}{t:List UInt8}(h:(e.kind≠4/\e.kind≠5)/\(m=true->e.kind≠1)):opF e m t=t:=by unfold opF;rw[if_neg (fun k=>k.elim (fun q=>q.elim h.1.1 h.1.2) fun q=>h.2 q.1 q.2)]
theorem wfN_3{k n o c:Int}{nm:List UInt8}(h:k=3)(w:wfN k n nm o c=true):c=1/\True:=by unfold wfN at w;rw[if_neg M,if_neg M,if_pos h]at w;simp only[a05,beq_iff_eq]at w;exact⟨w.1.1.1,trivial⟩
theorem wfN_5{k n o c:Int}{nm:List UInt8}(h:k=5)(w:wfN k n nm o c=true):c=3:=by unfold wfN at w;rw[if_neg M,if_neg M,if_neg M,if_neg M,if_pos h]at w;simp only[a05,beq_iff_eq]at w;exact w.1.1.1
theorem wfN_4{k n o c:Int}{nm:List UInt8}(A:k≠1)(E:k≠2)(O:k≠3)(U:k≠5)(w:wfN k n nm o c=true):k=4/\((o≠20/\o≠21)->c=2/\4<=o/\o<=18)/\((o=20\/o=21)->c=1):=by
 unfold wfN at w;rw[if_neg A,if_neg E,if_neg O]at w;split at w
 ·next h=>
  unfold binO at w;simp only[a05,a11,beq_iff_eq,decide_eq_true_eq]at w;exact⟨h,fun q=>by omega,fun q=>by omega⟩
 cases w
end Go.Proofs.Ytkpgbdkkgcdhmaa.ta
