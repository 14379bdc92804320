/-
The text of an expression. No condition but that the expression is one that a parser can give and that its text is not longer than a machine fX.
-/
import Derived.Test.YtapgbjedgcpffaaGreatZRL1
import Derived.Test.YtapgbjedgcpffaaGreatZRCD
import Derived.Test.YtapgbjedgcpffaaGreatZRW3
noncomputable section
namespace Go.Proofs.YtapgbjedgcpffaaGreat.ta
open Go.R
set_option maxRecDepth 10000
set_option linter.unusedVariables false
set_option linter.unusedSimpArgs false
variable (ex:FuncId) {F:Fz} {H:Heap} {R:List Fp}
open w3 l1 pt ca cb cc cd
abbrev zTA1:List Str:=[⟨[43]⟩,⟨[45]⟩,⟨[42]⟩,⟨[47]⟩,⟨[37]⟩,⟨[38]⟩,⟨[124]⟩,⟨[94]⟩,⟨[60,60]⟩,⟨[62,62,62]⟩,⟨[62,62]⟩,⟨[61,61]⟩,⟨[33,61]⟩,⟨[60]⟩,⟨[60,61]⟩]
def opTx:List Str:=[⟨[43]⟩,⟨[45]⟩,⟨[42]⟩,⟨[47]⟩,⟨[37]⟩,⟨[38]⟩,⟨[124]⟩,⟨[94]⟩,⟨[60,60]⟩,⟨[62,62,62]⟩,⟨[62,62]⟩,⟨[61,61]⟩,⟨[33,61]⟩,⟨[60]⟩,⟨[60,61]⟩]
def opX(o:Int):List UInt8:=(opTx.getD (o-4).toNat default).b
def opF(e:ExpT)(m:Bool)(t:List UInt8):List UInt8:=if(e.kind=4\/e.kind=5)\/(m=true/\e.kind=1) then([40]++t)++[41] else t
def opK2(E:List ExpT)(ts:List (List UInt8))(i:Nat)(m:Bool):List UInt8:=opF (E.getD i default) m (ts.getD i [])
def fmN(k n:Int)(O:List UInt8)(o:Int)(E:List ExpT)(ts:List (List UInt8)):List UInt8:=
 if k=1 then gI n
 else if k=2 then O
 else if k=3 then((O++[91])++ts.getD 0 [])++[93]
 else if k=5 then(((opK2 E ts 0 false++[32,63,32])++opK2 E ts 1 false)++[32,58,32])++opK2 E ts 2 false
 else if o=20 then [45]++opK2 E ts 0 true
 else if o=21 then [126]++opK2 E ts 0 false
 else(((opK2 E ts 0 false++[32])++opX o)++[32])++opK2 E ts 1 false
mutual
def fmE:ExpT->List UInt8
 |⟨k,n,nm,o,ks⟩=>fmN k n nm.b o ks (kg ks)
def kg:List ExpT->List (List UInt8)
 | []=> []
 |e::l=>fmE e::kg l
end
def jnR:Bool->List Str->List UInt8
 |_,[]=> []
 |b,x::l=>(if b=true then [44,32] else [])++x.b++jnR true l
def jn(l:List Str):List UInt8:=jnR false l
def strs(l:List (List UInt8)):List Str:=l.map Str.mk
def fmK(s:StmT)(ind t e:List UInt8):List UInt8:=
 if s.kind=1 then s.name.b++[32,61,32]++fmE s.val++[59,10]
 else if s.kind=2 then s.name.b++[91]++fmE s.at_++[93,32,61,32]++fmE s.val++[59,10]
 else if s.kind=5 then [111,117,116,32]++fmE s.val++[59,10]
 else if s.kind=7 then [116,114,97,112,32]++gI s.n++[59,10]
 else if s.kind=4 then [119,104,105,108,101,32,40]++fmE s.val++[41,32,123,10]++t++ind++[125,10]
 else if s.kind=3 then [105,102,32,40]++fmE s.val++[41,32,123,10]++t++ind++[125]++(if 0<s.els.length then [32,101,108,115,101,32,123,10]++e++ind++[125] else [])++[10]
 else s.name.b++[32,61,32]++s.to.b++[40]++jn (strs (kg s.args))++[41,59,10]
mutual
def fmS:StmT->List UInt8->List UInt8
 |⟨k,nm,to,n,a,v,ar,t,e⟩,ind=>ind++fmK ⟨k,nm,to,n,a,v,ar,t,e⟩ ind (dq t (ind++[32,32])) (dq e (ind++[32,32]))
def dq:List StmT->List UInt8->List UInt8
 | [],_=> []
 |s::l,ind=>fmS s ind++dq l ind
end
def arT(a:ArrT):List UInt8:=[97,114,114,97,121,32]++a.name.b++[32]++gI a.len++[59,10]
def lcT(l:List Str):List UInt8:=if 0<l.length then [118,97,114,32]++jn l++[32] else []
def fnT(f:FunT):List UInt8:=[102,117,110,99,32]++f.name.b++[40]++jn f.pars++[41,32]++lcT f.locs++[123,10]++dq f.body [32,32]++[32,32,114,101,116,117,114,110,32]++fmE f.val++[59,10,125,10]
def txP(p:PrgT):List UInt8:=p.arrs.flatMap arT++p.funs.flatMap fnT
def prT(p:PrgT):List UInt8:=if chk p=0 then txP p else []
theorem jn_end{l:List Str}{s:List UInt8}{i:Nat}{b:Bool}(h:jn l=s++jnR b (l.drop i))(hi:l.length<=i):jn l=s:=by rw[h,d5 hi];cases b<;>exact a0p _
theorem jn_b{l:List Str}{s:List UInt8}{i n:Nat}{b:Bool}(hi:i<l.length)(h:jn l=s++jnR b (l.drop i))(E:(jn l).length<=n):s.length+(if b=true then 2 else 0)+(l.getD i default).b.length<=n:=by rw[h,cz (d:=default) hi,jnR,a00,a00,a00]at E;cases b<;>simp at E⊢ <;>omega
theorem jn_s1{l:List Str}{s:List UInt8}{i:Nat}(hi:i<l.length)(h:jn l=s++jnR (decide (0<i)) (l.drop i))(E:0<i):jn l=((s++[44,32])++(l.getD i default).b)++jnR (decide (0<i+1)) (l.drop (i+1)):=by rw[h,cz (d:=default) hi,jnR,decide_eq_true E,decide_eq_true (Nat.succ_pos i)];simp only[a0h,if_true]
theorem jn_s0{l:List Str}{s:List UInt8}{i:Nat}(hi:i<l.length)(h:jn l=s++jnR (decide (0<i)) (l.drop i))(E:i=0):jn l=(s++(l.getD i default).b)++jnR (decide (0<i+1)) (l.drop (i+1)):=by rw[h,cz (d:=default) hi,jnR,decide_eq_false (show ¬0<i by omega),decide_eq_true (Nat.succ_pos i)];simp
theorem fm_e(e:ExpT):fmE e=fmN e.kind e.n e.name.b e.op e.kids (kg e.kids):=by cases e;rw[fmE]
theorem fms_at: ∀{l:List ExpT} {i:Nat},i<l.length->(kg l).getD i []=fmE (l.getD i default)
 |e::l,0,_=>by rw[kg];rfl
 |e::l,i+1,h=>by rw[kg];exact fms_at (by simpa using h)
theorem op_at{l:List ExpT}{i:Nat}(m:Bool)(h:i<l.length):opK2 l (kg l) i m=opF (l.getD i default) m (fmE (l.getD i default)):=by unfold opK2;rw[fms_at h]
theorem fm_1{e:ExpT}(h:e.kind=1):fmE e=gI e.n:=by rw[fm_e,fmN,if_pos h]
theorem fm_2{e:ExpT}(h:e.kind=2):fmE e=e.name.b:=by rw[fm_e,fmN,if_neg M,if_pos h]
theorem fm_3{e:ExpT}(h:e.kind=3)(k:(e.kids.length:Int)=1):fmE e=((e.name.b++[91])++fmE (e.kids.getD 0 default))++[93]:=by rw[fm_e,fmN,if_neg M,if_neg M,if_pos h,fms_at M]
theorem fm_5{e:ExpT}(h:e.kind=5)(k:(e.kids.length:Int)=3):fmE e=(((opF (e.kids.getD 0 default) false (fmE (e.kids.getD 0 default))++[32,63,32])++opF (e.kids.getD 1 default) false (fmE (e.kids.getD 1 default)))++[32,58,32])++opF (e.kids.getD 2 default) false (fmE (e.kids.getD 2 default)):=by rw[fm_e,fmN,if_neg M,if_neg M,if_neg M,if_pos h,op_at _ M,op_at _ M,op_at _ M]
theorem fm_n{e:ExpT}(h:e.kind=4)(o:e.op=20)(k:(e.kids.length:Int)=1):fmE e=[45]++opF (e.kids.getD 0 default) true (fmE (e.kids.getD 0 default)):=by rw[fm_e,fmN,if_neg M,if_neg M,if_neg M,if_neg M,if_pos o,op_at _ M]
theorem fm_t{e:ExpT}(h:e.kind=4)(o:e.op=21)(k:(e.kids.length:Int)=1):fmE e=[126]++opF (e.kids.getD 0 default) false (fmE (e.kids.getD 0 default)):=by rw[fm_e,fmN,if_neg M,if_neg M,if_neg M,if_neg M,if_neg M,if_pos o,op_at _ M]
theorem fm_b{e:ExpT}(h:e.kind=4)(o:e.op≠20)(E:e.op≠21)(k:(e.kids.length:Int)=2):fmE e=(((opF (e.kids.getD 0 default) false (fmE (e.kids.getD 0 default))++[32])++opX e.op)++[32])++opF (e.kids.getD 1 default) false (fmE (e.kids.getD 1 default)):=by rw[fm_e,fmN,if_neg M,if_neg M,if_neg M,if_neg M,if_neg o,if_neg E,op_at _ M,op_at _ M]
theorem wf_parts{e:ExpT}(h:wfE e=true):fC e.kids=true/\wfN e.kind e.n e.name.b e.op (e.kids.length:Int)=true:=by rw[wf_e,a03]at h;exact h
theorem wfs_at: ∀{l:List ExpT} {i:Nat},fC l=true->i<l.length->wfE (l.getD i default)=true
 |e::l,0,h,_=>by rw[fC,a03]at h;exact h.1
 |e::l,i+1,h,hi=>by rw[fC,a03]at h;exact wfs_at (l:=l) h.2 (by simpa using hi)
theorem kd_at{l:List ExpT}{i:Nat}(h:fC l=true)(hi:i<l.length):ndE (l.getD i default)<=im l/\wfE (l.getD i default)=true/\∀m,(fmE (l.getD i default)).length<=(opF (l.getD i default) m (fmE (l.getD i default))).length:=⟨nu hi,wfs_at h hi,fun m=>by unfold opF;split<;>first|(simp only[a00];omega)|exact a07 _⟩
theorem op_len(e:ExpT)(m:Bool)(t:List UInt8):t.length<=(opF e m t).length:=by unfold opF;split<;>first|(simp only[a00];omega)|exact a07 _
theorem opF_1{e:ExpT}{m:Bool}{t:List UInt8}(h:(e.kind=4\/e.kind=5)\/(m=true/\e.kind=1)):opF e m t=([40]++t)++[41]:=by unfold opF;rw[if_pos h]
theorem opF_0{e:ExpT}{m:Bool}{t:List UInt8}(h:(e.kind≠4/\e.kind≠5)/\(m=true->e.kind≠1)):opF e m t=t:=by unfold opF;rw[if_neg (fun k=>k.elim (fun q=>q.elim h.1.1 h.1.2) fun q=>h.2 q.1 q.2)]
theorem wfN_3{k n o c:Int}{E:List UInt8}(h:k=3)(w:wfN k n E o c=true):c=1/\True:=by unfold wfN at w;rw[if_neg M,if_neg M,if_pos h]at w;simp only[a03,beq_iff_eq]at w;exact⟨w.1.1.1,trivial⟩
theorem wfN_5{k n o c:Int}{E:List UInt8}(h:k=5)(w:wfN k n E o c=true):c=3:=by unfold wfN at w;rw[if_neg M,if_neg M,if_neg M,if_neg M,if_pos h]at w;simp only[a03,beq_iff_eq]at w;exact w.1.1.1
theorem wfN_4{k n o c:Int}{Y:List UInt8}(E:k≠1)(O:k≠2)(T:k≠3)(U:k≠5)(w:wfN k n Y o c=true):k=4/\((o≠20/\o≠21)->c=2/\4<=o/\o<=18)/\((o=20\/o=21)->c=1):=by
 unfold wfN at w;rw[if_neg E,if_neg O,if_neg T]at w;split at w
 ·next h=>
  unfold binO at w;simp only[a03,a0C,beq_iff_eq,decide_eq_true_eq]at w;exact⟨h,fun q=>by omega,fun q=>by omega⟩
 cases w
theorem join_c{al:Option Addr}{ar:Nat}(l:List Str)(hs:HS (.of H []) F H [] R)(hl:SR F (sL al l.length ar) l)(hn:l.length<4611686018427387904)(a2:(jn l).length<=1099511627776):kKt ex 32 [(sL al l.length ar)] H fun v H'=> ∃(x:List UInt8),H'=H/\v=tX x/\x=jn l:=by
 refine av Tryz.func32 V V (ai 1 V (wr 2 [] 2 2 [] [(2,(tX []))] trivial V V fun _=>wr 3 [] 1 0 [3] [(3,(tX []))] trivial V V fun _=>wr 2 [] 1 0 [4] [(4,(.int _ 0))] trivial V V fun _=>aq (fun(mm:Nat) f H'=> ∃(s:List UInt8) (i:Nat),H'=H/\aJ f [(0,(sL al _ ar)),(3,(tX s)),(4,(.int _ (i:Int)))]/\mm=l.length-i/\(jn l=s++jnR (decide (0<i)) (l.drop i))/\(i<=l.length)) _ ⟨[],0,V,⟨V,V,V,trivial⟩,V,k_,M⟩ ?_));rintro a0 f4 H ⟨s,i,rfl,O,rfl,E,hi⟩ T;refine az _ O (fun _=>?_);clear O;refine ai 2 V (wr 1 [] 5 8 [] [(8,(.bool (decide ((i:Int)<(l.length:Int)))))] trivial V V fun _=>zd 5 5 (fun Z=>?_) fun Z=>?_)
 ·have fb:=jn_b (i:=i) M E a2;refine wr 1 [] 11 12 [] [(12,(.bool (decide ((0:Int)<(i:Int)))))] trivial V V fun _=>zd 0 1 (fun c8=>?_) fun c8=>?_
  ·rw[if_pos (decide_eq_true M)]at fb;refine wr 1 [] 13 14 [3] [(3,(tX (s++[44,32])))] (vA (show(s:List UInt8).length+([44,32]:List UInt8).length<=1099511627776 from by(simp only[a00,a02,List.length_nil];omega)) trivial) V V fun _=>?_
   obtain⟨an,U⟩:=Sv.view (SR.sv hl hs);refine wrp 2 15 20 [3] [(3,(tX ((s++[44,32])++(l.getD i _).b)))] (Ha_ (Sv.ix (SR.sv hl hs)) (Hl_ 4 (ql 9 0 (vS (U i)) V V) (Ha_ (show(s++[44,32]:List UInt8).length+((l.getD i _).b:List UInt8).length<=1099511627776 from by(simp only[a00,a02,List.length_nil];omega)) Hn_))) V V fun _=>wr 1 [] 9 10 [4] [(4,(.int _ _))] (vA (vi) trivial) V V fun _=>?_
   refine T _ _ _ ?_ ⟨_,i+1,V,⟨V,V,V,trivial⟩,V,(jn_s1 M E M),M⟩;omega
  rw[if_neg (by rw[decide_eq_true_eq];omega)]at fb;obtain⟨ax,Y⟩:=Sv.view (SR.sv hl hs);refine wrp 2 15 20 [3] [(3,(tX (s++(l.getD i _).b)))] (Ha_ (Sv.ix (SR.sv hl hs)) (Hl_ 4 (ql 9 0 (vS (Y i)) V V) (Ha_ (show(s:List UInt8).length+((l.getD i _).b:List UInt8).length<=1099511627776 from by omega) Hn_))) V V fun _=>wr 1 [] 9 10 [4] [(4,(.int _ _))] (vA (vi) trivial) V V fun _=>?_
  refine T _ _ _ ?_ ⟨_,i+1,V,⟨V,V,V,trivial⟩,V,(jn_s0 M E M),M⟩;omega
 refine wr 1 [] 2 2 [21] [(2,(tX s))] trivial V V fun _=>ae ⟨.inr V,_,V,s,V,V,(jn_end E M).symm⟩
theorem nz{E:Option Addr}{O:Nat}(l:List Str)(hs:HS (.of H []) F H [] R)(U:SR F (sL E l.length O) l)(Y:l.length<4611686018427387904)(T:(jn l).length<=1099511627776):kKt ex 32 [(sL E l.length O)] H fun v H'=>v=(tX (jn l))/\H'=H:=
 cq (join_c ex l hs U Y T) (by rintro _ _ ⟨_,rfl,rfl,rfl⟩;exact⟨V,V⟩)
abbrev Po13(F:Fz)(H:Heap)(R:List Fp)(c_:List UInt8)(v:Value)(H':Heap):Prop:= ∃(x:List UInt8) (F':Fz),Fz.le F F'/\HS (.of H []) F' H' [] R/\v=tX x/\x=c_
theorem optext_c(o:Int)(hs:HS (.of H []) F H [] R)(ho:4<=o/\o<=18):kKt ex 63 [(iI o)] H (Po13 F H R (opX o)):=by refine av Tryz.func63 V V (ai 1 V (wr 2 [] 2 2 [] [(2,(tX []))] trivial V V fun _=>ab (zlo zTA1 hs V j_ V fun Z k2 p2 Y O E=>?_)));obtain⟨U,T⟩:=Sv.view (OS.sv O E (i:=0) V);refine dA 5 1 4 7 [2] [(2,(tX (zTA1.getD _ _).b))] (Ha_ (vi) (Ha_ (Sv.ix (OS.sv O E (i:=0) V) M (show o-4<(15:Int) from by omega)) (Hl_ 4 (ql 9 0 (vS (T (o-4).toNat) (show(o-4).toNat<15 from by omega)) V V) Hn_))) V V fun _=>ah 1 V (ae ⟨.inr V,_,V,_,_,fR,(HS.forget E),V,k_⟩)
def FmtAll(ex:FuncId)(N:Nat):Prop:=
 (∀{E:Option Addr} {O:Nat} (e:ExpT) {F:Fz} {H:Heap} {R:List Fp} (hs:HS (.of H []) F H [] R) (he_0:in64 e.kind) (he_1:in64 e.n) (he_3:in64 e.op) (he_4:SR F (sL E e.kids.length O) e.kids) (hn:ndE e<4611686018427387904) (hw:wfE e=true) (hlen:(fmE e).length<=1099511627776) (hm:2 *ndE e<N),C Tryz.prog 0 (KX ex) 34 [(.agg ⟨[(iI e.kind),(iI e.n),(tX e.name.b),(iI e.op),(sL E e.kids.length O)]⟩)] H (Po13 F H R (fmE e)))/\
 (∀{E:Option Addr} {O:Nat} (e:ExpT) (m:Bool) {F:Fz} {H:Heap} {R:List Fp} (hs:HS (.of H []) F H [] R) (he_0:in64 e.kind) (he_1:in64 e.n) (he_3:in64 e.op) (he_4:SR F (sL E e.kids.length O) e.kids) (hn:ndE e<4611686018427387904) (hw:wfE e=true) (hlen:(opF e m (fmE e)).length<=1099511627776) (hm:2 *ndE e+1<N),C Tryz.prog 0 (KX ex) 62 [(.agg ⟨[(iI e.kind),(iI e.n),(tX e.name.b),(iI e.op),(sL E e.kids.length O)]⟩),(.bool m)] H (Po13 F H R (opF e m (fmE e))))
theorem fexpr_c_s{a4:Option Addr}{a7:Nat}(e:ExpT)(hs:HS (.of H []) F H [] R)(hQ:in64 e.kind)(hS:in64 e.n)(hT:in64 e.op)(O:SR F (sL a4 e.kids.length a7) e.kids)(hn:ndE e<4611686018427387904)(hw:wfE e=true)(cv:(fmE e).length<=1099511627776)(N:Nat)(ih:FmtAll ex N)(hm:2 *ndE e<N+1):kKt ex 34 [(aG [(iI e.kind),(iI e.n),(tX e.name.b),(iI e.op),(sL a4 e.kids.length a7)])] H (Po13 F H R (fmE e)):=by
 have i8:=nd_e e;obtain⟨a3,c3⟩:=wf_parts hw;refine av Tryz.func34 V V (ai 1 V (ab (dB (cV hs V V) V V ?_)));rintro _ H2 _ ⟨b1,rfl,E,_⟩;refine za (tX []) (ah 4 V (cP 1 3 6 [] [(3,(.bool (e.kind==1)))] (Hr_ 1 0 Hn_) E V V fun _=>zi 1 1 (fun c4=>?_) fun c4=>?_))
 ·try simp only[BS]at c4
  skip;refine ab (fQ 2 0 7 8 [] [(8,(.int _ e.n))] (Hr_ 1 0 Hn_) E V V fun _=>zc (w3.rtext_c ex e.n (HS.call E) M) ?_);rintro _ H6 ⟨r6,F6,f8,b9,rfl,rfl⟩;replace b9:=HS.back E V b9;refine za _ (ah 1 V (ae ⟨.inr V,_,V,_,_,(f8),(HS.forget b9),V,(fm_1 M).symm⟩))
 try simp only[BS]at c4
 refine cP 1 10 13 [] [(10,(.bool (e.kind==2)))] (Hr_ 1 0 Hn_) E V V fun _=>zi 1 1 (fun c8=>?_) fun c8=>?_
 ·try simp only[BS]at c8
  refine cP 1 14 15 [2] [(2,(tX e.name.b))] (Hr_ 1 0 Hn_) E V V fun _=>ae ⟨.inr V,_,V,_,_,fR,(HS.forget E),V,(fm_2 M).symm⟩
 try simp only[BS]at c8
 refine cP 1 16 19 [] [(16,(.bool (e.kind==3)))] (Hr_ 1 0 Hn_) E V V fun _=>zi 1 1 (fun a9=>?_) fun a9=>?_
 ·try simp only[BS]at a9
  have ax:=wfN_3 M c3;have al:=fm_3 (e:=e) M ax.1;have an:=cv;rw[al]at an;simp only[a00,a02,List.length_nil]at an;obtain⟨ka,kb,kc⟩:=kd_at (i:=0) a3 (show 0<e.kids.length by omega);refine aC V ?_;obtain⟨hH,ch⟩:=Sv.view (SR.sv O E);obtain⟨g2,g3,g4,dt⟩:=ExpT.fx (ch 0);refine de 7 20 26 [] [(22,(tX (e.name.b++[91]))),(26,(aG [_,_,_,_,_]))] (Hr_ 1 0 (Ha_ (show(e.name.b:List UInt8).length+([91]:List UInt8).length<=1099511627776 from by(simp only[a00,a02,List.length_nil];omega)) (Hr_ 4 0 (Ha_ (Sv.ix (SR.sv O E)) (Hl_ 6 (qn 42 0 5 (hc0 (ExpT.vw (ch 0))) V V V V) Hn_))))) E V V fun _=>bH (aX V V V) V V V (ih.1 _ (HS.call E.log0) M M M dt M M M M) (⟨.inl V,⟨.inl V,⟨.inl V,⟨.inl V,⟨.inr trivial,⟨.inr a0f,⟨.inr trivial,trivial⟩⟩⟩⟩⟩⟩⟩) ?_
  rintro _ f1 ⟨ik,hV,e3,a0,rfl,rfl⟩;refine⟨Wr.did a0.log,fun e8 c5=>?_⟩;replace a0:=HS.back E.log0 V a0;replace a0:=HS.lg a0 E c5;generalize ({f1 with log:=e8}:Heap)=hz at a0⊢;refine de 3 28 29 [2] [(2,(tX (((e.name.b++[91])++(fmE (e.kids.getD 0 _)))++[93])))] (Ha_ (show(e.name.b++[91]:List UInt8).length+(fmE (e.kids.getD 0 _):List UInt8).length<=1099511627776 from by(simp only[a00,a02,List.length_nil];omega)) (Ha_ (show((e.name.b++[91])++(fmE (e.kids.getD 0 _)):List UInt8).length+([93]:List UInt8).length<=1099511627776 from by(simp only[a00,a02,List.length_nil];omega)) Hn_)) a0 V V fun _=>bt 1 V (ae ⟨.inr V,_,V,_,_,(e3),(HS.forget a0),V,(al.symm)⟩)
 try simp only[BS]at a9
 refine cP 1 30 33 [] [(30,(.bool (e.kind==5)))] (Hr_ 1 0 Hn_) E V V fun _=>zi 1 1 (fun ba=>?_) fun ba=>?_
 ·try simp only[BS]at ba
  have ax:=wfN_5 M c3;have al:=fm_5 (e:=e) M ax;have an:=cv;rw[al]at an;simp only[a00,a02,List.length_nil]at an;obtain⟨ka,kb,kc⟩:=kd_at (i:=0) a3 (show 0<e.kids.length by omega);obtain⟨f9,gm,go⟩:=kd_at (i:=1) a3 (show 1<e.kids.length by omega);obtain⟨h8,h9,ib⟩:=kd_at (i:=2) a3 (show 2<e.kids.length by omega);refine aC V ?_;obtain⟨hI,ci⟩:=Sv.view (SR.sv O E);obtain⟨g5,g6,g7,d1⟩:=ExpT.fx (ci 0);refine de 4 34 37 [] [(37,(aG [_,_,_,_,_]))] (Hr_ 1 0 (Ha_ (Sv.ix (SR.sv O E)) (Hl_ 3 (qn 42 0 5 (hc0 (ExpT.vw (ci 0))) V V V V) Hn_))) E V V fun _=>bH (W:=[]) (aX V V V) V V V (ih.2 _ _ (HS.call E.log0) M M M d1 M M M M) (⟨.inl V,⟨.inl V,⟨.inl V,⟨.inl V,trivial⟩⟩⟩⟩) ?_
  rintro _ f2 ⟨it,hW,b5,T,rfl,rfl⟩;refine⟨Wr.did T.log,fun fb c6=>?_⟩;replace T:=HS.back E.log0 V T;replace T:=HS.lg T E c6;generalize ({f2 with log:=fb}:Heap)=hA at T⊢;replace O:=O.mono b5;refine de 2 39 40 [] [(39,(tX ((opF _ _ _)++[32,63,32]))),(40,(pT b1 4))] (Ha_ (show(opF _ _ _:List UInt8).length+([32,63,32]:List UInt8).length<=1099511627776 from by(simp only[a00,a02,List.length_nil];omega)) Hn_) T V V fun _=>bf (bc (i:=4) V V (HS.hc T.log0 (i:=0) V) V V) V V (fZ V) (⟨.inl V,⟨.inr trivial,⟨.inr a0f,⟨.inr trivial,⟨.inr trivial,⟨.inr trivial,⟨.inr trivial,trivial⟩⟩⟩⟩⟩⟩⟩) ?_
  obtain⟨hJ,ck⟩:=Sv.view (SR.sv O T);obtain⟨g8,g9,he,d2⟩:=ExpT.fx (ck 1);refine de 2 42 43 [] [(43,(aG [_,_,_,_,_]))] (Ha_ (Sv.ix (SR.sv O T)) (Hl_ 9 (qn 42 0 5 (hc0 (ExpT.vw (ck 1))) V V V V) Hn_)) T V V fun _=>bH (W:=[]) (aX V V V) V V V (ih.2 _ _ (HS.call T.log0) M M M d2 M M M M) (⟨.inl V,⟨.inl V,⟨.inl V,⟨.inl V,⟨.inr trivial,⟨.inl V,⟨.inl V,⟨.inl V,⟨.inl V,⟨.inl V,trivial⟩⟩⟩⟩⟩⟩⟩⟩⟩⟩) ?_
  rintro _ f3 ⟨i1,hX,b6,U,rfl,rfl⟩;refine⟨Wr.did U.log,fun fd c7=>?_⟩;replace U:=HS.back T.log0 V U;replace U:=HS.lg U T c7;generalize ({f3 with log:=fd}:Heap)=hB at U⊢;replace O:=O.mono b6;refine de 3 45 47 [] [(46,(tX ((((opF _ _ _)++[32,63,32])++(opF _ _ _))++[32,58,32]))),(47,(pT b1 4))] (Ha_ (show((opF _ _ _)++[32,63,32]:List UInt8).length+(opF _ _ _:List UInt8).length<=1099511627776 from by(simp only[a00,a02,List.length_nil];omega)) (Ha_ (show(((opF _ _ _)++[32,63,32])++(opF _ _ _):List UInt8).length+([32,58,32]:List UInt8).length<=1099511627776 from by(simp only[a00,a02,List.length_nil];omega)) Hn_)) U V V fun _=>bf (bc (i:=4) V V (HS.hc U.log0 (i:=0) V) V V) V V (fZ V) (⟨.inl V,⟨.inr trivial,⟨.inr trivial,⟨.inr a0f,⟨.inr trivial,⟨.inr trivial,⟨.inr trivial,⟨.inr trivial,⟨.inr trivial,⟨.inr a0f,⟨.inr trivial,⟨.inr trivial,⟨.inr trivial,⟨.inr trivial,trivial⟩⟩⟩⟩⟩⟩⟩⟩⟩⟩⟩⟩⟩⟩) ?_
  obtain⟨hK,cm⟩:=Sv.view (SR.sv O U);obtain⟨hf,hg,hh,d3⟩:=ExpT.fx (cm 2);refine de 2 49 50 [] [(50,(aG [_,_,_,_,_]))] (Ha_ (Sv.ix (SR.sv O U)) (Hl_ 16 (qn 42 0 5 (hc0 (ExpT.vw (cm 2))) V V V V) Hn_)) U V V fun _=>bH (W:=[]) (aX V V V) V V V (ih.2 _ _ (HS.call U.log0) M M M d3 M M M M) (⟨.inl V,⟨.inl V,⟨.inl V,⟨.inl V,⟨.inr trivial,⟨.inr trivial,⟨.inl V,⟨.inl V,⟨.inl V,⟨.inl V,⟨.inl V,⟨.inr trivial,⟨.inl V,⟨.inl V,⟨.inl V,⟨.inl V,⟨.inl V,trivial⟩⟩⟩⟩⟩⟩⟩⟩⟩⟩⟩⟩⟩⟩⟩⟩⟩) ?_
  rintro _ f4 ⟨i2,h0,e4,a1,rfl,rfl⟩;refine⟨Wr.did a1.log,fun fi c9=>?_⟩;replace a1:=HS.back U.log0 V a1;replace a1:=HS.lg a1 U c9;generalize ({f4 with log:=fi}:Heap)=hD at a1⊢;refine de 2 2 2 [52] [(2,(tX (((((opF (e.kids.getD 0 default) false (fmE (e.kids.getD 0 default)))++[32,63,32])++(opF (e.kids.getD 1 default) false (fmE (e.kids.getD 1 default))))++[32,58,32])++(opF (e.kids.getD 2 default) false (fmE (e.kids.getD 2 default))))))] (Ha_ (show((((opF (e.kids.getD 0 default) false (fmE (e.kids.getD 0 default)))++[32,63,32])++(opF (e.kids.getD 1 default) false (fmE (e.kids.getD 1 default))))++[32,58,32]:List UInt8).length+(opF (e.kids.getD 2 default) false (fmE (e.kids.getD 2 default)):List UInt8).length<=1099511627776 from by(simp only[a00,a02,List.length_nil];omega)) Hn_) a1 V V fun _=>bt 1 V (ae ⟨.inr V,_,V,((((opF (e.kids.getD 0 default) false (fmE (e.kids.getD 0 default)))++[32,63,32])++(opF (e.kids.getD 1 default) false (fmE (e.kids.getD 1 default))))++[32,58,32])++(opF (e.kids.getD 2 default) false (fmE (e.kids.getD 2 default))),_,(fT (fT (b5) b6) e4),(HS.forget a1),V,(al.symm)⟩)
 try simp only[BS]at ba
 have ax:=wfN_4 M M M M c3;refine cP 1 53 56 [] [(53,(.bool (e.op==20)))] (Hr_ 1 0 Hn_) E V V fun _=>zi 1 1 (fun bb=>?_) fun bb=>?_
 ·try simp only[BS]at bb
  have al:=fm_n (e:=e) ax.1 M (ax.2.2 M);have an:=cv;rw[al]at an;simp only[a00,a02,List.length_nil]at an;obtain⟨ka,kb,kc⟩:=kd_at (i:=0) a3 (show 0<e.kids.length by have:=ax.2.2 M;omega);refine ab ?_;obtain⟨b0,co⟩:=Sv.view (SR.sv O E);obtain⟨hj,hk,hl,em⟩:=ExpT.fx (co 0);refine fQ 4 0 57 60 [] [(60,(aG [(iI (e.kids.getD 0 default).kind),(iI (e.kids.getD 0 default).n),(tX (e.kids.getD 0 default).name.b),(iI (e.kids.getD 0 default).op),(sL (cA (b0 0) 4) (e.kids.getD 0 default).kids.length (cK (b0 0) 4))]))] (Hr_ 1 0 (Ha_ (Sv.ix (j:=0) (SR.sv O E)) (Hl_ 3 (qn 42 0 5 (ExpT.vw (co 0)) V V V V) Hn_))) E V V fun _=>zc (ih.2 (e.kids.getD 0 default) true (HS.call E) M M M em M M M M) ?_
  rintro _ h6 ⟨i3,h1,e5,a5,rfl,rfl⟩;replace a5:=HS.back E V a5;refine dA 2 5 2 2 [62] [(2,(tX ([45]++(opF (e.kids.getD 0 default) true (fmE (e.kids.getD 0 default))))))] (Ha_ (show([45]:List UInt8).length+(opF (e.kids.getD 0 default) true (fmE (e.kids.getD 0 default)):List UInt8).length<=1099511627776 from by omega) Hn_) (by kernel_rfl) V fun _=>ah 1 V (ae ⟨.inr V,_,V,[45]++(opF (e.kids.getD 0 default) true (fmE (e.kids.getD 0 default))),_,(e5),(HS.forget a5),V,(al.symm)⟩)
 try simp only[BS]at bb
 refine cP 1 63 66 [] [(63,(.bool (e.op==21)))] (Hr_ 1 0 Hn_) E V V fun _=>zi 1 3 (fun bl=>?_) fun bl=>?_
 ·try simp only[BS]at bl
  have al:=fm_t (e:=e) ax.1 M (ax.2.2 M);have an:=cv;rw[al]at an;simp only[a00,a02,List.length_nil]at an;obtain⟨ka,kb,kc⟩:=kd_at (i:=0) a3 (show 0<e.kids.length by have:=ax.2.2 M;omega);refine ab ?_;obtain⟨b2,cw⟩:=Sv.view (SR.sv O E);obtain⟨ho,hp,hq,et⟩:=ExpT.fx (cw 0);refine fQ 4 0 67 70 [] [(70,(aG [(iI (e.kids.getD 0 default).kind),(iI (e.kids.getD 0 default).n),(tX (e.kids.getD 0 default).name.b),(iI (e.kids.getD 0 default).op),(sL (cA (b2 0) 4) (e.kids.getD 0 default).kids.length (cK (b2 0) 4))]))] (Hr_ 1 0 (Ha_ (Sv.ix (j:=0) (SR.sv O E)) (Hl_ 3 (qn 42 0 5 (ExpT.vw (cw 0)) V V V V) Hn_))) E V V fun _=>zc (ih.2 (e.kids.getD 0 default) false (HS.call E) M M M et M M M M) ?_
  rintro _ h7 ⟨i4,h2,e6,a6,rfl,rfl⟩;replace a6:=HS.back E V a6;refine dA 2 5 2 2 [72] [(2,(tX ([126]++(opF (e.kids.getD 0 default) false (fmE (e.kids.getD 0 default))))))] (Ha_ (show([126]:List UInt8).length+(opF (e.kids.getD 0 default) false (fmE (e.kids.getD 0 default)):List UInt8).length<=1099511627776 from by omega) Hn_) (by kernel_rfl) V fun _=>ah 1 V (ae ⟨.inr V,_,V,[126]++(opF (e.kids.getD 0 default) false (fmE (e.kids.getD 0 default))),_,(e6),(HS.forget a6),V,(al.symm)⟩)
 try simp only[BS]at bl
 have g1:=ax.2.1 M;have al:=fm_b (e:=e) ax.1 M M g1.1;have an:=cv;rw[al]at an;simp only[a00,a02,List.length_nil]at an;obtain⟨ka,kb,kc⟩:=kd_at (i:=0) a3 (show 0<e.kids.length by omega);obtain⟨f9,gm,go⟩:=kd_at (i:=1) a3 (show 1<e.kids.length by omega);refine aC V ?_;obtain⟨b3,cL⟩:=Sv.view (SR.sv O E);obtain⟨hr,ht,hu,ez⟩:=ExpT.fx (cL 0);refine de 4 73 76 [] [(76,(aG [(iI (e.kids.getD 0 default).kind),(iI (e.kids.getD 0 default).n),(tX (e.kids.getD 0 default).name.b),(iI (e.kids.getD 0 default).op),(sL (cA (b3 0) 4) (e.kids.getD 0 default).kids.length (cK (b3 0) 4))]))] (Hr_ 1 0 (Ha_ (Sv.ix (j:=0) (SR.sv O E)) (Hl_ 3 (qn 42 0 5 (hc0 (ExpT.vw (cL 0))) V V V V) Hn_))) E V V fun _=>bH (W:=[]) (aX V V V) V V V (ih.2 (e.kids.getD 0 default) false (HS.call E.log0) M M M ez M M M M) (⟨.inl V,⟨.inl V,⟨.inl V,⟨.inl V,trivial⟩⟩⟩⟩) ?_
 rintro _ f5 ⟨i5,h3,b7,Z,rfl,rfl⟩;refine⟨Wr.did Z.log,fun fk dd=>?_⟩;replace Z:=HS.back E.log0 V Z;replace Z:=HS.lg Z E dd;generalize ({f5 with log:=fk}:Heap)=hE at Z⊢;refine de 2 78 79 [] [(78,(tX ((opF (e.kids.getD 0 default) false (fmE (e.kids.getD 0 default)))++[32]))),(79,(pT b1 3))] (Ha_ (show(opF (e.kids.getD 0 default) false (fmE (e.kids.getD 0 default)):List UInt8).length+([32]:List UInt8).length<=1099511627776 from by(simp only[a00,a02,List.length_nil];omega)) Hn_) Z V V fun _=>bf (v:=(iI e.op)) (id:= .l b1) (bc (i:=3) V V (HS.hc Z.log0 (i:=0) V) V V) V V (fZ V) (⟨.inl V,⟨.inr trivial,⟨.inr a0f,⟨.inr trivial,⟨.inr trivial,⟨.inr trivial,⟨.inr trivial,trivial⟩⟩⟩⟩⟩⟩⟩) (bH (W:=[]) (aX V V V) V V V (optext_c ex e.op (HS.call Z.log0) M) (⟨.inl V,⟨.inl V,⟨.inr trivial,⟨.inl V,⟨.inl V,⟨.inl V,⟨.inl V,⟨.inl V,trivial⟩⟩⟩⟩⟩⟩⟩⟩) ?_)
 rintro _ f6 ⟨i6,h4,b8,Y,rfl,rfl⟩;refine⟨Wr.did Y.log,fun fl dk=>?_⟩;replace Y:=HS.back Z.log0 V Y;replace Y:=HS.lg Y Z dk;generalize ({f6 with log:=fl}:Heap)=hF at Y⊢;replace O:=(O.mono b7).mono b8;refine de 3 82 84 [] [(83,(tX ((((opF (e.kids.getD 0 default) false (fmE (e.kids.getD 0 default)))++[32])++(opX e.op))++[32]))),(84,(pT b1 4))] (Ha_ (show((opF (e.kids.getD 0 default) false (fmE (e.kids.getD 0 default)))++[32]:List UInt8).length+(opX e.op:List UInt8).length<=1099511627776 from by(simp only[a00,a02,List.length_nil];omega)) (Ha_ (show(((opF (e.kids.getD 0 default) false (fmE (e.kids.getD 0 default)))++[32])++(opX e.op):List UInt8).length+([32]:List UInt8).length<=1099511627776 from by(simp only[a00,a02,List.length_nil];omega)) Hn_)) Y V V fun _=>bf (v:=(sL a4 e.kids.length a7)) (id:= .l b1) (bc (i:=4) V V (HS.hc Y.log0 (i:=0) V) V V) V V (fZ V) (⟨.inl V,⟨.inr trivial,⟨.inr trivial,⟨.inr a0f,⟨.inr trivial,⟨.inr trivial,⟨.inr trivial,⟨.inr a0f,⟨.inr trivial,⟨.inr trivial,⟨.inr trivial,⟨.inr trivial,trivial⟩⟩⟩⟩⟩⟩⟩⟩⟩⟩⟩⟩) ?_
 obtain⟨b4,c0⟩:=Sv.view (SR.sv O Y);obtain⟨hv,hx,hy,e0⟩:=ExpT.fx (c0 1);refine de 2 86 87 [] [(87,(aG [(iI (e.kids.getD 1 default).kind),(iI (e.kids.getD 1 default).n),(tX (e.kids.getD 1 default).name.b),(iI (e.kids.getD 1 default).op),(sL (cA (b4 1) 4) (e.kids.getD 1 default).kids.length (cK (b4 1) 4))]))] (Ha_ (Sv.ix (j:=1) (SR.sv O Y)) (Hl_ 14 (qn 42 0 5 (hc0 (ExpT.vw (c0 1))) V V V V) Hn_)) Y V V fun _=>bH (W:=[]) (aX V V V) V V V (ih.2 (e.kids.getD 1 default) false (HS.call Y.log0) M M M e0 M M M M) (⟨.inl V,⟨.inl V,⟨.inl V,⟨.inl V,⟨.inr trivial,⟨.inr trivial,⟨.inl V,⟨.inl V,⟨.inl V,⟨.inr trivial,⟨.inl V,⟨.inl V,⟨.inl V,⟨.inl V,⟨.inl V,trivial⟩⟩⟩⟩⟩⟩⟩⟩⟩⟩⟩⟩⟩⟩⟩) ?_
 rintro _ f7 ⟨i7,h5,e7,a2,rfl,rfl⟩;refine⟨Wr.did a2.log,fun fu dn=>?_⟩;replace a2:=HS.back Y.log0 V a2;replace a2:=HS.lg a2 Y dn;generalize ({f7 with log:=fu}:Heap)=hG at a2⊢;refine de 2 2 2 [89] [(2,(tX (((((opF (e.kids.getD 0 default) false (fmE (e.kids.getD 0 default)))++[32])++(opX e.op))++[32])++(opF (e.kids.getD 1 default) false (fmE (e.kids.getD 1 default))))))] (Ha_ (show((((opF (e.kids.getD 0 default) false (fmE (e.kids.getD 0 default)))++[32])++(opX e.op))++[32]:List UInt8).length+(opF (e.kids.getD 1 default) false (fmE (e.kids.getD 1 default)):List UInt8).length<=1099511627776 from by(simp only[a00,a02,List.length_nil];omega)) Hn_) a2 V V fun _=>bt 1 V (ae ⟨.inr V,_,V,((((opF (e.kids.getD 0 default) false (fmE (e.kids.getD 0 default)))++[32])++(opX e.op))++[32])++(opF (e.kids.getD 1 default) false (fmE (e.kids.getD 1 default))),_,(fT (fT (b7) b8) e7),(HS.forget a2),V,(al.symm)⟩)
theorem foper_c_s{T:Option Addr}{al:Nat}(e:ExpT)(m:Bool)(hs:HS (.of H []) F H [] R)(a1:in64 e.kind)(a2:in64 e.n)(a3:in64 e.op)(U:SR F (sL T e.kids.length al) e.kids)(hn:ndE e<4611686018427387904)(hw:wfE e=true)(ar:(opF e m (fmE e)).length<=1099511627776)(N:Nat)(ih:FmtAll ex N)(hm:2 *ndE e+1<N+1):kKt ex 62 [(aG [(iI e.kind),(iI e.n),(tX e.name.b),(iI e.op),(sL T e.kids.length al)]),(.bool m)] H (Po13 F H R (opF e m (fmE e))):=by
 have a4:=op_len e m (fmE e);refine av Tryz.func62 V V (ai 1 V (ab (dB (cV hs V V) V V ?_)));rintro _ H2 _ ⟨b1,rfl,E,_⟩;refine za (tX []) (ah 3 V (cP 1 5 20 [] [(20,(.bool (((e.kind==4)||(e.kind==5))||(m&&(e.kind==1)))))] (Hr_ 1 0 (Hl1_ 5 (fun _=>(ql 3 0 (h_ E V) V V)) (Hl2_ 12 (fun _ _=>(ql 3 0 (h_ E V) V V)) Hn_))) E V V fun _=>zi 1 2 (fun O=>?_) fun O=>?_))
 ·try simp only[BS]at O
  have zc:=O;have an:=ar;rw[opF_1 O]at an;simp only[a00,a02,List.length_nil]at an;refine ab (fQ 1 0 21 21 [] [(21,(aG [_,_,_,_,_]))] (Hr_ 0 0 Hn_) E V V fun _=>e9 (aX V V V) V V (ih.1 e (HS.call E) M M M U M M M M) ?_);rintro _ H6 ⟨x6,F6,ax,Y,rfl,rfl⟩;replace Y:=HS.back E V Y;refine dA 3 2 23 24 [4] [(4,(tX (([40]++(fmE e))++[41])))] (Ha_ (show([40]:List UInt8).length+(fmE e:List UInt8).length<=1099511627776 from by(simp only[a00,a02,List.length_nil];omega)) (Ha_ (show([40]++(fmE e):List UInt8).length+([41]:List UInt8).length<=1099511627776 from by(simp only[a00,a02,List.length_nil];omega)) Hn_)) V V fun _=>ah 1 V (ae ⟨.inr V,_,V,_,_,(ax),(HS.forget Y),V,(opF_1 zc).symm⟩)
 try simp only[BS]at O
 have zc:=O;refine ab (fQ 1 0 25 25 [] [(25,(aG [_,_,_,_,_]))] (Hr_ 0 0 Hn_) E V V fun _=>e9 (aX V V V) V V (ih.1 e (HS.call E) M M M U M M M M) ?_);rintro _ H9 ⟨x9,F9,a0,Z,rfl,rfl⟩;replace Z:=HS.back E V Z;refine za _ (ah 1 V (ae ⟨.inr V,_,V,_,_,(a0),(HS.forget Z),V,(opF_0 zc).symm⟩))
theorem jY(ex:FuncId): ∀N,FmtAll ex N
 |0=>⟨by intros;omega,by intros;omega⟩
 |N+1=>⟨by intros;apply fexpr_c_s ex (N:=N) (ih:=jY ex N)<;>assumption,by intros;apply foper_c_s ex (N:=N) (ih:=jY ex N)<;>assumption⟩
theorem gx{E:Option Addr}{O:Nat}(e:ExpT)(hs:HS (.of H []) F H [] R)(T:in64 e.kind)(U:in64 e.n)(Y:in64 e.op)(Z:SR F (sL E e.kids.length O) e.kids)(hn:ndE e<4611686018427387904)(hw:wfE e=true)(al:(fmE e).length<=1099511627776):kKt ex 34 [(aG [(iI e.kind),(iI e.n),(tX e.name.b),(iI e.op),(sL E e.kids.length O)])] H (Po13 F H R (fmE e)):=by apply(jY ex (2 *ndE e+1)).1<;>first|assumption|exact a0w _
end Go.Proofs.YtapgbjedgcpffaaGreat.ta
