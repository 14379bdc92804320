/-
Plain laws: what the functions compute answers as the statement says. No condition beyond those that each statement names.
-/
import Derived.Test.YtkpgbdkkgcdhmaaZNLN
noncomputable section
namespace Go.Proofs.Ytkpgbdkkgcdhmaa.np
open Go.R w3 l1 pt ta tb bk df dh ln
set_option linter.unusedVariables false
set_option linter.unusedSimpArgs false
theorem ar_e(a:ArrT): ∃x,arT a=x++[10]:=⟨[97,114,114,97,121,32]++a.name.b++[32]++eL a.len++[59],by unfold arT;simp⟩
theorem fn_e(f:FunT): ∃x,fnT f=x++[10]:=⟨[102,117,110,99,32]++f.name.b++[40]++jn f.pars++[41,32]++lcT f.locs++[123,10]++hZ f.body [32,32]++[32,32,114,101,116,117,114,110,32]++fmE f.val++[59,10,125],by unfold fnT;simp⟩
theorem fl_e{α:Type}{g:α->List UInt8}(h: ∀a,∃x,g a=x++[10]): ∀l:List α,0<l.length->∃x,l.flatMap g=x++[10]
 | [a],_=>by obtain⟨x,A⟩:=h a;exact⟨x,by rw[a1B,A];simp⟩
 |a::b::l,_=>by obtain⟨x,A⟩:=fl_e h (b::l) (by simp);exact⟨g a++x,by rw[a1B,A,a0c]⟩
theorem tx_e{p:PrgT}(h:0<p.arrs.length+p.funs.length): ∃x,txP p=x++[10]:=by
 unfold txP;rcases a1j p.funs.length with A|A
 ·obtain⟨x,E⟩:=fl_e ar_e p.arrs M;exact⟨x,by rw[E,a0h A];simp⟩
 obtain⟨x,E⟩:=fl_e fn_e p.funs A;exact⟨p.arrs.flatMap arT++x,by rw[E,a0c]⟩
theorem tx_0{p:PrgT}(h:p.arrs.length+p.funs.length=0):txP p=[]:=by unfold txP;rw[a0h (show p.arrs.length=0 by omega),a0h (show p.funs.length=0 by omega)];rfl
theorem pt_e{p:PrgT}(h:ckP p=0)(k:0<p.arrs.length+p.funs.length): ∃x,eZ p=x++[10]:=by obtain⟨x,A⟩:=tx_e k;exact⟨x,p5_1 h A⟩
theorem pt_n{p:PrgT}(h:eZ p≠ []):ckP p=0/\0<p.arrs.length+p.funs.length:=by
 by_cases c:ckP p=0
 ·refine⟨c,Nat.pos_of_ne_zero fun k=>h (p5_1 c (tx_0 k))⟩
 exact absurd (p5_0 c) h
theorem pt_p{p:PrgT}(h:ckP p=0)(k:0<p.arrs.length+p.funs.length):eZ p≠ []:=by obtain⟨x,A⟩:=pt_e h k;rw[A];simp
theorem pt_l{p:PrgT}(h:eZ p≠ []):(eZ p).getD ((eZ p).length-1) 0=10:=by obtain⟨c,k⟩:=pt_n h;obtain⟨x,A⟩:=pt_e c k;rw[A,a00,a1i,Nat.add_sub_cancel,a0b,a0O (a08 _)];simp
theorem bad_{p:PrgT}(h:((((eZ p) !=([]:List UInt8)) !=((ckP p==0)&&(decide ((0:Int)<((p.arrs).length:Int)+((p.funs).length:Int)))))||(((eZ p) !=([]:List UInt8))&&((((eZ p).getD (((eZ p).length:Int)-1).toNat 0).toNat:Int) !=10)))=true):False:=by
 by_cases e:eZ p=[]
 ·have A:(eZ p !=([]:List UInt8))=false:=by rw[e];rfl
  have E:((ckP p==0)&&(decide ((0:Int)<((p.arrs).length:Int)+((p.funs).length:Int))))=false:=Bool.eq_false_iff.2 fun q=>by simp only[a05,beq_iff_eq,decide_eq_true_eq]at q;exact pt_p q.1 M e
  rw[A,E]at h;simp at h
 have A:(eZ p !=([]:List UInt8))=true:=bne_iff_ne.2 e;obtain⟨c,k⟩:=pt_n e;have E:((ckP p==0)&&(decide ((0:Int)<((p.arrs).length:Int)+((p.funs).length:Int))))=true:=by simp only[a05,beq_iff_eq,decide_eq_true_eq];exact⟨c,by omega⟩
 have O:((((eZ p).getD (((eZ p).length:Int)-1).toNat 0).toNat:Int) !=10)=false:=by rw[show(((eZ p).length:Int)-1).toNat=(eZ p).length-1 by omega,pt_l e];rfl
 rw[A,E,O]at h;simp at h
theorem as_n: ∀l:List ArrT,l.length<=iD l
 | []=>a0p _
 |a::l=>by have:=as_n l;rw[iD,bkA,a01];omega
theorem fs_n: ∀l:List FunT,l.length<=kO l
 | []=>a0p _
 |a::l=>by have:=fs_n l;have:=bkE_pos a.val;rw[kO,bkF,a01];omega
theorem cnt{p:PrgT}(h:GdB p):p.arrs.length+p.funs.length<=1100000:=by
 have A:=h.b;have E:=as_n p.arrs;have O:=fs_n p.funs
 unfold bkP at A;omega
theorem pl5{p:PrgT}(h:GdB p):(eZ p).length<=2000000000:=by
 unfold eZ;split
 ·exact h.len5 X
 exact a0p _
end Go.Proofs.Ytkpgbdkkgcdhmaa.np
