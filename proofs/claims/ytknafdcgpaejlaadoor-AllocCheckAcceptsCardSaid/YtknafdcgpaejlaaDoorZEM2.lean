/-
 Plain laws: what the functions compute answers as the statement says. No condition beyond those that each statement names.
-/
import Derived.Test.YtknafdcgpaejlaaDoorZEM1
noncomputable section
namespace Go.Proofs.YtknafdcgpaejlaaDoor.m2
open Go.R m1
set_option linter.unusedVariables false
set_option linter.unusedSimpArgs false
def aQ(regs n:Int):Bool:=decide (0<=n/\n<regs)
def aD(op:Int):Int:=if op=38 then 5 else(aP op).form
def aK(op:Int):InfT:=if op=38 then⟨⟨[]⟩,5,false,true,false,false,0⟩ else aP op
def dI(has:Bool)(n regs:Int):Bool:=bif has then aQ regs n else decide (n=0)
def io(params op n:Int):Bool:=if op=13 then true else if op=33 then decide (-4194304<=n/\n<4194304) else if op=6 then decide (0<=n/\n<8) else if op=34\/op=35 then decide (0<=n/\n<4) else if op=38 then decide (0<=n/\n<params) else decide (n=0)
def fj(params regs:Int)(v:VInT):Bool:=
 alV v.i.op&&decide (v.i.op=6\/v.args.length=0)&&decide (v.args.length<=6)&&v.args.all (aQ regs)&&dI (decide (aD v.i.op≠1)) v.i.a regs&&
  dI (decide (aD v.i.op=3\/aD v.i.op=4\/aD v.i.op=7)) v.i.b regs&&dI (decide (aD v.i.op=4)) v.i.c regs&&io params v.i.op v.i.n
def vendV(nb regs:Int)(b:BlkT):Bool:=
 if b.fin=1 then aQ nb b.tgt&&decide (b.els=0)&&decide (b.reg=0)
 else if b.fin=2 then aQ nb b.tgt&&aQ nb b.els&&aQ regs b.reg
 else if b.fin=3 then aQ regs b.reg&&decide (b.tgt=0)&&decide (b.els=0)
 else if b.fin=4 then decide (1<=b.tgt/\b.tgt<33554432)&&decide (b.els=0)&&decide (b.reg=0) else false
def blkV(params regs nb:Int)(b:BlkT):Bool:=b.ins.all (fj params regs)&&vendV nb regs b
def bJ(c:VFnT):Bool:=decide (0<=c.params/\c.params<=6/\0<=c.regs/\c.regs<=3000/\1<=c.blocks.length/\c.blocks.length<=1000)&&c.blocks.all (blkV c.params c.regs c.blocks.length)
theorem bh{op:Int}(h:alV op=true):(op=3/\aD op=1)\/((op=6\/op=13\/op=33\/op=38)/\aD op=5)\/((op=9\/op=15\/op=16)/\aD op=2)\/((op=10\/(17<=op/\op<=32))/\aD op=3)\/((op=11\/op=12)/\aD op=4)\/((op=34\/op=35)/\aD op=7):=by
 unfold alV at h;have h:=of_decide_eq_true h;have e: ∃k:Fin 39,op=(k.val:Int):=⟨⟨op.toNat,by omega⟩,by simp;omega⟩
 obtain⟨k,rfl⟩:=e;revert k;decide
theorem eG{α:Type} [Inhabited α]{p:α->Bool}{l:List α}: ∀j,j<0->p (l.getD j default)=true:=fun j h=>by omega
theorem da{α:Type} [Inhabited α]{p:α->Bool}{l:List α}{k:Nat}(h: ∀j,j<k->p (l.getD j default)=true)(c:p (l.getD k default)=true): ∀j,j<k+1->p (l.getD j default)=true:=fun j hj=>by
 rcases Nat.lt_succ_iff_lt_or_eq.1 hj with A|rfl
 ·exact h j A
 exact c
theorem fJ{α:Type} [Inhabited α]{p:α->Bool}{l:List α}{k:Nat}(h: ∀j,j<k->p (l.getD j default)=true)(hk:l.length<=k):l.all p=true:=by rw[a0w];intro x hx;obtain⟨j,hj,rfl⟩:=a0A.1 hx;have:=h j (by omega);rwa [a01,a04 hj]at this
theorem all_at{α:Type} [Inhabited α]{p:α->Bool}{l:List α}(h:l.all p=true){k:Nat}(hk:k<l.length):p (l.getD k default)=true:=a0w.1 h _ (by rw[a01,a04 hk];exact a1w hk)
theorem dW{α:Type} [Inhabited α]{p:α->Bool}{l:List α}{k:Nat}(hk:k<l.length)(c:p (l.getD k default)=false):l.all p=false:=by
 cases h:l.all p with
 |false=>rfl
 |true=>rw[all_at h hk]at c;cases c
theorem vin_no{params regs:Int}{v:VInT}(h:v.args.all (aQ regs)=false):false=fj params regs v:=by unfold fj;rw[h];simp
theorem vin_bad2{params regs:Int}{v:VInT}(h:(alV v.i.op=false\/v.i.op≠6/\0<(v.args.length:Int))\/6<(v.args.length:Int)):false=fj params regs v:=by
 unfold fj;rcases h with(h|⟨h,A⟩)|h
 ·rw[h];simp
 ·rw[decide_eq_false (p:=v.i.op=6\/v.args.length=0) (by omega)];simp
 rw[decide_eq_false (p:=v.args.length<=6) (by omega)];simp
theorem vinf_form{op:Int}:(aK op).form=aD op:=by unfold aK aD;split<;>rfl
theorem aZ{r n:Int}:aQ r n=true↔0<=n/\n<r:=by unfold aQ;exact decide_eq_true_iff
theorem dh{r n:Int}:aQ r n=false↔ ¬(0<=n/\n<r):=by unfold aQ;exact decide_eq_false_iff_not
theorem bX{nb regs:Int}{b:BlkT}:vendV nb regs b=true↔(b.fin=1/\0<=b.tgt/\b.tgt<nb/\b.els=0/\b.reg=0\/b.fin=2/\0<=b.tgt/\b.tgt<nb/\0<=b.els/\b.els<nb/\0<=b.reg/\b.reg<regs\/b.fin=3/\0<=b.reg/\b.reg<regs/\b.tgt=0/\b.els=0\/b.fin=4/\1<=b.tgt/\b.tgt<33554432/\b.els=0/\b.reg=0):=by
 unfold vendV
 (repeat' split)<;>(try simp only[a0d,aZ,decide_eq_true_eq])<;>first|omega|(simp only[a0K,false_iff];omega)
theorem vin_bad{params regs:Int}{v:VInT}(h:(alV v.i.op=false\/6<(v.args.length:Int))\/(¬v.i.op=6/\0<(v.args.length:Int))):false=fj params regs v:=by
 unfold fj;rcases h with(h|h)|⟨h,A⟩
 ·rw[h];simp
 ·rw[decide_eq_false (p:=v.args.length<=6) (by omega)];simp
 rw[decide_eq_false (p:=v.i.op=6\/v.args.length=0) (by omega)];simp
theorem imm0{params op n:Int}(h:op=3\/op=9\/op=15\/op=16\/op=10\/(17<=op/\op<=32)\/op=11\/op=12):io params op n=decide (n=0):=by unfold io;rw[if_neg (by omega),if_neg (by omega),if_neg (by omega),if_neg (by omega),if_neg (by omega)]
def badV(av bv dv nv:Bool)(regs a b c n:Int):Bool:=
 ((((((((av&&(!(aQ regs a)))||(bv&&(!(aQ regs b))))||(dv&&(!(aQ regs c))))||((!av)&&(a !=0)))||((!bv)&&(b !=0)))||((!dv)&&(c !=0)))||((!nv)&&(n !=0))))
theorem bad_eq(av bv dv nv:Bool)(regs a b c n:Int):badV av bv dv nv regs a b c n= !(dI av a regs&&dI bv b regs&&dI dv c regs&&(nv||decide (n=0))):=by
 have dne: ∀n:Int,(n !=0)= !decide (n=0):=fun n=>by by_cases h:n=0<;>simp[h]
 unfold badV dI;rw[dne,dne,dne,dne];generalize decide (a=0)=A;generalize decide (b=0)=E;generalize decide (c=0)=N;generalize decide (n=0)=T;generalize aQ regs a=U;generalize aQ regs b=V;generalize aQ regs c=Z;revert av bv dv nv A E N T U V Z;decide
section
variable {params regs:Int} {v:VInT}
theorem imm_form(hal:alV v.i.op=true)(h:(decide (aD v.i.op=5\/aD v.i.op=7)||decide (v.i.n=0))=false):io params v.i.op v.i.n=false:=by rw[a0O,decide_eq_false_iff_not,decide_eq_false_iff_not]at h;rw[imm0 (by have:=bh hal;omega)];exact decide_eq_false h.2
theorem kZ(hal:alV v.i.op=true)(A:v.i.op=6\/v.args.length=0)(hl:v.args.length<=6)(hall:v.args.all (aQ regs)=true):fj params regs v=
  (dI (decide (aD v.i.op≠1)) v.i.a regs&&dI (decide (aD v.i.op=3\/aD v.i.op=4\/aD v.i.op=7)) v.i.b regs&&dI (decide (aD v.i.op=4)) v.i.c regs&&io params v.i.op v.i.n):=by
 unfold fj
 rw[hal,hall,decide_eq_true A,decide_eq_true hl];simp
theorem vin_bad3(hal:alV v.i.op=true)(A:v.i.op=6\/v.args.length=0)(hl:v.args.length<=6)(hall:v.args.all (aQ regs)=true)
  (h:badV (decide (aD v.i.op≠1)) (decide (aD v.i.op=3\/aD v.i.op=4\/aD v.i.op=7)) (decide (aD v.i.op=4)) (decide (aD v.i.op=5\/aD v.i.op=7)) regs v.i.a v.i.b v.i.c v.i.n=true):false=fj params regs v:=by
 rw[kZ hal A hl hall]
 rw[bad_eq,a0G,Bool.and_eq_false_iff]at h
 rcases h with h|h
 ·rw[h];rfl
 rw[imm_form hal h,a22]
theorem vin_good3(hal:alV v.i.op=true)(E:v.i.op=6\/v.args.length=0)(hl:v.args.length<=6)(hall:v.args.all (aQ regs)=true)
  (h:badV (decide (aD v.i.op≠1)) (decide (aD v.i.op=3\/aD v.i.op=4\/aD v.i.op=7)) (decide (aD v.i.op=4)) (decide (aD v.i.op=5\/aD v.i.op=7)) regs v.i.a v.i.b v.i.c v.i.n=false):
  fj params regs v=io params v.i.op v.i.n/\(aD v.i.op=5\/aD v.i.op=7\/v.i.n=0):=by
 rw[kZ hal E hl hall]
 rw[bad_eq,a19,a0d]at h
 refine⟨by rw[h.1,a1x],?_⟩
 have A:=h.2
 rw[a0F,decide_eq_true_eq,decide_eq_true_eq]at A
 omega
theorem vin_bad3v{av bv dv nv:Bool}(hal:alV v.i.op=true)(A:v.i.op=6\/v.args.length=0)(hl:v.args.length<=6)(hall:v.args.all (aQ regs)=true)(ha:av=decide (aD v.i.op≠1))(hb:bv=decide (aD v.i.op=3\/aD v.i.op=4\/aD v.i.op=7))(hd:dv=decide (aD v.i.op=4))(hn:nv=decide (aD v.i.op=5\/aD v.i.op=7))
  (h:badV av bv dv nv regs v.i.a v.i.b v.i.c v.i.n=true):false=fj params regs v:=by subst ha hb hd hn;exact vin_bad3 hal A hl hall h
theorem vin_good3v{av bv dv nv:Bool}(hal:alV v.i.op=true)(A:v.i.op=6\/v.args.length=0)(hl:v.args.length<=6)(hall:v.args.all (aQ regs)=true)(ha:av=decide (aD v.i.op≠1))(hb:bv=decide (aD v.i.op=3\/aD v.i.op=4\/aD v.i.op=7))(hd:dv=decide (aD v.i.op=4))(hn:nv=decide (aD v.i.op=5\/aD v.i.op=7))
  (h:badV av bv dv nv regs v.i.a v.i.b v.i.c v.i.n=false):fj params regs v=io params v.i.op v.i.n/\(aD v.i.op=5\/aD v.i.op=7\/v.i.n=0):=by subst ha hb hd hn;exact vin_good3 hal A hl hall h
theorem dB(hal:alV v.i.op=true)(hn:aD v.i.op=5\/aD v.i.op=7\/v.i.n=0)(A: ¬v.i.op=33)(E: ¬v.i.op=6)(N: ¬(v.i.op=34\/v.i.op=35))(T: ¬v.i.op=38):io params v.i.op v.i.n=true:=by
 unfold io;rw[if_neg A,if_neg E,if_neg N,if_neg T];split
 ·rfl
 have:=bh hal;exact decide_eq_true (by omega)
theorem refbad_eq:((!(dI ((aK v.i.op).form !=1) v.i.a regs))||(!(dI ((((aK v.i.op).form==3)||((aK v.i.op).form==4))||((aK v.i.op).form==7)) v.i.b regs))||(!(dI ((aK v.i.op).form==4) v.i.c regs)))=
  !(dI (decide (aD v.i.op≠1)) v.i.a regs&&dI (decide (aD v.i.op=3\/aD v.i.op=4\/aD v.i.op=7)) v.i.b regs&&dI (decide (aD v.i.op=4)) v.i.c regs):=by
 rw[vinf_form]
 have A:(aD v.i.op !=1)=decide (aD v.i.op≠1):=by by_cases h:aD v.i.op=1<;>simp[h]
 have E:(((aD v.i.op==3)||(aD v.i.op==4))||(aD v.i.op==7))=decide (aD v.i.op=3\/aD v.i.op=4\/aD v.i.op=7):=by rw[a0m];simp[or_assoc]
 have N:(aD v.i.op==4)=decide (aD v.i.op=4):=by by_cases h:aD v.i.op=4<;>simp[h]
 rw[A,E,N,Bool.not_and,Bool.not_and]
theorem vin_rbad(hal:alV v.i.op=true)(A:v.i.op=6\/v.args.length=0)(hl:v.args.length<=6)(hall:v.args.all (aQ regs)=true)
  (h:((!(dI ((aK v.i.op).form !=1) v.i.a regs))||(!(dI ((((aK v.i.op).form==3)||((aK v.i.op).form==4))||((aK v.i.op).form==7)) v.i.b regs))||(!(dI ((aK v.i.op).form==4) v.i.c regs)))=true):false=fj params regs v:=by
 rw[refbad_eq,a0G]at h
 rw[kZ hal A hl hall,h];rfl
theorem vin_rgood(hal:alV v.i.op=true)(A:v.i.op=6\/v.args.length=0)(hl:v.args.length<=6)(hall:v.args.all (aQ regs)=true)
  (h:((!(dI ((aK v.i.op).form !=1) v.i.a regs))||(!(dI ((((aK v.i.op).form==3)||((aK v.i.op).form==4))||((aK v.i.op).form==7)) v.i.b regs))||(!(dI ((aK v.i.op).form==4) v.i.c regs)))=false):fj params regs v=io params v.i.op v.i.n:=by
 rw[refbad_eq,a19]at h
 rw[kZ hal A hl hall,h,a1x]
end
theorem blk_no{params regs nb:Int}{b:BlkT}(h:b.ins.all (fj params regs)=false):blkV params regs nb b=false:=by unfold blkV;rw[h,a21]
theorem iA{params regs nb:Int}{b:BlkT}(h:vendV nb regs b=false):blkV params regs nb b=false:=by unfold blkV;rw[h,a22]
theorem iy{params regs nb:Int}{b:BlkT}(h:b.ins.all (fj params regs)=true)(A:vendV nb regs b=true):blkV params regs nb b=true:=by unfold blkV;rw[h,A];rfl
theorem iC{c:VFnT}(h:c.blocks.all (blkV c.params c.regs c.blocks.length)=false):false=bJ c:=by unfold bJ;rw[h,a22]
theorem val_lim{c:VFnT}(h: ¬(0<=c.params/\c.params<=6/\0<=c.regs/\c.regs<=3000/\1<=c.blocks.length/\c.blocks.length<=1000)):false=bJ c:=by unfold bJ;rw[decide_eq_false h,a21]
theorem val_yes{c:VFnT}(h:0<=c.params/\c.params<=6/\0<=c.regs/\c.regs<=3000/\1<=c.blocks.length/\c.blocks.length<=1000)(A:c.blocks.all (blkV c.params c.regs c.blocks.length)=true):true=bJ c:=by unfold bJ;rw[decide_eq_true h,A];rfl
end Go.Proofs.YtknafdcgpaejlaaDoor.m2
