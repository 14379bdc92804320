/-
 Plain laws: what the functions compute answers as the statement says. No condition beyond those that each statement names.
-/
import Derived.Test.YtknafdcgpaejlaaDoorZKM1
noncomputable section
namespace Go.Proofs.YtknafdcgpaejlaaDoor.m2
open Go.R m1
set_option linter.unusedVariables false
set_option linter.unusedSimpArgs false
def aM(regs n:Int):Bool:=decide (0<=n/\n<regs)
def aB(op:Int):Int:=if op=38 then 5 else(aK op).form
def aI(op:Int):InfT:=if op=38 then⟨⟨[]⟩,5,false,true,false,false,0⟩ else aK op
def dw(has:Bool)(n regs:Int):Bool:=bif has then aM regs n else decide (n=0)
def gP(params op n:Int):Bool:=if op=13 then true else if op=33 then decide (-4194304<=n/\n<4194304) else if op=6 then decide (0<=n/\n<8) else if op=34\/op=35 then decide (0<=n/\n<4) else if op=38 then decide (0<=n/\n<params) else decide (n=0)
def eA(params regs:Int)(v:VInT):Bool:=
 alV v.i.op&&decide (v.i.op=6\/v.args.length=0)&&decide (v.args.length<=6)&&v.args.all (aM regs)&&dw (decide (aB v.i.op≠1)) v.i.a regs&&
  dw (decide (aB v.i.op=3\/aB v.i.op=4\/aB v.i.op=7)) v.i.b regs&&dw (decide (aB v.i.op=4)) v.i.c regs&&gP params v.i.op v.i.n
def vendV(nb regs:Int)(b:BlkT):Bool:=
 if b.fin=1 then aM nb b.tgt&&decide (b.els=0)&&decide (b.reg=0)
 else if b.fin=2 then aM nb b.tgt&&aM nb b.els&&aM regs b.reg
 else if b.fin=3 then aM regs b.reg&&decide (b.tgt=0)&&decide (b.els=0)
 else if b.fin=4 then decide (1<=b.tgt/\b.tgt<33554432)&&decide (b.els=0)&&decide (b.reg=0) else false
def kY(params regs nb:Int)(b:BlkT):Bool:=b.ins.all (eA params regs)&&vendV nb regs b
def bK(c:VFnT):Bool:=decide (0<=c.params/\c.params<=6/\0<=c.regs/\c.regs<=3000/\1<=c.blocks.length/\c.blocks.length<=1000)&&c.blocks.all (kY c.params c.regs c.blocks.length)
theorem aY{op:Int}(h:alV op=true):(op=3/\aB op=1)\/((op=6\/op=13\/op=33\/op=38)/\aB op=5)\/((op=9\/op=15\/op=16)/\aB op=2)\/((op=10\/(17<=op/\op<=32))/\aB op=3)\/((op=11\/op=12)/\aB op=4)\/((op=34\/op=35)/\aB op=7):=by
 unfold alV at h;have h:=of_decide_eq_true h;have e: ∃k:Fin 39,op=(k.val:Int):=⟨⟨op.toNat,by omega⟩,by simp;omega⟩
 obtain⟨k,rfl⟩:=e;revert k;decide
theorem en{α:Type} [Inhabited α]{p:α->Bool}{l:List α}: ∀j,j<0->p (l.getD j default)=true:=fun j h=>by omega
theorem cS{α:Type} [Inhabited α]{p:α->Bool}{l:List α}{k:Nat}(h: ∀j,j<k->p (l.getD j default)=true)(c:p (l.getD k default)=true): ∀j,j<k+1->p (l.getD j default)=true:=fun j hj=>by
 rcases Nat.lt_succ_iff_lt_or_eq.1 hj with A|rfl
 ·exact h j A
 exact c
theorem fj{α:Type} [Inhabited α]{p:α->Bool}{l:List α}{k:Nat}(h: ∀j,j<k->p (l.getD j default)=true)(hk:l.length<=k):l.all p=true:=by rw[a0s];intro x hx;obtain⟨j,hj,rfl⟩:=a0K.1 hx;have:=h j (by omega);rwa [a02,a05 hj]at this
theorem all_at{α:Type} [Inhabited α]{p:α->Bool}{l:List α}(h:l.all p=true){k:Nat}(hk:k<l.length):p (l.getD k default)=true:=a0s.1 h _ (by rw[a02,a05 hk];exact a1s hk)
theorem dL{α:Type} [Inhabited α]{p:α->Bool}{l:List α}{k:Nat}(hk:k<l.length)(c:p (l.getD k default)=false):l.all p=false:=by
 cases h:l.all p with
 |false=>rfl
 |true=>rw[all_at h hk]at c;cases c
theorem vin_no{params regs:Int}{v:VInT}(h:v.args.all (aM regs)=false):false=eA params regs v:=by unfold eA;rw[h];simp
theorem vin_bad2{params regs:Int}{v:VInT}(h:(alV v.i.op=false\/v.i.op≠6/\0<(v.args.length:Int))\/6<(v.args.length:Int)):false=eA params regs v:=by
 unfold eA;rcases h with(h|⟨h,A⟩)|h
 ·rw[h];simp
 ·rw[decide_eq_false (p:=v.i.op=6\/v.args.length=0) (by omega)];simp
 rw[decide_eq_false (p:=v.args.length<=6) (by omega)];simp
theorem vinf_form{op:Int}:(aI op).form=aB op:=by unfold aI aB;split<;>rfl
theorem aT{r n:Int}:aM r n=true↔0<=n/\n<r:=by unfold aM;exact decide_eq_true_iff
theorem cW{r n:Int}:aM r n=false↔ ¬(0<=n/\n<r):=by unfold aM;exact decide_eq_false_iff_not
theorem bO{nb regs:Int}{b:BlkT}:vendV nb regs b=true↔(b.fin=1/\0<=b.tgt/\b.tgt<nb/\b.els=0/\b.reg=0\/b.fin=2/\0<=b.tgt/\b.tgt<nb/\0<=b.els/\b.els<nb/\0<=b.reg/\b.reg<regs\/b.fin=3/\0<=b.reg/\b.reg<regs/\b.tgt=0/\b.els=0\/b.fin=4/\1<=b.tgt/\b.tgt<33554432/\b.els=0/\b.reg=0):=by
 unfold vendV
 (repeat' split)<;>(try simp only[a0b,aT,decide_eq_true_eq])<;>first|omega|(simp only[a0F,false_iff];omega)
theorem vin_bad{params regs:Int}{v:VInT}(h:(alV v.i.op=false\/6<(v.args.length:Int))\/(¬v.i.op=6/\0<(v.args.length:Int))):false=eA params regs v:=by
 unfold eA;rcases h with(h|h)|⟨h,A⟩
 ·rw[h];simp
 ·rw[decide_eq_false (p:=v.args.length<=6) (by omega)];simp
 rw[decide_eq_false (p:=v.i.op=6\/v.args.length=0) (by omega)];simp
theorem imm0{params op n:Int}(h:op=3\/op=9\/op=15\/op=16\/op=10\/(17<=op/\op<=32)\/op=11\/op=12):gP params op n=decide (n=0):=by unfold gP;rw[if_neg (by omega),if_neg (by omega),if_neg (by omega),if_neg (by omega),if_neg (by omega)]
def badV(av bv dv nv:Bool)(regs a b c n:Int):Bool:=
 ((((((((av&&(!(aM regs a)))||(bv&&(!(aM regs b))))||(dv&&(!(aM regs c))))||((!av)&&(a !=0)))||((!bv)&&(b !=0)))||((!dv)&&(c !=0)))||((!nv)&&(n !=0))))
theorem bad_eq(av bv dv nv:Bool)(regs a b c n:Int):badV av bv dv nv regs a b c n= !(dw av a regs&&dw bv b regs&&dw dv c regs&&(nv||decide (n=0))):=by
 have dne: ∀n:Int,(n !=0)= !decide (n=0):=fun n=>by by_cases h:n=0<;>simp[h]
 unfold badV dw;rw[dne,dne,dne,dne];generalize decide (a=0)=A;generalize decide (b=0)=E;generalize decide (c=0)=J;generalize decide (n=0)=N;generalize aM regs a=T;generalize aM regs b=U;generalize aM regs c=V;revert av bv dv nv A E J N T U V;decide
section
variable {params regs:Int} {v:VInT}
theorem imm_form(hal:alV v.i.op=true)(h:(decide (aB v.i.op=5\/aB v.i.op=7)||decide (v.i.n=0))=false):gP params v.i.op v.i.n=false:=by rw[a17,decide_eq_false_iff_not,decide_eq_false_iff_not]at h;rw[imm0 (by have:=aY hal;omega)];exact decide_eq_false h.2
theorem kF(hal:alV v.i.op=true)(A:v.i.op=6\/v.args.length=0)(hl:v.args.length<=6)(hall:v.args.all (aM regs)=true):eA params regs v=
  (dw (decide (aB v.i.op≠1)) v.i.a regs&&dw (decide (aB v.i.op=3\/aB v.i.op=4\/aB v.i.op=7)) v.i.b regs&&dw (decide (aB v.i.op=4)) v.i.c regs&&gP params v.i.op v.i.n):=by
 unfold eA
 rw[hal,hall,decide_eq_true A,decide_eq_true hl];simp
theorem vin_bad3(hal:alV v.i.op=true)(A:v.i.op=6\/v.args.length=0)(hl:v.args.length<=6)(hall:v.args.all (aM regs)=true)
  (h:badV (decide (aB v.i.op≠1)) (decide (aB v.i.op=3\/aB v.i.op=4\/aB v.i.op=7)) (decide (aB v.i.op=4)) (decide (aB v.i.op=5\/aB v.i.op=7)) regs v.i.a v.i.b v.i.c v.i.n=true):false=eA params regs v:=by
 rw[kF hal A hl hall]
 rw[bad_eq,a0M,Bool.and_eq_false_iff]at h
 rcases h with h|h
 ·rw[h];rfl
 rw[imm_form hal h,a1W]
theorem vin_good3(hal:alV v.i.op=true)(E:v.i.op=6\/v.args.length=0)(hl:v.args.length<=6)(hall:v.args.all (aM regs)=true)
  (h:badV (decide (aB v.i.op≠1)) (decide (aB v.i.op=3\/aB v.i.op=4\/aB v.i.op=7)) (decide (aB v.i.op=4)) (decide (aB v.i.op=5\/aB v.i.op=7)) regs v.i.a v.i.b v.i.c v.i.n=false):
  eA params regs v=gP params v.i.op v.i.n/\(aB v.i.op=5\/aB v.i.op=7\/v.i.n=0):=by
 rw[kF hal E hl hall]
 rw[bad_eq,a1Q,a0b]at h
 refine⟨by rw[h.1,a1h],?_⟩
 have A:=h.2
 rw[a0C,decide_eq_true_eq,decide_eq_true_eq]at A
 omega
theorem vin_bad3v{av bv dv nv:Bool}(hal:alV v.i.op=true)(A:v.i.op=6\/v.args.length=0)(hl:v.args.length<=6)(hall:v.args.all (aM regs)=true)(ha:av=decide (aB v.i.op≠1))(hb:bv=decide (aB v.i.op=3\/aB v.i.op=4\/aB v.i.op=7))(hd:dv=decide (aB v.i.op=4))(hn:nv=decide (aB v.i.op=5\/aB v.i.op=7))
  (h:badV av bv dv nv regs v.i.a v.i.b v.i.c v.i.n=true):false=eA params regs v:=by subst ha hb hd hn;exact vin_bad3 hal A hl hall h
theorem vin_good3v{av bv dv nv:Bool}(hal:alV v.i.op=true)(A:v.i.op=6\/v.args.length=0)(hl:v.args.length<=6)(hall:v.args.all (aM regs)=true)(ha:av=decide (aB v.i.op≠1))(hb:bv=decide (aB v.i.op=3\/aB v.i.op=4\/aB v.i.op=7))(hd:dv=decide (aB v.i.op=4))(hn:nv=decide (aB v.i.op=5\/aB v.i.op=7))
  (h:badV av bv dv nv regs v.i.a v.i.b v.i.c v.i.n=false):eA params regs v=gP params v.i.op v.i.n/\(aB v.i.op=5\/aB v.i.op=7\/v.i.n=0):=by subst ha hb hd hn;exact vin_good3 hal A hl hall h
theorem dj(hal:alV v.i.op=true)(hn:aB v.i.op=5\/aB v.i.op=7\/v.i.n=0)(A: ¬v.i.op=33)(E: ¬v.i.op=6)(J: ¬(v.i.op=34\/v.i.op=35))(N: ¬v.i.op=38):gP params v.i.op v.i.n=true:=by
 unfold gP;rw[if_neg A,if_neg E,if_neg J,if_neg N];split
 ·rfl
 have:=aY hal;exact decide_eq_true (by omega)
theorem refbad_eq:((!(dw ((aI v.i.op).form !=1) v.i.a regs))||(!(dw ((((aI v.i.op).form==3)||((aI v.i.op).form==4))||((aI v.i.op).form==7)) v.i.b regs))||(!(dw ((aI v.i.op).form==4) v.i.c regs)))=
  !(dw (decide (aB v.i.op≠1)) v.i.a regs&&dw (decide (aB v.i.op=3\/aB v.i.op=4\/aB v.i.op=7)) v.i.b regs&&dw (decide (aB v.i.op=4)) v.i.c regs):=by
 rw[vinf_form]
 have A:(aB v.i.op !=1)=decide (aB v.i.op≠1):=by by_cases h:aB v.i.op=1<;>simp[h]
 have E:(((aB v.i.op==3)||(aB v.i.op==4))||(aB v.i.op==7))=decide (aB v.i.op=3\/aB v.i.op=4\/aB v.i.op=7):=by rw[a0n];simp[or_assoc]
 have J:(aB v.i.op==4)=decide (aB v.i.op=4):=by by_cases h:aB v.i.op=4<;>simp[h]
 rw[A,E,J,Bool.not_and,Bool.not_and]
theorem vin_rbad(hal:alV v.i.op=true)(A:v.i.op=6\/v.args.length=0)(hl:v.args.length<=6)(hall:v.args.all (aM regs)=true)
  (h:((!(dw ((aI v.i.op).form !=1) v.i.a regs))||(!(dw ((((aI v.i.op).form==3)||((aI v.i.op).form==4))||((aI v.i.op).form==7)) v.i.b regs))||(!(dw ((aI v.i.op).form==4) v.i.c regs)))=true):false=eA params regs v:=by
 rw[refbad_eq,a0M]at h
 rw[kF hal A hl hall,h];rfl
theorem vin_rgood(hal:alV v.i.op=true)(A:v.i.op=6\/v.args.length=0)(hl:v.args.length<=6)(hall:v.args.all (aM regs)=true)
  (h:((!(dw ((aI v.i.op).form !=1) v.i.a regs))||(!(dw ((((aI v.i.op).form==3)||((aI v.i.op).form==4))||((aI v.i.op).form==7)) v.i.b regs))||(!(dw ((aI v.i.op).form==4) v.i.c regs)))=false):eA params regs v=gP params v.i.op v.i.n:=by
 rw[refbad_eq,a1Q]at h
 rw[kF hal A hl hall,h,a1h]
end
theorem blk_no{params regs nb:Int}{b:BlkT}(h:b.ins.all (eA params regs)=false):kY params regs nb b=false:=by unfold kY;rw[h,a1x]
theorem gX{params regs nb:Int}{b:BlkT}(h:vendV nb regs b=false):kY params regs nb b=false:=by unfold kY;rw[h,a1W]
theorem gW{params regs nb:Int}{b:BlkT}(h:b.ins.all (eA params regs)=true)(A:vendV nb regs b=true):kY params regs nb b=true:=by unfold kY;rw[h,A];rfl
theorem gZ{c:VFnT}(h:c.blocks.all (kY c.params c.regs c.blocks.length)=false):false=bK c:=by unfold bK;rw[h,a1W]
theorem val_lim{c:VFnT}(h: ¬(0<=c.params/\c.params<=6/\0<=c.regs/\c.regs<=3000/\1<=c.blocks.length/\c.blocks.length<=1000)):false=bK c:=by unfold bK;rw[decide_eq_false h,a1x]
theorem val_yes{c:VFnT}(h:0<=c.params/\c.params<=6/\0<=c.regs/\c.regs<=3000/\1<=c.blocks.length/\c.blocks.length<=1000)(A:c.blocks.all (kY c.params c.regs c.blocks.length)=true):true=bK c:=by unfold bK;rw[decide_eq_true h,A];rfl
end Go.Proofs.YtknafdcgpaejlaaDoor.m2
