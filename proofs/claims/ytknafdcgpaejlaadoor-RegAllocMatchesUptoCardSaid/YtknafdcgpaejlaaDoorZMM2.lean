/-
Plain laws: what the functions compute answers as the statement says. No condition beyond those that each statement names.
-/
import Derived.Test.YtknafdcgpaejlaaDoorZMM1
noncomputable section
namespace Go.Proofs.YtknafdcgpaejlaaDoor.m2
open Go.R m1
set_option linter.unusedVariables false
set_option linter.unusedSimpArgs false
def aP(regs n:Int):Bool:=decide (0<=n/\n<regs)
def aF(op:Int):Int:=if op=38 then 5 else(aN op).form
def aL(op:Int):InfT:=if op=38 then⟨⟨[]⟩,5,false,true,false,false,0⟩ else aN op
def dK(A:Bool)(n regs:Int):Bool:=bif A then aP regs n else decide (n=0)
def gV(params op n:Int):Bool:=if op=13 then true else if op=33 then decide (-4194304<=n/\n<4194304) else if op=6 then decide (0<=n/\n<8) else if op=34\/op=35 then decide (0<=n/\n<4) else if op=38 then decide (0<=n/\n<params) else decide (n=0)
def eX(params regs:Int)(v:VInT):Bool:=
 alV v.i.op&&decide (v.i.op=6\/v.args.length=0)&&decide (v.args.length<=6)&&v.args.all (aP regs)&&dK (decide (aF v.i.op≠1)) v.i.a regs&&
  dK (decide (aF v.i.op=3\/aF v.i.op=4\/aF v.i.op=7)) v.i.b regs&&dK (decide (aF v.i.op=4)) v.i.c regs&&gV params v.i.op v.i.n
def vendV(nb regs:Int)(b:BlkT):Bool:=
 if b.fin=1 then aP nb b.tgt&&decide (b.els=0)&&decide (b.reg=0)
 else if b.fin=2 then aP nb b.tgt&&aP nb b.els&&aP regs b.reg
 else if b.fin=3 then aP regs b.reg&&decide (b.tgt=0)&&decide (b.els=0)
 else if b.fin=4 then decide (1<=b.tgt/\b.tgt<33554432)&&decide (b.els=0)&&decide (b.reg=0) else false
def lm(params regs nb:Int)(b:BlkT):Bool:=b.ins.all (eX params regs)&&vendV nb regs b
def bY(c:VFnT):Bool:=decide (0<=c.params/\c.params<=6/\0<=c.regs/\c.regs<=3000/\1<=c.blocks.length/\c.blocks.length<=1000)&&c.blocks.all (lm c.params c.regs c.blocks.length)
theorem bg{op:Int}(h:alV op=true):(op=3/\aF op=1)\/((op=6\/op=13\/op=33\/op=38)/\aF op=5)\/((op=9\/op=15\/op=16)/\aF op=2)\/((op=10\/(17<=op/\op<=32))/\aF op=3)\/((op=11\/op=12)/\aF op=4)\/((op=34\/op=35)/\aF op=7):=by
 unfold alV at h;have h:=of_decide_eq_true h;have e: ∃k:Fin 39,op=(k.val:Int):=⟨⟨op.toNat,by omega⟩,by simp;omega⟩
 obtain⟨k,rfl⟩:=e;revert k;decide
theorem ev{α:Type} [Inhabited α]{p:α->Bool}{l:List α}: ∀j,j<0->p (l.getD j default)=true:=fun j h=>by omega
theorem cZ{α:Type} [Inhabited α]{p:α->Bool}{l:List α}{k:Nat}(h: ∀j,j<k->p (l.getD j default)=true)(c:p (l.getD k default)=true): ∀j,j<k+1->p (l.getD j default)=true:=fun j E=>by
 rcases Nat.lt_succ_iff_lt_or_eq.1 E with A|rfl
 ·exact h j A
 exact c
theorem fl{α:Type} [Inhabited α]{p:α->Bool}{l:List α}{k:Nat}(h: ∀j,j<k->p (l.getD j default)=true)(N:l.length<=k):l.all p=true:=by rw[a0v];intro x E;obtain⟨j,A,rfl⟩:=a0E.1 E;have:=h j (by omega);rwa [a02,a06 A]at this
theorem all_at{α:Type} [Inhabited α]{p:α->Bool}{l:List α}(h:l.all p=true){k:Nat}(A:k<l.length):p (l.getD k default)=true:=a0v.1 h _ (by rw[a02,a06 A];exact a1r A)
theorem dP{α:Type} [Inhabited α]{p:α->Bool}{l:List α}{k:Nat}(A:k<l.length)(c:p (l.getD k default)=false):l.all p=false:=by
 cases h:l.all p with
 |false=>rfl
 |true=>rw[all_at h A]at c;cases c
theorem vin_no{params regs:Int}{v:VInT}(h:v.args.all (aP regs)=false):false=eX params regs v:=by unfold eX;rw[h];simp
theorem vin_bad2{params regs:Int}{v:VInT}(h:(alV v.i.op=false\/v.i.op≠6/\0<(v.args.length:Int))\/6<(v.args.length:Int)):false=eX params regs v:=by
 unfold eX;rcases h with(h|⟨h,A⟩)|h
 ·rw[h];simp
 ·rw[decide_eq_false (p:=v.i.op=6\/v.args.length=0) (by omega)];simp
 rw[decide_eq_false (p:=v.args.length<=6) (by omega)];simp
theorem vinf_form{op:Int}:(aL op).form=aF op:=by unfold aL aF;split<;>rfl
theorem ba{r n:Int}:aP r n=true↔0<=n/\n<r:=by unfold aP;exact decide_eq_true_iff
theorem df{r n:Int}:aP r n=false↔ ¬(0<=n/\n<r):=by unfold aP;exact decide_eq_false_iff_not
theorem bR{nb regs:Int}{b:BlkT}:vendV nb regs b=true↔(b.fin=1/\0<=b.tgt/\b.tgt<nb/\b.els=0/\b.reg=0\/b.fin=2/\0<=b.tgt/\b.tgt<nb/\0<=b.els/\b.els<nb/\0<=b.reg/\b.reg<regs\/b.fin=3/\0<=b.reg/\b.reg<regs/\b.tgt=0/\b.els=0\/b.fin=4/\1<=b.tgt/\b.tgt<33554432/\b.els=0/\b.reg=0):=by
 unfold vendV
 (repeat' split)<;>(try simp only[a0f,ba,decide_eq_true_eq])<;>first|omega|(simp only[a0J,false_iff];omega)
theorem vin_bad{params regs:Int}{v:VInT}(h:(alV v.i.op=false\/6<(v.args.length:Int))\/(¬v.i.op=6/\0<(v.args.length:Int))):false=eX params regs v:=by
 unfold eX;rcases h with(h|h)|⟨h,A⟩
 ·rw[h];simp
 ·rw[decide_eq_false (p:=v.args.length<=6) (by omega)];simp
 rw[decide_eq_false (p:=v.i.op=6\/v.args.length=0) (by omega)];simp
theorem imm0{params op n:Int}(h:op=3\/op=9\/op=15\/op=16\/op=10\/(17<=op/\op<=32)\/op=11\/op=12):gV params op n=decide (n=0):=by unfold gV;rw[if_neg (by omega),if_neg (by omega),if_neg (by omega),if_neg (by omega),if_neg (by omega)]
def badV(A bv E nv:Bool)(regs a b c n:Int):Bool:=
 ((((((((A&&(!(aP regs a)))||(bv&&(!(aP regs b))))||(E&&(!(aP regs c))))||((!A)&&(a !=0)))||((!bv)&&(b !=0)))||((!E)&&(c !=0)))||((!nv)&&(n !=0))))
theorem bad_eq(av bv dv nv:Bool)(regs a b c n:Int):badV av bv dv nv regs a b c n= !(dK av a regs&&dK bv b regs&&dK dv c regs&&(nv||decide (n=0))):=by
 have ad: ∀n:Int,(n !=0)= !decide (n=0):=fun n=>by by_cases h:n=0<;>simp[h]
 unfold badV dK;rw[ad,ad,ad,ad];generalize decide (a=0)=A;generalize decide (b=0)=E;generalize decide (c=0)=N;generalize decide (n=0)=T;generalize aP regs a=U;generalize aP regs b=V;generalize aP regs c=Z;revert av bv dv nv A E N T U V Z;decide
section
variable {params regs:Int} {v:VInT}
theorem imm_form(A:alV v.i.op=true)(h:(decide (aF v.i.op=5\/aF v.i.op=7)||decide (v.i.n=0))=false):gV params v.i.op v.i.n=false:=by rw[Bool.or_eq_false_iff,decide_eq_false_iff_not,decide_eq_false_iff_not]at h;rw[imm0 (by have:=bg A;omega)];exact decide_eq_false h.2
theorem kD(N:alV v.i.op=true)(A:v.i.op=6\/v.args.length=0)(T:v.args.length<=6)(E:v.args.all (aP regs)=true):eX params regs v=
  (dK (decide (aF v.i.op≠1)) v.i.a regs&&dK (decide (aF v.i.op=3\/aF v.i.op=4\/aF v.i.op=7)) v.i.b regs&&dK (decide (aF v.i.op=4)) v.i.c regs&&gV params v.i.op v.i.n):=by
 unfold eX
 rw[N,E,decide_eq_true A,decide_eq_true T];simp
theorem vin_bad3(E:alV v.i.op=true)(A:v.i.op=6\/v.args.length=0)(T:v.args.length<=6)(N:v.args.all (aP regs)=true)
  (h:badV (decide (aF v.i.op≠1)) (decide (aF v.i.op=3\/aF v.i.op=4\/aF v.i.op=7)) (decide (aF v.i.op=4)) (decide (aF v.i.op=5\/aF v.i.op=7)) regs v.i.a v.i.b v.i.c v.i.n=true):false=eX params regs v:=by
 rw[kD E A T N]
 rw[bad_eq,a0F,Bool.and_eq_false_iff]at h
 rcases h with h|h
 ·rw[h];rfl
 rw[imm_form E h,a1A]
theorem vin_good3(T:alV v.i.op=true)(E:v.i.op=6\/v.args.length=0)(U:v.args.length<=6)(N:v.args.all (aP regs)=true)
  (h:badV (decide (aF v.i.op≠1)) (decide (aF v.i.op=3\/aF v.i.op=4\/aF v.i.op=7)) (decide (aF v.i.op=4)) (decide (aF v.i.op=5\/aF v.i.op=7)) regs v.i.a v.i.b v.i.c v.i.n=false):
  eX params regs v=gV params v.i.op v.i.n/\(aF v.i.op=5\/aF v.i.op=7\/v.i.n=0):=by
 rw[kD T E U N]
 rw[bad_eq,Bool.not_eq_false',a0f]at h
 refine⟨by rw[h.1,a1J],?_⟩
 have A:=h.2
 rw[a0M,decide_eq_true_eq,decide_eq_true_eq]at A
 omega
theorem vin_bad3v{N bv T nv:Bool}(U:alV v.i.op=true)(A:v.i.op=6\/v.args.length=0)(hl:v.args.length<=6)(E:v.args.all (aP regs)=true)(V:N=decide (aF v.i.op≠1))(Z:bv=decide (aF v.i.op=3\/aF v.i.op=4\/aF v.i.op=7))(hd:T=decide (aF v.i.op=4))(hn:nv=decide (aF v.i.op=5\/aF v.i.op=7))
  (h:badV N bv T nv regs v.i.a v.i.b v.i.c v.i.n=true):false=eX params regs v:=by subst V Z hd hn;exact vin_bad3 U A hl E h
theorem vin_good3v{N bv T nv:Bool}(U:alV v.i.op=true)(A:v.i.op=6\/v.args.length=0)(hl:v.args.length<=6)(E:v.args.all (aP regs)=true)(V:N=decide (aF v.i.op≠1))(Z:bv=decide (aF v.i.op=3\/aF v.i.op=4\/aF v.i.op=7))(hd:T=decide (aF v.i.op=4))(hn:nv=decide (aF v.i.op=5\/aF v.i.op=7))
  (h:badV N bv T nv regs v.i.a v.i.b v.i.c v.i.n=false):eX params regs v=gV params v.i.op v.i.n/\(aF v.i.op=5\/aF v.i.op=7\/v.i.n=0):=by subst V Z hd hn;exact vin_good3 U A hl E h
theorem dw(U:alV v.i.op=true)(V:aF v.i.op=5\/aF v.i.op=7\/v.i.n=0)(A: ¬v.i.op=33)(E: ¬v.i.op=6)(N: ¬(v.i.op=34\/v.i.op=35))(T: ¬v.i.op=38):gV params v.i.op v.i.n=true:=by
 unfold gV;rw[if_neg A,if_neg E,if_neg N,if_neg T];split
 ·rfl
 have:=bg U;exact decide_eq_true (by omega)
theorem refbad_eq:((!(dK ((aL v.i.op).form !=1) v.i.a regs))||(!(dK ((((aL v.i.op).form==3)||((aL v.i.op).form==4))||((aL v.i.op).form==7)) v.i.b regs))||(!(dK ((aL v.i.op).form==4) v.i.c regs)))=
  !(dK (decide (aF v.i.op≠1)) v.i.a regs&&dK (decide (aF v.i.op=3\/aF v.i.op=4\/aF v.i.op=7)) v.i.b regs&&dK (decide (aF v.i.op=4)) v.i.c regs):=by
 rw[vinf_form]
 have A:(aF v.i.op !=1)=decide (aF v.i.op≠1):=by by_cases h:aF v.i.op=1<;>simp[h]
 have E:(((aF v.i.op==3)||(aF v.i.op==4))||(aF v.i.op==7))=decide (aF v.i.op=3\/aF v.i.op=4\/aF v.i.op=7):=by rw[a0o];simp[or_assoc]
 have N:(aF v.i.op==4)=decide (aF v.i.op=4):=by by_cases h:aF v.i.op=4<;>simp[h]
 rw[A,E,N,Bool.not_and,Bool.not_and]
theorem vin_rbad(N:alV v.i.op=true)(A:v.i.op=6\/v.args.length=0)(T:v.args.length<=6)(E:v.args.all (aP regs)=true)
  (h:((!(dK ((aL v.i.op).form !=1) v.i.a regs))||(!(dK ((((aL v.i.op).form==3)||((aL v.i.op).form==4))||((aL v.i.op).form==7)) v.i.b regs))||(!(dK ((aL v.i.op).form==4) v.i.c regs)))=true):false=eX params regs v:=by
 rw[refbad_eq,a0F]at h
 rw[kD N A T E,h];rfl
theorem vin_rgood(N:alV v.i.op=true)(A:v.i.op=6\/v.args.length=0)(T:v.args.length<=6)(E:v.args.all (aP regs)=true)
  (h:((!(dK ((aL v.i.op).form !=1) v.i.a regs))||(!(dK ((((aL v.i.op).form==3)||((aL v.i.op).form==4))||((aL v.i.op).form==7)) v.i.b regs))||(!(dK ((aL v.i.op).form==4) v.i.c regs)))=false):eX params regs v=gV params v.i.op v.i.n:=by
 rw[refbad_eq,Bool.not_eq_false']at h
 rw[kD N A T E,h,a1J]
end
theorem blk_no{params regs nb:Int}{b:BlkT}(h:b.ins.all (eX params regs)=false):lm params regs nb b=false:=by unfold lm;rw[h,a1X]
theorem hP{params regs nb:Int}{b:BlkT}(h:vendV nb regs b=false):lm params regs nb b=false:=by unfold lm;rw[h,a1A]
theorem hO{params regs nb:Int}{b:BlkT}(h:b.ins.all (eX params regs)=true)(A:vendV nb regs b=true):lm params regs nb b=true:=by unfold lm;rw[h,A];rfl
theorem hU{c:VFnT}(h:c.blocks.all (lm c.params c.regs c.blocks.length)=false):false=bY c:=by unfold bY;rw[h,a1A]
theorem val_lim{c:VFnT}(h: ¬(0<=c.params/\c.params<=6/\0<=c.regs/\c.regs<=3000/\1<=c.blocks.length/\c.blocks.length<=1000)):false=bY c:=by unfold bY;rw[decide_eq_false h,a1X]
theorem val_yes{c:VFnT}(h:0<=c.params/\c.params<=6/\0<=c.regs/\c.regs<=3000/\1<=c.blocks.length/\c.blocks.length<=1000)(A:c.blocks.all (lm c.params c.regs c.blocks.length)=true):true=bY c:=by unfold bY;rw[decide_eq_true h,A];rfl
end Go.Proofs.YtknafdcgpaejlaaDoor.m2
