/-
Plain laws: what the functions compute answers as the statement says. No condition beyond those that each statement names.
-/
import Derived.Test.YtknafdcgpaejlaaDoorZFM1
noncomputable section
namespace Go.Proofs.YtknafdcgpaejlaaDoor.m2
open Go.R m1
set_option linter.unusedVariables false
set_option linter.unusedSimpArgs false
def aO(regs n:Int):Bool:=decide (0<=n/\n<regs)
def aA(op:Int):Int:=if op=38 then 5 else(aM op).form
def aK(op:Int):InfT:=if op=38 then⟨⟨[]⟩,5,false,true,false,false,0⟩ else aM op
def dP(z:Bool)(n regs:Int):Bool:=bif z then aO regs n else decide (n=0)
def im(params op n:Int):Bool:=if op=13 then true else if op=33 then decide (-4194304<=n/\n<4194304) else if op=6 then decide (0<=n/\n<8) else if op=34\/op=35 then decide (0<=n/\n<4) else if op=38 then decide (0<=n/\n<params) else decide (n=0)
def fq(params regs:Int)(v:VInT):Bool:=
 alV v.i.op&&decide (v.i.op=6\/v.args.length=0)&&decide (v.args.length<=6)&&v.args.all (aO regs)&&dP (decide (aA v.i.op≠1)) v.i.a regs&&
  dP (decide (aA v.i.op=3\/aA v.i.op=4\/aA v.i.op=7)) v.i.b regs&&dP (decide (aA v.i.op=4)) v.i.c regs&&im params v.i.op v.i.n
def vendV(nb regs:Int)(b:BlkT):Bool:=
 if b.fin=1 then aO nb b.tgt&&decide (b.els=0)&&decide (b.reg=0)
 else if b.fin=2 then aO nb b.tgt&&aO nb b.els&&aO regs b.reg
 else if b.fin=3 then aO regs b.reg&&decide (b.tgt=0)&&decide (b.els=0)
 else if b.fin=4 then decide (1<=b.tgt/\b.tgt<33554432)&&decide (b.els=0)&&decide (b.reg=0) else false
def blkV(params regs nb:Int)(b:BlkT):Bool:=b.ins.all (fq params regs)&&vendV nb regs b
def bP(c:VFnT):Bool:=decide (0<=c.params/\c.params<=6/\0<=c.regs/\c.regs<=3000/\1<=c.blocks.length/\c.blocks.length<=1000)&&c.blocks.all (blkV c.params c.regs c.blocks.length)
theorem bf{op:Int}(h:alV op=true):(op=3/\aA op=1)\/((op=6\/op=13\/op=33\/op=38)/\aA op=5)\/((op=9\/op=15\/op=16)/\aA op=2)\/((op=10\/(17<=op/\op<=32))/\aA op=3)\/((op=11\/op=12)/\aA op=4)\/((op=34\/op=35)/\aA op=7):=by
 unfold alV at h;have h:=of_decide_eq_true h;have e: ∃k:Fin 39,op=(k.val:Int):=⟨⟨op.toNat,by omega⟩,by simp;omega⟩
 obtain⟨k,rfl⟩:=e;revert k;decide
theorem eF{α:Type} [Inhabited α]{p:α->Bool}{l:List α}: ∀j,j<0->p (l.getD j default)=true:=fun j h=>by omega
theorem cX{α:Type} [Inhabited α]{p:α->Bool}{l:List α}{k:Nat}(h: ∀j,j<k->p (l.getD j default)=true)(c:p (l.getD k default)=true): ∀j,j<k+1->p (l.getD j default)=true:=fun j z=>by
 rcases Nat.lt_succ_iff_lt_or_eq.1 z with A|rfl
 ·exact h j A
 exact c
theorem fN{α:Type} [Inhabited α]{p:α->Bool}{l:List α}{k:Nat}(h: ∀j,j<k->p (l.getD j default)=true)(E:l.length<=k):l.all p=true:=by rw[a0y];intro x A;obtain⟨j,z,rfl⟩:=a0B.1 A;have:=h j (by omega);rwa [a01,a05 z]at this
theorem all_at{α:Type} [Inhabited α]{p:α->Bool}{l:List α}(h:l.all p=true){k:Nat}(z:k<l.length):p (l.getD k default)=true:=a0y.1 h _ (by rw[a01,a05 z];exact a1w z)
theorem dT{α:Type} [Inhabited α]{p:α->Bool}{l:List α}{k:Nat}(z:k<l.length)(c:p (l.getD k default)=false):l.all p=false:=by
 cases h:l.all p with
 |false=>rfl
 |true=>rw[all_at h z]at c;cases c
theorem vin_no{params regs:Int}{v:VInT}(h:v.args.all (aO regs)=false):false=fq params regs v:=by unfold fq;rw[h];simp
theorem vin_bad2{params regs:Int}{v:VInT}(h:(alV v.i.op=false\/v.i.op≠6/\0<(v.args.length:Int))\/6<(v.args.length:Int)):false=fq params regs v:=by
 unfold fq;rcases h with(h|⟨h,A⟩)|h
 ·rw[h];simp
 ·rw[decide_eq_false (p:=v.i.op=6\/v.args.length=0) (by omega)];simp
 rw[decide_eq_false (p:=v.args.length<=6) (by omega)];simp
theorem vinf_form{op:Int}:(aK op).form=aA op:=by unfold aK aA;split<;>rfl
theorem aY{r n:Int}:aO r n=true↔0<=n/\n<r:=by unfold aO;exact decide_eq_true_iff
theorem de{r n:Int}:aO r n=false↔ ¬(0<=n/\n<r):=by unfold aO;exact decide_eq_false_iff_not
theorem bU{nb regs:Int}{b:BlkT}:vendV nb regs b=true↔(b.fin=1/\0<=b.tgt/\b.tgt<nb/\b.els=0/\b.reg=0\/b.fin=2/\0<=b.tgt/\b.tgt<nb/\0<=b.els/\b.els<nb/\0<=b.reg/\b.reg<regs\/b.fin=3/\0<=b.reg/\b.reg<regs/\b.tgt=0/\b.els=0\/b.fin=4/\1<=b.tgt/\b.tgt<33554432/\b.els=0/\b.reg=0):=by
 unfold vendV
 (repeat' split)<;>(try simp only[a0e,aY,decide_eq_true_eq])<;>first|omega|(simp only[a0K,false_iff];omega)
theorem vin_bad{params regs:Int}{v:VInT}(h:(alV v.i.op=false\/6<(v.args.length:Int))\/(¬v.i.op=6/\0<(v.args.length:Int))):false=fq params regs v:=by
 unfold fq;rcases h with(h|h)|⟨h,A⟩
 ·rw[h];simp
 ·rw[decide_eq_false (p:=v.args.length<=6) (by omega)];simp
 rw[decide_eq_false (p:=v.i.op=6\/v.args.length=0) (by omega)];simp
theorem imm0{params op n:Int}(h:op=3\/op=9\/op=15\/op=16\/op=10\/(17<=op/\op<=32)\/op=11\/op=12):im params op n=decide (n=0):=by unfold im;rw[if_neg (by omega),if_neg (by omega),if_neg (by omega),if_neg (by omega),if_neg (by omega)]
def badV(z bv A nv:Bool)(regs a b c n:Int):Bool:=
 ((((((((z&&(!(aO regs a)))||(bv&&(!(aO regs b))))||(A&&(!(aO regs c))))||((!z)&&(a !=0)))||((!bv)&&(b !=0)))||((!A)&&(c !=0)))||((!nv)&&(n !=0))))
theorem bad_eq(av bv dv nv:Bool)(regs a b c n:Int):badV av bv dv nv regs a b c n= !(dP av a regs&&dP bv b regs&&dP dv c regs&&(nv||decide (n=0))):=by
 have z: ∀n:Int,(n !=0)= !decide (n=0):=fun n=>by by_cases h:n=0<;>simp[h]
 unfold badV dP;rw[z,z,z,z];generalize decide (a=0)=A;generalize decide (b=0)=E;generalize decide (c=0)=N;generalize decide (n=0)=T;generalize aO regs a=U;generalize aO regs b=V;generalize aO regs c=Z;revert av bv dv nv A E N T U V Z;decide
section
variable {params regs:Int} {v:VInT}
theorem imm_form(z:alV v.i.op=true)(h:(decide (aA v.i.op=5\/aA v.i.op=7)||decide (v.i.n=0))=false):im params v.i.op v.i.n=false:=by rw[a0O,decide_eq_false_iff_not,decide_eq_false_iff_not]at h;rw[imm0 (by have:=bf z;omega)];exact decide_eq_false h.2
theorem lc(E:alV v.i.op=true)(A:v.i.op=6\/v.args.length=0)(N:v.args.length<=6)(z:v.args.all (aO regs)=true):fq params regs v=
  (dP (decide (aA v.i.op≠1)) v.i.a regs&&dP (decide (aA v.i.op=3\/aA v.i.op=4\/aA v.i.op=7)) v.i.b regs&&dP (decide (aA v.i.op=4)) v.i.c regs&&im params v.i.op v.i.n):=by
 unfold fq
 rw[E,z,decide_eq_true A,decide_eq_true N];simp
theorem vin_bad3(z:alV v.i.op=true)(A:v.i.op=6\/v.args.length=0)(N:v.args.length<=6)(E:v.args.all (aO regs)=true)
  (h:badV (decide (aA v.i.op≠1)) (decide (aA v.i.op=3\/aA v.i.op=4\/aA v.i.op=7)) (decide (aA v.i.op=4)) (decide (aA v.i.op=5\/aA v.i.op=7)) regs v.i.a v.i.b v.i.c v.i.n=true):false=fq params regs v:=by
 rw[lc z A N E]
 rw[bad_eq,a0I,Bool.and_eq_false_iff]at h
 rcases h with h|h
 ·rw[h];rfl
 rw[imm_form z h,a24]
theorem vin_good3(N:alV v.i.op=true)(E:v.i.op=6\/v.args.length=0)(T:v.args.length<=6)(z:v.args.all (aO regs)=true)
  (h:badV (decide (aA v.i.op≠1)) (decide (aA v.i.op=3\/aA v.i.op=4\/aA v.i.op=7)) (decide (aA v.i.op=4)) (decide (aA v.i.op=5\/aA v.i.op=7)) regs v.i.a v.i.b v.i.c v.i.n=false):
  fq params regs v=im params v.i.op v.i.n/\(aA v.i.op=5\/aA v.i.op=7\/v.i.n=0):=by
 rw[lc N E T z]
 rw[bad_eq,a19,a0e]at h
 refine⟨by rw[h.1,a1x],?_⟩
 have A:=h.2
 rw[a0G,decide_eq_true_eq,decide_eq_true_eq]at A
 omega
theorem vin_bad3v{E bv N nv:Bool}(T:alV v.i.op=true)(A:v.i.op=6\/v.args.length=0)(hl:v.args.length<=6)(z:v.args.all (aO regs)=true)(U:E=decide (aA v.i.op≠1))(V:bv=decide (aA v.i.op=3\/aA v.i.op=4\/aA v.i.op=7))(Z:N=decide (aA v.i.op=4))(hn:nv=decide (aA v.i.op=5\/aA v.i.op=7))
  (h:badV E bv N nv regs v.i.a v.i.b v.i.c v.i.n=true):false=fq params regs v:=by subst U V Z hn;exact vin_bad3 T A hl z h
theorem vin_good3v{E bv N nv:Bool}(T:alV v.i.op=true)(A:v.i.op=6\/v.args.length=0)(hl:v.args.length<=6)(z:v.args.all (aO regs)=true)(U:E=decide (aA v.i.op≠1))(V:bv=decide (aA v.i.op=3\/aA v.i.op=4\/aA v.i.op=7))(Z:N=decide (aA v.i.op=4))(hn:nv=decide (aA v.i.op=5\/aA v.i.op=7))
  (h:badV E bv N nv regs v.i.a v.i.b v.i.c v.i.n=false):fq params regs v=im params v.i.op v.i.n/\(aA v.i.op=5\/aA v.i.op=7\/v.i.n=0):=by subst U V Z hn;exact vin_good3 T A hl z h
theorem dx(z:alV v.i.op=true)(U:aA v.i.op=5\/aA v.i.op=7\/v.i.n=0)(A: ¬v.i.op=33)(E: ¬v.i.op=6)(N: ¬(v.i.op=34\/v.i.op=35))(T: ¬v.i.op=38):im params v.i.op v.i.n=true:=by
 unfold im;rw[if_neg A,if_neg E,if_neg N,if_neg T];split
 ·rfl
 have:=bf z;exact decide_eq_true (by omega)
theorem refbad_eq:((!(dP ((aK v.i.op).form !=1) v.i.a regs))||(!(dP ((((aK v.i.op).form==3)||((aK v.i.op).form==4))||((aK v.i.op).form==7)) v.i.b regs))||(!(dP ((aK v.i.op).form==4) v.i.c regs)))=
  !(dP (decide (aA v.i.op≠1)) v.i.a regs&&dP (decide (aA v.i.op=3\/aA v.i.op=4\/aA v.i.op=7)) v.i.b regs&&dP (decide (aA v.i.op=4)) v.i.c regs):=by
 rw[vinf_form]
 have A:(aA v.i.op !=1)=decide (aA v.i.op≠1):=by by_cases h:aA v.i.op=1<;>simp[h]
 have E:(((aA v.i.op==3)||(aA v.i.op==4))||(aA v.i.op==7))=decide (aA v.i.op=3\/aA v.i.op=4\/aA v.i.op=7):=by rw[a0p];simp[or_assoc]
 have N:(aA v.i.op==4)=decide (aA v.i.op=4):=by by_cases h:aA v.i.op=4<;>simp[h]
 rw[A,E,N,Bool.not_and,Bool.not_and]
theorem vin_rbad(E:alV v.i.op=true)(A:v.i.op=6\/v.args.length=0)(N:v.args.length<=6)(z:v.args.all (aO regs)=true)
  (h:((!(dP ((aK v.i.op).form !=1) v.i.a regs))||(!(dP ((((aK v.i.op).form==3)||((aK v.i.op).form==4))||((aK v.i.op).form==7)) v.i.b regs))||(!(dP ((aK v.i.op).form==4) v.i.c regs)))=true):false=fq params regs v:=by
 rw[refbad_eq,a0I]at h
 rw[lc E A N z,h];rfl
theorem vin_rgood(E:alV v.i.op=true)(A:v.i.op=6\/v.args.length=0)(N:v.args.length<=6)(z:v.args.all (aO regs)=true)
  (h:((!(dP ((aK v.i.op).form !=1) v.i.a regs))||(!(dP ((((aK v.i.op).form==3)||((aK v.i.op).form==4))||((aK v.i.op).form==7)) v.i.b regs))||(!(dP ((aK v.i.op).form==4) v.i.c regs)))=false):fq params regs v=im params v.i.op v.i.n:=by
 rw[refbad_eq,a19]at h
 rw[lc E A N z,h,a1x]
end
theorem blk_no{params regs nb:Int}{b:BlkT}(h:b.ins.all (fq params regs)=false):blkV params regs nb b=false:=by unfold blkV;rw[h,a23]
theorem iy{params regs nb:Int}{b:BlkT}(h:vendV nb regs b=false):blkV params regs nb b=false:=by unfold blkV;rw[h,a24]
theorem iw{params regs nb:Int}{b:BlkT}(h:b.ins.all (fq params regs)=true)(A:vendV nb regs b=true):blkV params regs nb b=true:=by unfold blkV;rw[h,A];rfl
theorem iB{c:VFnT}(h:c.blocks.all (blkV c.params c.regs c.blocks.length)=false):false=bP c:=by unfold bP;rw[h,a24]
theorem val_lim{c:VFnT}(h: ¬(0<=c.params/\c.params<=6/\0<=c.regs/\c.regs<=3000/\1<=c.blocks.length/\c.blocks.length<=1000)):false=bP c:=by unfold bP;rw[decide_eq_false h,a23]
theorem val_yes{c:VFnT}(h:0<=c.params/\c.params<=6/\0<=c.regs/\c.regs<=3000/\1<=c.blocks.length/\c.blocks.length<=1000)(A:c.blocks.all (blkV c.params c.regs c.blocks.length)=true):true=bP c:=by unfold bP;rw[decide_eq_true h,A];rfl
end Go.Proofs.YtknafdcgpaejlaaDoor.m2
