/-
Plain laws: what the functions compute answers as the statement says. No condition beyond those that each statement names.
-/
import Derived.Test.YtgdggmlghemecaaDoorZAM1
noncomputable section
namespace Go.Proofs.YtgdggmlghemecaaDoor.m2
open Go.R m1
set_option linter.unusedVariables false
set_option linter.unusedSimpArgs false
def aY(regs n:Int):Bool:=decide (0<=n/\n<regs)
def aE(op:Int):Int:=if op=38 then 5 else(aW op).form
def aR(op:Int):InfT:=if op=38 then⟨⟨[]⟩,5,false,true,false,false,0⟩ else aW op
def e8(z:Bool)(n regs:Int):Bool:=bif z then aY regs n else decide (n=0)
def iP(params op n:Int):Bool:=if op=13 then true else if op=33 then decide (-4194304<=n/\n<4194304) else if op=6 then decide (0<=n/\n<8) else if op=34\/op=35 then decide (0<=n/\n<4) else if op=38 then decide (0<=n/\n<params) else decide (n=0)
def fO(params regs:Int)(v:VInT):Bool:=
 alV v.i.op&&decide (v.i.op=6\/v.args.length=0)&&decide (v.args.length<=6)&&v.args.all (aY regs)&&e8 (decide (aE v.i.op≠1)) v.i.a regs&&
  e8 (decide (aE v.i.op=3\/aE v.i.op=4\/aE v.i.op=7)) v.i.b regs&&e8 (decide (aE v.i.op=4)) v.i.c regs&&iP params v.i.op v.i.n
def vendV(nb regs:Int)(b:BlkT):Bool:=
 if b.fin=1 then aY nb b.tgt&&decide (b.els=0)&&decide (b.reg=0)
 else if b.fin=2 then aY nb b.tgt&&aY nb b.els&&aY regs b.reg
 else if b.fin=3 then aY regs b.reg&&decide (b.tgt=0)&&decide (b.els=0)
 else if b.fin=4 then decide (1<=b.tgt/\b.tgt<33554432)&&decide (b.els=0)&&decide (b.reg=0) else false
def blkV(params regs nb:Int)(b:BlkT):Bool:=b.ins.all (fO params regs)&&vendV nb regs b
def bT(c:VFnT):Bool:=decide (0<=c.params/\c.params<=6/\0<=c.regs/\c.regs<=3000/\1<=c.blocks.length/\c.blocks.length<=1000)&&c.blocks.all (blkV c.params c.regs c.blocks.length)
theorem aL{op:Int}(h:alV op=true):(op=3/\aE op=1)\/((op=6\/op=13\/op=33\/op=38)/\aE op=5)\/((op=9\/op=15\/op=16)/\aE op=2)\/((op=10\/(17<=op/\op<=32))/\aE op=3)\/((op=11\/op=12)/\aE op=4)\/((op=34\/op=35)/\aE op=7):=by
 unfold alV at h;have h:=of_decide_eq_true h;have e: ∃k:Fin 39,op=(k.val:Int):=⟨⟨op.toNat,by omega⟩,by simp;omega⟩
 obtain⟨k,rfl⟩:=e;revert k;decide
theorem fb{α:Type} [Inhabited α]{p:α->Bool}{l:List α}: ∀j,j<0->p (l.getD j default)=true:=fun j h=>by omega
theorem dz{α:Type} [Inhabited α]{p:α->Bool}{l:List α}{k:Nat}(h: ∀j,j<k->p (l.getD j default)=true)(c:p (l.getD k default)=true): ∀j,j<k+1->p (l.getD j default)=true:=fun j z=>by
 rcases Nat.lt_succ_iff_lt_or_eq.1 z with A|rfl
 ·exact h j A
 exact c
theorem gm{α:Type} [Inhabited α]{p:α->Bool}{l:List α}{k:Nat}(h: ∀j,j<k->p (l.getD j default)=true)(E:l.length<=k):l.all p=true:=by rw[a0y];intro x A;obtain⟨j,z,rfl⟩:=a0K.1 A;have:=h j M;rwa [a03,a05 z]at this
theorem all_at{α:Type} [Inhabited α]{p:α->Bool}{l:List α}(h:l.all p=true){k:Nat}(z:k<l.length):p (l.getD k default)=true:=a0y.1 h _ (by rw[a03,a05 z];exact a1t z)
theorem ej{α:Type} [Inhabited α]{p:α->Bool}{l:List α}{k:Nat}(z:k<l.length)(c:p (l.getD k default)=false):l.all p=false:=by
 cases h:l.all p with
 |false=>rfl
 |true=>rw[all_at h z]at c;cases c
theorem vin_no{params regs:Int}{v:VInT}(h:v.args.all (aY regs)=false):false=fO params regs v:=by unfold fO;rw[h];simp
theorem vin_bad2{params regs:Int}{v:VInT}(h:(alV v.i.op=false\/v.i.op≠6/\0<(v.args.length:Int))\/6<(v.args.length:Int)):false=fO params regs v:=by
 unfold fO;rcases h with(h|⟨h,A⟩)|h
 ·rw[h];simp
 ·rw[decide_eq_false (p:=v.i.op=6\/v.args.length=0) M];simp
 rw[decide_eq_false (p:=v.args.length<=6) M];simp
theorem vinf_form{op:Int}:(aR op).form=aE op:=by unfold aR aE;split<;>rfl
theorem ba{r n:Int}:aY r n=true↔0<=n/\n<r:=by unfold aY;exact decide_eq_true_iff
theorem dE{r n:Int}:aY r n=false↔ ¬(0<=n/\n<r):=by unfold aY;exact decide_eq_false_iff_not
theorem cd{nb regs:Int}{b:BlkT}:vendV nb regs b=true↔(b.fin=1/\0<=b.tgt/\b.tgt<nb/\b.els=0/\b.reg=0\/b.fin=2/\0<=b.tgt/\b.tgt<nb/\0<=b.els/\b.els<nb/\0<=b.reg/\b.reg<regs\/b.fin=3/\0<=b.reg/\b.reg<regs/\b.tgt=0/\b.els=0\/b.fin=4/\1<=b.tgt/\b.tgt<33554432/\b.els=0/\b.reg=0):=by
 unfold vendV
 (repeat' split)<;>(try simp only[a07,ba,decide_eq_true_eq])<;>first|omega|(simp only[a0O,false_iff];omega)
theorem vin_bad{params regs:Int}{v:VInT}(h:(alV v.i.op=false\/6<(v.args.length:Int))\/(¬v.i.op=6/\0<(v.args.length:Int))):false=fO params regs v:=by
 unfold fO;rcases h with(h|h)|⟨h,A⟩
 ·rw[h];simp
 ·rw[decide_eq_false (p:=v.args.length<=6) M];simp
 rw[decide_eq_false (p:=v.i.op=6\/v.args.length=0) M];simp
theorem imm0{params op n:Int}(h:op=3\/op=9\/op=15\/op=16\/op=10\/(17<=op/\op<=32)\/op=11\/op=12):iP params op n=decide (n=0):=by unfold iP;rw[if_neg M,if_neg M,if_neg M,if_neg M,if_neg M]
def badV(z bv A nv:Bool)(regs a b c n:Int):Bool:=
 ((((((((z&&(!(aY regs a)))||(bv&&(!(aY regs b))))||(A&&(!(aY regs c))))||((!z)&&(a !=0)))||((!bv)&&(b !=0)))||((!A)&&(c !=0)))||((!nv)&&(n !=0))))
theorem bad_eq(av bv dv nv:Bool)(regs a b c n:Int):badV av bv dv nv regs a b c n= !(e8 av a regs&&e8 bv b regs&&e8 dv c regs&&(nv||decide (n=0))):=by
 have z: ∀n:Int,(n !=0)= !decide (n=0):=fun n=>by by_cases h:n=0<;>simp[h]
 unfold badV e8;rw[z,z,z,z];generalize decide (a=0)=A;generalize decide (b=0)=E;generalize decide (c=0)=N;generalize decide (n=0)=T;generalize aY regs a=U;generalize aY regs b=a_;generalize aY regs c=Z;revert av bv dv nv A E N T U a_ Z;decide
section
variable {params regs:Int} {v:VInT}
theorem imm_form(z:alV v.i.op=true)(h:(decide (aE v.i.op=5\/aE v.i.op=7)||decide (v.i.n=0))=false):iP params v.i.op v.i.n=false:=by rw[a0F,decide_eq_false_iff_not,decide_eq_false_iff_not]at h;rw[imm0 (by have:=aL z;omega)];exact decide_eq_false h.2
theorem lU(E:alV v.i.op=true)(A:v.i.op=6\/v.args.length=0)(N:v.args.length<=6)(z:v.args.all (aY regs)=true):fO params regs v=
  (e8 (decide (aE v.i.op≠1)) v.i.a regs&&e8 (decide (aE v.i.op=3\/aE v.i.op=4\/aE v.i.op=7)) v.i.b regs&&e8 (decide (aE v.i.op=4)) v.i.c regs&&iP params v.i.op v.i.n):=by
 unfold fO
 rw[E,z,decide_eq_true A,decide_eq_true N];simp
theorem vin_bad3(z:alV v.i.op=true)(A:v.i.op=6\/v.args.length=0)(N:v.args.length<=6)(E:v.args.all (aY regs)=true)
  (h:badV (decide (aE v.i.op≠1)) (decide (aE v.i.op=3\/aE v.i.op=4\/aE v.i.op=7)) (decide (aE v.i.op=4)) (decide (aE v.i.op=5\/aE v.i.op=7)) regs v.i.a v.i.b v.i.c v.i.n=true):false=fO params regs v:=by
 rw[lU z A N E]
 rw[bad_eq,a0B,Bool.and_eq_false_iff]at h
 rcases h with h|h
 ·rw[h];rfl
 rw[imm_form z h,a1R]
theorem vin_good3(N:alV v.i.op=true)(E:v.i.op=6\/v.args.length=0)(T:v.args.length<=6)(z:v.args.all (aY regs)=true)
  (h:badV (decide (aE v.i.op≠1)) (decide (aE v.i.op=3\/aE v.i.op=4\/aE v.i.op=7)) (decide (aE v.i.op=4)) (decide (aE v.i.op=5\/aE v.i.op=7)) regs v.i.a v.i.b v.i.c v.i.n=false):
  fO params regs v=iP params v.i.op v.i.n/\(aE v.i.op=5\/aE v.i.op=7\/v.i.n=0):=by
 rw[lU N E T z]
 rw[bad_eq,a0Z,a07]at h
 refine⟨by rw[h.1,a1j],?_⟩
 have A:=h.2
 rw[a0z,decide_eq_true_eq,decide_eq_true_eq]at A
 omega
theorem vin_bad3v{E bv N nv:Bool}(T:alV v.i.op=true)(A:v.i.op=6\/v.args.length=0)(hl:v.args.length<=6)(z:v.args.all (aY regs)=true)(U:E=decide (aE v.i.op≠1))(Z:bv=decide (aE v.i.op=3\/aE v.i.op=4\/aE v.i.op=7))(hd:N=decide (aE v.i.op=4))(hn:nv=decide (aE v.i.op=5\/aE v.i.op=7))
  (h:badV E bv N nv regs v.i.a v.i.b v.i.c v.i.n=true):false=fO params regs v:=by subst U Z hd hn;exact vin_bad3 T A hl z h
theorem vin_good3v{E bv N nv:Bool}(T:alV v.i.op=true)(A:v.i.op=6\/v.args.length=0)(hl:v.args.length<=6)(z:v.args.all (aY regs)=true)(U:E=decide (aE v.i.op≠1))(Z:bv=decide (aE v.i.op=3\/aE v.i.op=4\/aE v.i.op=7))(hd:N=decide (aE v.i.op=4))(hn:nv=decide (aE v.i.op=5\/aE v.i.op=7))
  (h:badV E bv N nv regs v.i.a v.i.b v.i.c v.i.n=false):fO params regs v=iP params v.i.op v.i.n/\(aE v.i.op=5\/aE v.i.op=7\/v.i.n=0):=by subst U Z hd hn;exact vin_good3 T A hl z h
theorem dS(z:alV v.i.op=true)(U:aE v.i.op=5\/aE v.i.op=7\/v.i.n=0)(A: ¬v.i.op=33)(E: ¬v.i.op=6)(N: ¬(v.i.op=34\/v.i.op=35))(T: ¬v.i.op=38):iP params v.i.op v.i.n=true:=by
 unfold iP;rw[if_neg A,if_neg E,if_neg N,if_neg T];split
 ·rfl
 have:=aL z;exact decide_eq_true M
theorem refbad_eq:((!(e8 ((aR v.i.op).form !=1) v.i.a regs))||(!(e8 ((((aR v.i.op).form==3)||((aR v.i.op).form==4))||((aR v.i.op).form==7)) v.i.b regs))||(!(e8 ((aR v.i.op).form==4) v.i.c regs)))=
  !(e8 (decide (aE v.i.op≠1)) v.i.a regs&&e8 (decide (aE v.i.op=3\/aE v.i.op=4\/aE v.i.op=7)) v.i.b regs&&e8 (decide (aE v.i.op=4)) v.i.c regs):=by
 rw[vinf_form]
 have A:(aE v.i.op !=1)=decide (aE v.i.op≠1):=by by_cases h:aE v.i.op=1<;>simp[h]
 have E:(((aE v.i.op==3)||(aE v.i.op==4))||(aE v.i.op==7))=decide (aE v.i.op=3\/aE v.i.op=4\/aE v.i.op=7):=by rw[a0o];simp[or_assoc]
 have N:(aE v.i.op==4)=decide (aE v.i.op=4):=by by_cases h:aE v.i.op=4<;>simp[h]
 rw[A,E,N,Bool.not_and,Bool.not_and]
theorem vin_rbad(E:alV v.i.op=true)(A:v.i.op=6\/v.args.length=0)(N:v.args.length<=6)(z:v.args.all (aY regs)=true)
  (h:((!(e8 ((aR v.i.op).form !=1) v.i.a regs))||(!(e8 ((((aR v.i.op).form==3)||((aR v.i.op).form==4))||((aR v.i.op).form==7)) v.i.b regs))||(!(e8 ((aR v.i.op).form==4) v.i.c regs)))=true):false=fO params regs v:=by
 rw[refbad_eq,a0B]at h
 rw[lU E A N z,h];rfl
theorem vin_rgood(E:alV v.i.op=true)(A:v.i.op=6\/v.args.length=0)(N:v.args.length<=6)(z:v.args.all (aY regs)=true)
  (h:((!(e8 ((aR v.i.op).form !=1) v.i.a regs))||(!(e8 ((((aR v.i.op).form==3)||((aR v.i.op).form==4))||((aR v.i.op).form==7)) v.i.b regs))||(!(e8 ((aR v.i.op).form==4) v.i.c regs)))=false):fO params regs v=iP params v.i.op v.i.n:=by
 rw[refbad_eq,a0Z]at h
 rw[lU E A N z,h,a1j]
end
theorem blk_no{params regs nb:Int}{b:BlkT}(h:b.ins.all (fO params regs)=false):blkV params regs nb b=false:=by unfold blkV;rw[h,a1A]
theorem iW{params regs nb:Int}{b:BlkT}(h:vendV nb regs b=false):blkV params regs nb b=false:=by unfold blkV;rw[h,a1R]
theorem iV{params regs nb:Int}{b:BlkT}(h:b.ins.all (fO params regs)=true)(A:vendV nb regs b=true):blkV params regs nb b=true:=by unfold blkV;rw[h,A];rfl
theorem iX{c:VFnT}(h:c.blocks.all (blkV c.params c.regs c.blocks.length)=false):false=bT c:=by unfold bT;rw[h,a1R]
theorem val_lim{c:VFnT}(h: ¬(0<=c.params/\c.params<=6/\0<=c.regs/\c.regs<=3000/\1<=c.blocks.length/\c.blocks.length<=1000)):false=bT c:=by unfold bT;rw[decide_eq_false h,a1A]
theorem val_yes{c:VFnT}(h:0<=c.params/\c.params<=6/\0<=c.regs/\c.regs<=3000/\1<=c.blocks.length/\c.blocks.length<=1000)(A:c.blocks.all (blkV c.params c.regs c.blocks.length)=true):true=bT c:=by unfold bT;rw[decide_eq_true h,A];rfl
end Go.Proofs.YtgdggmlghemecaaDoor.m2
