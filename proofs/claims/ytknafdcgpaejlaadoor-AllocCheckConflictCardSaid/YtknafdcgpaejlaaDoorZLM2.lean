/-
 Plain laws: what the functions compute answers as the statement says. No condition beyond those that each statement names.
-/
import Derived.Test.YtknafdcgpaejlaaDoorZLM1
noncomputable section
namespace Go.Proofs.YtknafdcgpaejlaaDoor.m2
open Go.R m1
set_option linter.unusedVariables false
set_option linter.unusedSimpArgs false
def aO(regs n:Int):Bool:=decide (0<=n/\n<regs)
def aC(op:Int):Int:=if op=38 then 5 else(aM op).form
def aJ(op:Int):InfT:=if op=38 then⟨⟨[]⟩,5,false,true,false,false,0⟩ else aM op
def dA(has:Bool)(n regs:Int):Bool:=bif has then aO regs n else decide (n=0)
def gV(params op n:Int):Bool:=if op=13 then true else if op=33 then decide (-4194304<=n/\n<4194304) else if op=6 then decide (0<=n/\n<8) else if op=34\/op=35 then decide (0<=n/\n<4) else if op=38 then decide (0<=n/\n<params) else decide (n=0)
def eT(params regs:Int)(v:VInT):Bool:=
 alV v.i.op&&decide (v.i.op=6\/v.args.length=0)&&decide (v.args.length<=6)&&v.args.all (aO regs)&&dA (decide (aC v.i.op≠1)) v.i.a regs&&
  dA (decide (aC v.i.op=3\/aC v.i.op=4\/aC v.i.op=7)) v.i.b regs&&dA (decide (aC v.i.op=4)) v.i.c regs&&gV params v.i.op v.i.n
def vendV(nb regs:Int)(b:BlkT):Bool:=
 if b.fin=1 then aO nb b.tgt&&decide (b.els=0)&&decide (b.reg=0)
 else if b.fin=2 then aO nb b.tgt&&aO nb b.els&&aO regs b.reg
 else if b.fin=3 then aO regs b.reg&&decide (b.tgt=0)&&decide (b.els=0)
 else if b.fin=4 then decide (1<=b.tgt/\b.tgt<33554432)&&decide (b.els=0)&&decide (b.reg=0) else false
def blkV(params regs nb:Int)(b:BlkT):Bool:=b.ins.all (eT params regs)&&vendV nb regs b
def b8(c:VFnT):Bool:=decide (0<=c.params/\c.params<=6/\0<=c.regs/\c.regs<=3000/\1<=c.blocks.length/\c.blocks.length<=1000)&&c.blocks.all (blkV c.params c.regs c.blocks.length)
theorem bf{op:Int}(h:alV op=true):(op=3/\aC op=1)\/((op=6\/op=13\/op=33\/op=38)/\aC op=5)\/((op=9\/op=15\/op=16)/\aC op=2)\/((op=10\/(17<=op/\op<=32))/\aC op=3)\/((op=11\/op=12)/\aC op=4)\/((op=34\/op=35)/\aC op=7):=by
 unfold alV at h;have h:=of_decide_eq_true h;have e: ∃k:Fin 39,op=(k.val:Int):=⟨⟨op.toNat,by omega⟩,by simp;omega⟩
 obtain⟨k,rfl⟩:=e;revert k;decide
theorem er{α:Type} [Inhabited α]{p:α->Bool}{l:List α}: ∀j,j<0->p (l.getD j default)=true:=fun j h=>by omega
theorem cR{α:Type} [Inhabited α]{p:α->Bool}{l:List α}{k:Nat}(h: ∀j,j<k->p (l.getD j default)=true)(c:p (l.getD k default)=true): ∀j,j<k+1->p (l.getD j default)=true:=fun j hj=>by
 rcases Nat.lt_succ_iff_lt_or_eq.1 hj with A|rfl
 ·exact h j A
 exact c
theorem fo{α:Type} [Inhabited α]{p:α->Bool}{l:List α}{k:Nat}(h: ∀j,j<k->p (l.getD j default)=true)(hk:l.length<=k):l.all p=true:=by rw[a0t];intro x hx;obtain⟨j,hj,rfl⟩:=a0x.1 hx;have:=h j (by omega);rwa [a02,a04 hj]at this
theorem all_at{α:Type} [Inhabited α]{p:α->Bool}{l:List α}(h:l.all p=true){k:Nat}(hk:k<l.length):p (l.getD k default)=true:=a0t.1 h _ (by rw[a02,a04 hk];exact a1n hk)
theorem dN{α:Type} [Inhabited α]{p:α->Bool}{l:List α}{k:Nat}(hk:k<l.length)(c:p (l.getD k default)=false):l.all p=false:=by
 cases h:l.all p with
 |false=>rfl
 |true=>rw[all_at h hk]at c;cases c
theorem vin_no{params regs:Int}{v:VInT}(h:v.args.all (aO regs)=false):false=eT params regs v:=by unfold eT;rw[h];simp
theorem vin_bad2{params regs:Int}{v:VInT}(h:(alV v.i.op=false\/v.i.op≠6/\0<(v.args.length:Int))\/6<(v.args.length:Int)):false=eT params regs v:=by
 unfold eT;rcases h with(h|⟨h,A⟩)|h
 ·rw[h];simp
 ·rw[decide_eq_false (p:=v.i.op=6\/v.args.length=0) (by omega)];simp
 rw[decide_eq_false (p:=v.args.length<=6) (by omega)];simp
theorem vinf_form{op:Int}:(aJ op).form=aC op:=by unfold aJ aC;split<;>rfl
theorem aY{r n:Int}:aO r n=true↔0<=n/\n<r:=by unfold aO;exact decide_eq_true_iff
theorem cW{r n:Int}:aO r n=false↔ ¬(0<=n/\n<r):=by unfold aO;exact decide_eq_false_iff_not
theorem bU{nb regs:Int}{b:BlkT}:vendV nb regs b=true↔(b.fin=1/\0<=b.tgt/\b.tgt<nb/\b.els=0/\b.reg=0\/b.fin=2/\0<=b.tgt/\b.tgt<nb/\0<=b.els/\b.els<nb/\0<=b.reg/\b.reg<regs\/b.fin=3/\0<=b.reg/\b.reg<regs/\b.tgt=0/\b.els=0\/b.fin=4/\1<=b.tgt/\b.tgt<33554432/\b.els=0/\b.reg=0):=by
 unfold vendV
 (repeat' split)<;>(try simp only[a0c,aY,decide_eq_true_eq])<;>first|omega|(simp only[a0G,false_iff];omega)
theorem vin_bad{params regs:Int}{v:VInT}(h:(alV v.i.op=false\/6<(v.args.length:Int))\/(¬v.i.op=6/\0<(v.args.length:Int))):false=eT params regs v:=by
 unfold eT;rcases h with(h|h)|⟨h,A⟩
 ·rw[h];simp
 ·rw[decide_eq_false (p:=v.args.length<=6) (by omega)];simp
 rw[decide_eq_false (p:=v.i.op=6\/v.args.length=0) (by omega)];simp
theorem imm0{params op n:Int}(h:op=3\/op=9\/op=15\/op=16\/op=10\/(17<=op/\op<=32)\/op=11\/op=12):gV params op n=decide (n=0):=by unfold gV;rw[if_neg (by omega),if_neg (by omega),if_neg (by omega),if_neg (by omega),if_neg (by omega)]
def badV(av bv dv nv:Bool)(regs a b c n:Int):Bool:=
 ((((((((av&&(!(aO regs a)))||(bv&&(!(aO regs b))))||(dv&&(!(aO regs c))))||((!av)&&(a !=0)))||((!bv)&&(b !=0)))||((!dv)&&(c !=0)))||((!nv)&&(n !=0))))
theorem bad_eq(av bv dv nv:Bool)(regs a b c n:Int):badV av bv dv nv regs a b c n= !(dA av a regs&&dA bv b regs&&dA dv c regs&&(nv||decide (n=0))):=by
 have dne: ∀n:Int,(n !=0)= !decide (n=0):=fun n=>by by_cases h:n=0<;>simp[h]
 unfold badV dA;rw[dne,dne,dne,dne];generalize decide (a=0)=A;generalize decide (b=0)=E;generalize decide (c=0)=J;generalize decide (n=0)=N;generalize aO regs a=T;generalize aO regs b=U;generalize aO regs c=V;revert av bv dv nv A E J N T U V;decide
section
variable {params regs:Int} {v:VInT}
theorem imm_form(hal:alV v.i.op=true)(h:(decide (aC v.i.op=5\/aC v.i.op=7)||decide (v.i.n=0))=false):gV params v.i.op v.i.n=false:=by rw[a1B,decide_eq_false_iff_not,decide_eq_false_iff_not]at h;rw[imm0 (by have:=bf hal;omega)];exact decide_eq_false h.2
theorem kA(hal:alV v.i.op=true)(A:v.i.op=6\/v.args.length=0)(hl:v.args.length<=6)(hall:v.args.all (aO regs)=true):eT params regs v=
  (dA (decide (aC v.i.op≠1)) v.i.a regs&&dA (decide (aC v.i.op=3\/aC v.i.op=4\/aC v.i.op=7)) v.i.b regs&&dA (decide (aC v.i.op=4)) v.i.c regs&&gV params v.i.op v.i.n):=by
 unfold eT
 rw[hal,hall,decide_eq_true A,decide_eq_true hl];simp
theorem vin_bad3(hal:alV v.i.op=true)(A:v.i.op=6\/v.args.length=0)(hl:v.args.length<=6)(hall:v.args.all (aO regs)=true)
  (h:badV (decide (aC v.i.op≠1)) (decide (aC v.i.op=3\/aC v.i.op=4\/aC v.i.op=7)) (decide (aC v.i.op=4)) (decide (aC v.i.op=5\/aC v.i.op=7)) regs v.i.a v.i.b v.i.c v.i.n=true):false=eT params regs v:=by
 rw[kA hal A hl hall]
 rw[bad_eq,a0K,Bool.and_eq_false_iff]at h
 rcases h with h|h
 ·rw[h];rfl
 rw[imm_form hal h,a1R]
theorem vin_good3(hal:alV v.i.op=true)(E:v.i.op=6\/v.args.length=0)(hl:v.args.length<=6)(hall:v.args.all (aO regs)=true)
  (h:badV (decide (aC v.i.op≠1)) (decide (aC v.i.op=3\/aC v.i.op=4\/aC v.i.op=7)) (decide (aC v.i.op=4)) (decide (aC v.i.op=5\/aC v.i.op=7)) regs v.i.a v.i.b v.i.c v.i.n=false):
  eT params regs v=gV params v.i.op v.i.n/\(aC v.i.op=5\/aC v.i.op=7\/v.i.n=0):=by
 rw[kA hal E hl hall]
 rw[bad_eq,Bool.not_eq_false',a0c]at h
 refine⟨by rw[h.1,a1t],?_⟩
 have A:=h.2
 rw[a0D,decide_eq_true_eq,decide_eq_true_eq]at A
 omega
theorem vin_bad3v{av bv dv nv:Bool}(hal:alV v.i.op=true)(A:v.i.op=6\/v.args.length=0)(hl:v.args.length<=6)(hall:v.args.all (aO regs)=true)(ha:av=decide (aC v.i.op≠1))(hb:bv=decide (aC v.i.op=3\/aC v.i.op=4\/aC v.i.op=7))(hd:dv=decide (aC v.i.op=4))(hn:nv=decide (aC v.i.op=5\/aC v.i.op=7))
  (h:badV av bv dv nv regs v.i.a v.i.b v.i.c v.i.n=true):false=eT params regs v:=by subst ha hb hd hn;exact vin_bad3 hal A hl hall h
theorem vin_good3v{av bv dv nv:Bool}(hal:alV v.i.op=true)(A:v.i.op=6\/v.args.length=0)(hl:v.args.length<=6)(hall:v.args.all (aO regs)=true)(ha:av=decide (aC v.i.op≠1))(hb:bv=decide (aC v.i.op=3\/aC v.i.op=4\/aC v.i.op=7))(hd:dv=decide (aC v.i.op=4))(hn:nv=decide (aC v.i.op=5\/aC v.i.op=7))
  (h:badV av bv dv nv regs v.i.a v.i.b v.i.c v.i.n=false):eT params regs v=gV params v.i.op v.i.n/\(aC v.i.op=5\/aC v.i.op=7\/v.i.n=0):=by subst ha hb hd hn;exact vin_good3 hal A hl hall h
theorem dm(hal:alV v.i.op=true)(hn:aC v.i.op=5\/aC v.i.op=7\/v.i.n=0)(A: ¬v.i.op=33)(E: ¬v.i.op=6)(J: ¬(v.i.op=34\/v.i.op=35))(N: ¬v.i.op=38):gV params v.i.op v.i.n=true:=by
 unfold gV;rw[if_neg A,if_neg E,if_neg J,if_neg N];split
 ·rfl
 have:=bf hal;exact decide_eq_true (by omega)
theorem refbad_eq:((!(dA ((aJ v.i.op).form !=1) v.i.a regs))||(!(dA ((((aJ v.i.op).form==3)||((aJ v.i.op).form==4))||((aJ v.i.op).form==7)) v.i.b regs))||(!(dA ((aJ v.i.op).form==4) v.i.c regs)))=
  !(dA (decide (aC v.i.op≠1)) v.i.a regs&&dA (decide (aC v.i.op=3\/aC v.i.op=4\/aC v.i.op=7)) v.i.b regs&&dA (decide (aC v.i.op=4)) v.i.c regs):=by
 rw[vinf_form]
 have A:(aC v.i.op !=1)=decide (aC v.i.op≠1):=by by_cases h:aC v.i.op=1<;>simp[h]
 have E:(((aC v.i.op==3)||(aC v.i.op==4))||(aC v.i.op==7))=decide (aC v.i.op=3\/aC v.i.op=4\/aC v.i.op=7):=by rw[a0l];simp[or_assoc]
 have J:(aC v.i.op==4)=decide (aC v.i.op=4):=by by_cases h:aC v.i.op=4<;>simp[h]
 rw[A,E,J,Bool.not_and,Bool.not_and]
theorem vin_rbad(hal:alV v.i.op=true)(A:v.i.op=6\/v.args.length=0)(hl:v.args.length<=6)(hall:v.args.all (aO regs)=true)
  (h:((!(dA ((aJ v.i.op).form !=1) v.i.a regs))||(!(dA ((((aJ v.i.op).form==3)||((aJ v.i.op).form==4))||((aJ v.i.op).form==7)) v.i.b regs))||(!(dA ((aJ v.i.op).form==4) v.i.c regs)))=true):false=eT params regs v:=by
 rw[refbad_eq,a0K]at h
 rw[kA hal A hl hall,h];rfl
theorem vin_rgood(hal:alV v.i.op=true)(A:v.i.op=6\/v.args.length=0)(hl:v.args.length<=6)(hall:v.args.all (aO regs)=true)
  (h:((!(dA ((aJ v.i.op).form !=1) v.i.a regs))||(!(dA ((((aJ v.i.op).form==3)||((aJ v.i.op).form==4))||((aJ v.i.op).form==7)) v.i.b regs))||(!(dA ((aJ v.i.op).form==4) v.i.c regs)))=false):eT params regs v=gV params v.i.op v.i.n:=by
 rw[refbad_eq,Bool.not_eq_false']at h
 rw[kA hal A hl hall,h,a1t]
end
theorem blk_no{params regs nb:Int}{b:BlkT}(h:b.ins.all (eT params regs)=false):blkV params regs nb b=false:=by unfold blkV;rw[h,a1Q]
theorem hL{params regs nb:Int}{b:BlkT}(h:vendV nb regs b=false):blkV params regs nb b=false:=by unfold blkV;rw[h,a1R]
theorem hJ{params regs nb:Int}{b:BlkT}(h:b.ins.all (eT params regs)=true)(A:vendV nb regs b=true):blkV params regs nb b=true:=by unfold blkV;rw[h,A];rfl
theorem hO{c:VFnT}(h:c.blocks.all (blkV c.params c.regs c.blocks.length)=false):false=b8 c:=by unfold b8;rw[h,a1R]
theorem val_lim{c:VFnT}(h: ¬(0<=c.params/\c.params<=6/\0<=c.regs/\c.regs<=3000/\1<=c.blocks.length/\c.blocks.length<=1000)):false=b8 c:=by unfold b8;rw[decide_eq_false h,a1Q]
theorem val_yes{c:VFnT}(h:0<=c.params/\c.params<=6/\0<=c.regs/\c.regs<=3000/\1<=c.blocks.length/\c.blocks.length<=1000)(A:c.blocks.all (blkV c.params c.regs c.blocks.length)=true):true=b8 c:=by unfold b8;rw[decide_eq_true h,A];rfl
end Go.Proofs.YtknafdcgpaejlaaDoor.m2
