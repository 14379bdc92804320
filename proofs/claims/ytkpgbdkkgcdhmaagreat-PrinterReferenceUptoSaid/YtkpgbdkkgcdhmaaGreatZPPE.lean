/-
The parser: statements and blocks. No condition but that its place lies in the list.
-/
import Derived.Test.YtkpgbdkkgcdhmaaGreatZPPD
noncomputable section
namespace Go.Proofs.YtkpgbdkkgcdhmaaGreat.pe
open Go.R
set_option maxRecDepth 10000
set_option linter.unusedVariables false
set_option linter.unusedSimpArgs false
open w1 w3 l1 pt pa pb pc pd
variable (ts:List Token)
def StmAll(ex:FuncId)(N:Nat):Prop:=
 (∀{U:Option Addr} {al:Nat} {E:Nat} (r:RdrT) {F:Fz} {H:Heap} {R:List Fp} (hs:HS (.of H [E]) F H [[(E,.cells [(sL U r.l.length al),(iI r.at_),(iI r.fin),(.bool r.bad)] none false)]] R) (hr_0:SR F (sL U r.l.length al) r.l) (hr_1:in64 r.at_) (hr_2:in64 r.fin) (htx:tQ ts) (hts:r.l=ts) (hat:0<=r.at_/\r.at_<=(ts.length:Int)) (htl:ts.length<=1000000) (hm:2 *(ts.length-r.at_.toNat)+1<N),C Tryz.prog 0 (KX ex) 84 [(pT E 0)] H fun v H'=> ∃(x:StmT) (a5:Option Addr) (a6:Nat) (an:Option Addr) (a1:Nat) (ar:Option Addr) (a2:Nat) (aA:Option Addr) (a3:Nat) (a0:Option Addr) (a4:Nat) (A:RdrT) (O:Option Addr) (Z:Nat) (F':Fz),Fz.le F F'/\HS (.of H [E]) F' H' [[(E,.cells [(sL O A.l.length Z),(iI A.at_),(iI A.fin),(.bool A.bad)] none false)]] R/\v= .agg ⟨[iI x.kind,tX x.name.b,tX x.to.b,iI x.n,iI x.at_.kind,iI x.at_.n,tX x.at_.name.b,iI x.at_.op,sL a5 x.at_.kids.length a6,iI x.val.kind,iI x.val.n,tX x.val.name.b,iI x.val.op,sL an x.val.kids.length a1,sL ar x.args.length a2,sL aA x.thn.length a3,sL a0 x.els.length a4]⟩/\in64 x.kind/\in64 x.n/\in64 x.at_.kind/\in64 x.at_.n/\in64 x.at_.op/\in64 x.val.kind/\in64 x.val.n/\in64 x.val.op/\SR F' (sL a5 x.at_.kids.length a6) x.at_.kids/\SR F' (sL an x.val.kids.length a1) x.val.kids/\SR F' (sL ar x.args.length a2) x.args/\SR F' (sL aA x.thn.length a3) x.thn/\SR F' (sL a0 x.els.length a4) x.els/\in64 A.at_/\in64 A.fin/\SR F' (sL O A.l.length Z) A.l/\(A.bad=false->r.at_<A.at_)/\(A.l=ts)/\(r.at_<=A.at_/\A.at_<=(ts.length:Int))/\(A.fin=r.fin)/\(Oc (fun n=>stmM ts n r.at_.toNat) r.bad r.at_ x A.at_ A.bad))/\
 (∀{U:Option Addr} {al:Nat} {E:Nat} (r:RdrT) {F:Fz} {H:Heap} {R:List Fp} (hs:HS (.of H [E]) F H [[(E,.cells [(sL U r.l.length al),(iI r.at_),(iI r.fin),(.bool r.bad)] none false)]] R) (hr_0:SR F (sL U r.l.length al) r.l) (hr_1:in64 r.at_) (hr_2:in64 r.fin) (htx:tQ ts) (hts:r.l=ts) (hat:0<=r.at_/\r.at_<=(ts.length:Int)) (htl:ts.length<=1000000) (hm:2 *(ts.length-r.at_.toNat)<N),C Tryz.prog 0 (KX ex) 118 [(pT E 0)] H fun v H'=> ∃(ax:Option Addr) (kx:Nat) (x:List StmT) (A:RdrT) (O:Option Addr) (Z:Nat) (F':Fz),Fz.le F F'/\HS (.of H [E]) F' H' [[(E,.cells [(sL O A.l.length Z),(iI A.at_),(iI A.fin),(.bool A.bad)] none false)]] R/\v=sL ax x.length kx/\SR F' (sL ax x.length kx) x/\in64 A.at_/\in64 A.fin/\SR F' (sL O A.l.length Z) A.l/\(A.l=ts)/\(r.at_<=A.at_/\A.at_<=(ts.length:Int))/\(A.fin=r.fin)/\(Oc (fun n=>blkM ts n r.at_.toNat) r.bad r.at_ x A.at_ A.bad))
end Go.Proofs.YtkpgbdkkgcdhmaaGreat.pe
