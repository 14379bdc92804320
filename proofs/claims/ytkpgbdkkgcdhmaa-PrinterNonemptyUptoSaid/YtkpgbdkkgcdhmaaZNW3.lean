/-
Texts of words: writing and reading them, program and reference. No condition but that numbers are words.
-/
import Derived.Test.YtkpgbdkkgcdhmaaZNL1
import Derived.Test.YtkpgbdkkgcdhmaaZNW1
noncomputable section
namespace Go.Proofs.Ytkpgbdkkgcdhmaa.w3
open Go.R
set_option maxRecDepth 10000
set_option linter.unusedVariables false
set_option linter.unusedSimpArgs false
variable (ex:FuncId) {F:Fz} {H:Heap} {R:List Fp}
open w1
theorem dec_step{m q:Nat}{bs:List UInt8}{d:List UInt8}(O:bs.length=20)(U:1<=q)(E:q<=20)(h:d=dec m++bs.drop q):
  (0<m/10->d=dec (m/10)++(bs.set (q-1) (UInt8.ofNat (48+m%10))).drop (q-1))/\(m/10=0->d=(bs.set (q-1) (UInt8.ofNat (48+m%10))).drop (q-1)):=by
 have e:(bs.set (q-1) (UInt8.ofNat (48+m%10))).drop (q-1)=UInt8.ofNat (48+m%10)::bs.drop q:=by
  apply a0L;intro i;rw[a0E];cases i with
  |zero=>rw[List.getElem?_cons_zero,a1X,List.getElem?_set_self M]
  |succ i=>rw[a1m,a0E,List.getElem?_set_ne M];congr 1;omega
 rw[e]
 refine⟨fun A=>?_,fun A=>?_⟩
 ·rw[h,dec_big M];simp[decD]
 rw[h,kv M]
 have:m%10=m:=M
 rw[this];rfl
theorem tx0{l:List UInt8}(h:l.length<=20):([45]:List UInt8).length+l.length<=1099511627776:=by simp;omega
theorem tx1{n:Int}(O:in64 n):(n<0->[45]++dec (IntKind.u64.wrap (0-IntKind.u64.wrap n)).toNat=eL n)/\(¬n<0->dec (IntKind.u64.wrap n).toNat=eL n):=by
 obtain⟨A,E⟩:=O;rw[kW,kW];refine⟨fun h=>?_,fun h=>?_⟩
 ·rw[eL,if_pos h,show((0-n%18446744073709551616)%18446744073709551616).toNat=n.natAbs by omega];rfl
 rw[eL,if_neg h,show(n%18446744073709551616).toNat=n.toNat by omega]
theorem dec_le{n:Int}(h:0<=n/\n<18446744073709551616):(dec n.toNat).length<=20:=dec_len 19 _ M
theorem digits_c(n:Int)(hs:HS (.of H []) F H [] R)(hn:0<=n/\n<18446744073709551616):kKt ex 25 [(.int .u64 n)] H fun v H'=> ∃(r:List UInt8) (F':Fz),Fz.le F F'/\HS (.of H []) F' H' [] R/\v=tX r/\r=dec n.toNat:=by
 obtain⟨m0,rfl⟩:=a0Q hn.1;refine aI Try.func25 V V ?_;refine eO ?_;refine ad ?_;refine wa (tX []) V V V ?_;refine bW ?_;refine aZ ?_;refine eO ?_;refine ad ?_;refine ce (rs_arr (List.replicate 20 (0:UInt8)) hs V (RL.replicate (z:=[(.int .u8 0)]) V 20) V) V V ?_;rintro _ H2 p1 ⟨a_,rfl,aA,(a7:HS _ _ _ [p1] _),_,a4⟩;have bF:=OS.len' aA;refine bW ?_;refine aZ ?_;refine eO ?_;refine ad ?_;refine wa (iI 20) V V V ?_;refine bW ?_;refine aZ ?_;refine lS ?_;refine au (fun(mm:Nat) f H'=> ∃(m:Nat) (q:Nat) (bs:List UInt8) (A:Fp) (F':Fz),Fz.le F F'/\HS (Base.of H []) F' H' [A] R/\OS F' (sL (some ⟨a_,0,none⟩) 20 20) bs A/\(∃cs,A=[(a_,.cells cs none false)])/\aM f [(0,(.int .u64 (m:Int))),(3,(pT a_ 0)),(4,(iI (q:Int)))]/\mm=q+1/\(q<=20)/\(m<10^q)/\(q=20\/0<m)/\(dec m0=dec m++bs.drop q)/\(m<18446744073709551616)) _ ⟨m0,20,List.replicate 20 (0:UInt8),p1,_,fR,a7,aA,a4,(agC V (agC V (agC V agN))),V,(by first|assumption|omega|(simp at *;omega)),(by first|assumption|omega|(simp at *;omega)),(by first|assumption|omega|(simp at *;omega)),(by simp),(by first|assumption|omega|(simp at *;omega))⟩ ?_;rintro b2 f3 H3 ⟨m,q,bs,A,F3,ar,a9,U,an,ax,rfl,h1,h2,h3,h4,h5⟩ ba;refine aF _ ax (fun _=>?_);clear ax;have bn:=OS.len' U;have b0:1<=q:=by
  rcases a1j q with h|h
  ·subst h;omega
  exact h
 obtain⟨q1,a5⟩: ∃q1,q=q1+1:=⟨q-1,by omega⟩
 refine lS ?_;refine eO ?_;refine ad ?_;refine wm (iI (q:Int)) V V V ?_;refine aP (v:=(iI ((q-1:Nat):Int))) (ap_sub V V (natsub (a:=q) (b:=1) M (w_i64 M))) V V ?_;refine wa (iI ((q-1:Nat):Int)) V V V ?_;refine bW ?_;refine aZ ?_;refine eO ?_;refine ad ?_;refine wm (iI ((q-1:Nat):Int)) V V V ?_;refine wm (.int .u64 (m:Int)) V V V ?_;refine aP (v:=(.int .u64 ((m%10:Nat):Int))) (ap_mod V V e_ V) V V ?_;refine aP (v:=(.int .u64 (48+((m%10:Nat):Int)))) (ap_add V V (w_u64 (n:=48+((m%10:Nat):Int)) M)) V V ?_;refine aP (v:=(.int .u8 (48+((m%10:Nat):Int)))) (ap_cv V V V (w_u8 (n:=48+((m%10:Nat):Int)) M)) V V ?_;refine aP (v:=(.pointer (some ⟨sB (sL (some ⟨a_,0,none⟩) 20 20),sO (sL (some ⟨a_,0,none⟩) 20 20)+(q-1) *Rp.sz UInt8,none⟩))) (ap_idxA (α:=UInt8) (j:=((q-1:Nat):Int)) V V V V M M) V V ?_;refine lQ (rs_stA (α:=UInt8) (j:=q-1) (off:=0) (q:=0) (UInt8.ofNat (48+(m%10))) U a9 V V V V V V V V (cx (x:=default) M) V (by rintro cs rfl;exact⟨a0d V,u8r (n:=48+(m%10)) M⟩) an) V ?_;rintro _ H6 p4 ⟨al,(O:HS _ _ _ [p4] _),_,Z⟩;have bw:=OS.len' al;refine bW ?_;refine aZ ?_;refine eO ?_;refine ad ?_;refine wm (.int .u64 (m:Int)) V V V ?_;refine aP (v:=(.int .u64 ((m/10:Nat):Int))) (ap_div V V e_ (w_u64 (n:=((m/10:Nat):Int)) M)) V V ?_;refine wa (.int .u64 ((m/10:Nat):Int)) V V V ?_;refine bW ?_;refine aZ ?_;refine eO ?_;refine ad ?_;refine wm (.int .u64 ((m/10:Nat):Int)) V V V ?_;refine aP (v:=(.bool (((m/10:Nat):Int)==0))) (ap_cmp V V V V) V V ?_;refine bW ?_;refine aZ ?_;refine jM (v:=(((m/10:Nat):Int)==0)) V V (fun c7=>?_) (fun c7=>?_)
 ·try simp only[BS]at c7
  refine eO ?_;refine ad ?_;refine wm (iI ((q-1:Nat):Int)) V V V ?_;refine ce (rs_cutA (α:=UInt8) (i:=q-1) (j:=20) al O (q:=0) V V V V optN0 (optN M) M M Z) V V ?_;rintro _ _ _ ⟨a8,k8,rfl,E,a6⟩;simp only at E;replace E:=E.symm;subst E;refine aP (v:=(tX (((bs.set (q-1) (UInt8.ofNat (48+(m%10)))).take 20).drop (q-1)))) (lM V V V V (OS.sv a6 O (i:=0) V)) V V ?_;refine wa (tX (((bs.set (q-1) (UInt8.ofNat (48+(m%10)))).take 20).drop (q-1))) V V V ?_;refine bW ?_;refine aZ ?_;refine ag ⟨.inr V,_,V,((bs.set (q-1) (UInt8.ofNat (48+(m%10)))).take 20).drop (q-1),_,(ar),(HS.forget O),V,(by rw[a0t M];exact((dec_step X M h1 h4).2 M).symm)⟩
 try simp only[BS]at c7
 refine ic ?_;refine aZ ?_;refine ba _ _ _ ?_ ⟨m/10,q-1,bs.set (q-1) (UInt8.ofNat (48+(m%10))),p4,_,(fT ar fR),O,al,Z,(agC V (agC V (agC V agN))),V,(by first|assumption|omega|(simp at *;omega)),(by rw[show q-1=q1 by omega];rw[a5,Nat.pow_succ]at h2;omega),(by first|assumption|omega|(simp at *;omega)),(by exact(dec_step X M h1 h4).1 M),(by first|assumption|omega|(simp at *;omega))⟩;omega
theorem text_c(n:Int)(hs:HS (.of H []) F H [] R)(hn:in64 n):kKt ex 13 [(iI n)] H fun v H'=> ∃(r:List UInt8) (F':Fz),Fz.le F F'/\HS (.of H []) F' H' [] R/\v=tX r/\r=eL n:=by
 refine aI Try.func13 V V ?_;refine eO ?_;refine ad ?_;refine wa (tX []) V V V ?_;refine bW ?_;refine aZ ?_;refine eO ?_;refine eO ?_;refine ad ?_;refine wm (iI n) V V V ?_;refine aP (v:=(.bool (decide (n<0)))) (ap_cmp V V V V) V V ?_;refine bW ?_;refine aZ ?_;refine jM (v:=(decide (n<0))) V V (fun c1=>?_) (fun c1=>?_)
 ·try simp only[BS]at c1
  refine eO ?_;refine ad ?_;refine wm (iI n) V V V ?_;refine aP (v:=(.int .u64 (IntKind.u64.wrap n))) (ap_cv V V V V) V V ?_;refine aP (v:=(.int .u64 (IntKind.u64.wrap (0-(IntKind.u64.wrap n))))) (ap_ng V V) V V ?_;refine ay (aq V V V) V V (digits_c ex (IntKind.u64.wrap (0-(IntKind.u64.wrap n))) (HS.call hs) (by first|omega|(simp only[kW];omega))) ?_;rintro _ H2 ⟨r2,a_,O,A,rfl,rfl⟩;replace A:HS _ _ _ [] _:=HS.back hs V A;refine aP (v:=(tX ([45]++(dec (IntKind.u64.wrap (0-(IntKind.u64.wrap n))).toNat)))) (mM V V (by exact tx0 (dec_le ⟨by simp only[kW];omega,by simp only[kW];omega⟩))) V V ?_;refine wa (tX ([45]++(dec (IntKind.u64.wrap (0-(IntKind.u64.wrap n))).toNat))) V V V ?_;refine bW ?_;refine aZ ?_;refine ag ⟨.inr V,_,V,[45]++(dec (IntKind.u64.wrap (0-(IntKind.u64.wrap n))).toNat),_,(O),(HS.forget A),V,(by first|exact(tx1 hn).1 X|exact(tx1 hn).2 X)⟩
 try simp only[BS]at c1
 refine aZ ?_;refine eO ?_;refine ad ?_;refine wm (iI n) V V V ?_;refine aP (v:=(.int .u64 (IntKind.u64.wrap n))) (ap_cv V V V V) V V ?_;refine ay (aq V V V) V V (digits_c ex (IntKind.u64.wrap n) (HS.call hs) (by first|omega|(simp only[kW];omega))) ?_;rintro _ H3 ⟨r3,Z,U,E,rfl,rfl⟩;replace E:HS _ _ _ [] _:=HS.back hs V E;refine wa (tX (dec (IntKind.u64.wrap n).toNat)) V V V ?_;refine bW ?_;refine aZ ?_;refine ag ⟨.inr V,_,V,dec (IntKind.u64.wrap n).toNat,_,(U),(HS.forget E),V,(by first|exact(tx1 hn).1 X|exact(tx1 hn).2 X)⟩
def sgn:Option Nat->Option Int
 |some 0=>none
 |some n=>some (-(n:Int))
 |none=>none
end Go.Proofs.Ytkpgbdkkgcdhmaa.w3
