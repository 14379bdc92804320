/-
Texts of words: writing and reading them, program and reference. No condition but that numbers are words.
-/
import Derived.Test.YtkpgbdkkgcdhmaaGreatZPL1
import Derived.Test.YtkpgbdkkgcdhmaaGreatZPW1
noncomputable section
namespace Go.Proofs.YtkpgbdkkgcdhmaaGreat.w3
open Go.R
set_option maxRecDepth 10000
set_option linter.unusedVariables false
set_option linter.unusedSimpArgs false
variable (ex:FuncId) {F:Fz} {H:Heap} {R:List Fp}
open w1
theorem dec_step{m q:Nat}{bs:List UInt8}{d:List UInt8}(O:bs.length=20)(U:1<=q)(E:q<=20)(h:d=dec m++bs.drop q):
  (0<m/10->d=dec (m/10)++(bs.set (q-1) (UInt8.ofNat (48+m%10))).drop (q-1))/\(m/10=0->d=(bs.set (q-1) (UInt8.ofNat (48+m%10))).drop (q-1)):=by
 have e:(bs.set (q-1) (UInt8.ofNat (48+m%10))).drop (q-1)=UInt8.ofNat (48+m%10)::bs.drop q:=by
  apply a0N;intro i;rw[a0F];cases i with
  |zero=>rw[List.getElem?_cons_zero,a1Z,List.getElem?_set_self M]
  |succ i=>rw[a1k,a0F,List.getElem?_set_ne M];congr 1;omega
 rw[e]
 refine⟨fun A=>?_,fun A=>?_⟩
 ·rw[h,dec_big M];simp[decD]
 rw[h,i0 M]
 have:m%10=m:=M
 rw[this];rfl
theorem tx0{l:List UInt8}(h:l.length<=20):([45]:List UInt8).length+l.length<=1099511627776:=by simp;omega
theorem tx1{n:Int}(O:in64 n):(n<0->[45]++dec (IntKind.u64.wrap (0-IntKind.u64.wrap n)).toNat=cJ n)/\(¬n<0->dec (IntKind.u64.wrap n).toNat=cJ n):=by
 obtain⟨A,E⟩:=O;rw[lV,lV];refine⟨fun h=>?_,fun h=>?_⟩
 ·rw[cJ,if_pos h,show((0-n%18446744073709551616)%18446744073709551616).toNat=n.natAbs by omega];rfl
 rw[cJ,if_neg h,show(n%18446744073709551616).toNat=n.toNat by omega]
theorem dec_le{n:Int}(h:0<=n/\n<18446744073709551616):(dec n.toNat).length<=20:=dec_len 19 _ M
theorem digits_c(n:Int)(hs:HS (.of H []) F H [] R)(hn:0<=n/\n<18446744073709551616):kKt ex 53 [(.int .u64 n)] H fun v H'=> ∃(r:List UInt8) (F':Fz),Fz.le F F'/\HS (.of H []) F' H' [] R/\v=tX r/\r=dec n.toNat:=by
 obtain⟨m0,rfl⟩:=a0K hn.1;refine av Tryz.func53 V V (cx (ab (za (tX []) (aQ (aJ (cx (ab (bc (rs_arr (List.replicate 20 (0:UInt8)) hs V (RL.replicate (z:=[(.int .u8 0)]) V 20) V) V V ?_))))))));rintro _ H2 p1 ⟨a_,rfl,aA,(a7:HS _ _ _ [p1] _),_,a4⟩;have bF:=OS.len' aA;refine aQ (aJ (cx (ab (za (iI 20) (aQ (aJ (mN (aj (fun(mm:Nat) f H'=> ∃(m:Nat) (q:Nat) (bs:List UInt8) (A:Fp) (F':Fz),Fz.le F F'/\HS (Base.of H []) F' H' [A] R/\OS F' (sL (some ⟨a_,0,none⟩) 20 20) bs A/\(∃cs,A=[(a_,.cells cs none false)])/\aC f [(0,(.int .u64 (m:Int))),(3,(pT a_ 0)),(4,(iI (q:Int)))]/\mm=q+1/\(q<=20)/\(m<10^q)/\(q=20\/0<m)/\(dec m0=dec m++bs.drop q)/\(m<18446744073709551616)) _ ⟨m0,20,List.replicate 20 (0:UInt8),p1,_,fR,a7,aA,a4,⟨V,V,V,trivial⟩,V,M,M,M,(by simp),M⟩ ?_))))))));rintro b2 f3 H3 ⟨m,q,bs,A,F3,ar,a9,U,an,ax,rfl,h1,h2,h3,h4,h5⟩ ba;refine ap _ ax (fun _=>?_);clear ax;have bn:=OS.len' U;have b0:1<=q:=by
  rcases a1c q with h|h
  ·subst h;omega
  exact h
 obtain⟨q1,a5⟩: ∃q1,q=q1+1:=⟨q-1,by omega⟩
 refine mN (cx (ab (zm (iI (q:Int)) (ao (v:=(iI ((q-1:Nat):Int))) (ap_sub V V (natsub (a:=q) (b:=1) M (lK M))) V V (za (iI ((q-1:Nat):Int)) (aQ (aJ (cx (ab (zm (iI ((q-1:Nat):Int)) (zm (.int .u64 (m:Int)) (ao (v:=(.int .u64 ((m%10:Nat):Int))) (mI V V e_ V) V V (ao (v:=(.int .u64 (48+((m%10:Nat):Int)))) (ja V V (mQ (n:=48+((m%10:Nat):Int)) M)) V V (ao (v:=(.int .u8 (48+((m%10:Nat):Int)))) (ap_cv V V V (w_u8 (n:=48+((m%10:Nat):Int)) M)) V V (ao (v:=(.pointer (some ⟨sB (sL (some ⟨a_,0,none⟩) 20 20),sO (sL (some ⟨a_,0,none⟩) 20 20)+(q-1) *Rp.sz UInt8,none⟩))) (ap_idxA (α:=UInt8) (j:=((q-1:Nat):Int)) V V V V M M) V V (fj (rs_stA (α:=UInt8) (j:=q-1) (off:=0) (q:=0) (UInt8.ofNat (48+(m%10))) U a9 V V V V V V V V (bC (x:=default) M) V (by rintro cs rfl;exact⟨a0c V,u8r (n:=48+(m%10)) M⟩) an) V ?_))))))))))))))));rintro _ H6 p4 ⟨al,(O:HS _ _ _ [p4] _),_,Z⟩;have bw:=OS.len' al;refine aQ (aJ (cx (ab (zm (.int .u64 (m:Int)) (ao (v:=(.int .u64 ((m/10:Nat):Int))) (ap_div V V e_ (mQ (n:=((m/10:Nat):Int)) M)) V V (za (.int .u64 ((m/10:Nat):Int)) (aQ (aJ (cx (ab (zm (.int .u64 ((m/10:Nat):Int)) (ao (v:=(.bool (((m/10:Nat):Int)==0))) (ew V V V V) V V (aQ (aJ (hR (v:=(((m/10:Nat):Int)==0)) V V (fun c7=>?_) (fun c7=>?_))))))))))))))))
 ·try simp only[BS]at c7
  refine cx (ab (zm (iI ((q-1:Nat):Int)) (bc (rs_cutA (α:=UInt8) (i:=q-1) (j:=20) al O (q:=0) V V V V optN0 (optN M) M M Z) V V ?_)));rintro _ _ _ ⟨a8,k8,rfl,E,a6⟩;simp only at E;replace E:=E.symm;subst E;refine ao (v:=(tX (((bs.set (q-1) (UInt8.ofNat (48+(m%10)))).take 20).drop (q-1)))) (jR V V V V (OS.sv a6 O (i:=0) V)) V V (za (tX (((bs.set (q-1) (UInt8.ofNat (48+(m%10)))).take 20).drop (q-1))) (aQ (aJ (ae ⟨.inr V,_,V,((bs.set (q-1) (UInt8.ofNat (48+(m%10)))).take 20).drop (q-1),_,(ar),(HS.forget O),V,(by rw[a0q M];exact((dec_step X M h1 h4).2 M).symm)⟩))))
 try simp only[BS]at c7
 refine iK (aJ ?_);refine ba _ _ _ ?_ ⟨m/10,q-1,bs.set (q-1) (UInt8.ofNat (48+(m%10))),p4,_,(fT ar fR),O,al,Z,⟨V,V,V,trivial⟩,V,M,(by rw[show q-1=q1 by omega];rw[a5,Nat.pow_succ]at h2;omega),M,((dec_step X M h1 h4).1 M),M⟩;omega
theorem text_c(n:Int)(hs:HS (.of H []) F H [] R)(hn:in64 n):kKt ex 23 [(iI n)] H fun v H'=> ∃(r:List UInt8) (F':Fz),Fz.le F F'/\HS (.of H []) F' H' [] R/\v=tX r/\r=cJ n:=by
 refine av Tryz.func23 V V (cx (ab (za (tX []) (aQ (aJ (cx (cx (ab (zm (iI n) (ao (v:=(.bool (decide (n<0)))) (ew V V V V) V V (aQ (aJ (hR (v:=(decide (n<0))) V V (fun c1=>?_) (fun c1=>?_))))))))))))))
 ·try simp only[BS]at c1
  refine cx (ab (zm (iI n) (ao (v:=(.int .u64 (IntKind.u64.wrap n))) (ap_cv V V V V) V V (ao (v:=(.int .u64 (IntKind.u64.wrap (0-(IntKind.u64.wrap n))))) (ap_ng V V) V V (zc (digits_c ex (IntKind.u64.wrap (0-(IntKind.u64.wrap n))) (HS.call hs) (by(simp only[lV];omega))) ?_)))));rintro _ H2 ⟨r2,a_,O,A,rfl,rfl⟩;replace A:HS _ _ _ [] _:=HS.back hs V A;refine ao (v:=(tX ([45]++(dec (IntKind.u64.wrap (0-(IntKind.u64.wrap n))).toNat)))) (jD V V (tx0 (dec_le ⟨by simp only[lV];omega,by simp only[lV];omega⟩))) V V (za (tX ([45]++(dec (IntKind.u64.wrap (0-(IntKind.u64.wrap n))).toNat))) (aQ (aJ (ae ⟨.inr V,_,V,[45]++(dec (IntKind.u64.wrap (0-(IntKind.u64.wrap n))).toNat),_,(O),(HS.forget A),V,((tx1 hn).1 X)⟩))))
 try simp only[BS]at c1
 refine aJ (cx (ab (zm (iI n) (ao (v:=(.int .u64 (IntKind.u64.wrap n))) (ap_cv V V V V) V V (zc (digits_c ex (IntKind.u64.wrap n) (HS.call hs) (by(simp only[lV];omega))) ?_)))));rintro _ H3 ⟨r3,Z,U,E,rfl,rfl⟩;replace E:HS _ _ _ [] _:=HS.back hs V E;refine za (tX (dec (IntKind.u64.wrap n).toNat)) (aQ (aJ (ae ⟨.inr V,_,V,dec (IntKind.u64.wrap n).toNat,_,(U),(HS.forget E),V,((tx1 hn).2 X)⟩)))
def sgn:Option Nat->Option Int
 |some 0=>none
 |some n=>some (-(n:Int))
 |none=>none
theorem fmt_c_aux: ∀(fuel:Nat) (n:Int) {F:Fz} {H:Heap} {R:List Fp} (hs:HS (.of H []) F H [] R) (hn:0<=n/\n<18446744073709551616),n.toNat<fuel->kKt ex 57 [(.int .u64 n)] H fun v H'=> ∃(r:List UInt8) (F':Fz),Fz.le F F'/\HS (.of H []) F' H' [] R/\v=tX r/\r=dec n.toNat:=by
 intro fuel;induction fuel with
 |zero=>intros;omega
 |succ fuel ih=>
 intro n F H R hs hn a3;obtain⟨A,rfl⟩:=a0K hn.1;refine av Tryz.func57 V V (cx (ab (za (tX []) (aQ (aJ (cx (cx (ab (zm (.int .u64 (A:Int)) (ao (v:=(.bool (decide ((A:Int)<10)))) (ew V V V V) V V (aQ (aJ (hR (v:=(decide ((A:Int)<10))) V V (fun c1=>?_) (fun c1=>?_))))))))))))))
 ·try simp only[BS]at c1
  refine cx (ab (zm (.int .u64 (A:Int)) (ao (v:=(.int .u64 (48+(A:Int)))) (ja V V (mQ (n:=48+(A:Int)) M)) V V (ao (v:=(.int .u8 (48+(A:Int)))) (ap_cv V V V (w_u8 (n:=48+(A:Int)) M)) V V (bc (fU (α:=UInt8) (ps:=[(0,(.int .u8 (48+(A:Int))))]) (cells:=[(.int .u8 (48+(A:Int)))]) ([(UInt8.ofNat (48+A))]:List UInt8) hs V V V (by kernel_rfl) ⟨[(.int .u8 (48+(A:Int)))],[],V,(u8r (n:=48+A) M),V⟩ V) V V ?_)))));rintro _ H3 p2 ⟨a2,k2,rfl,an,(U:HS _ _ _ [p2] _),_⟩;refine ao (v:=(tX ([(UInt8.ofNat (48+A))]:List UInt8))) (jR V V V V (OS.sv an U (i:=0) V)) V V (za (tX ([(UInt8.ofNat (48+A))]:List UInt8)) (aQ (aJ (ae ⟨.inr V,_,V,([(UInt8.ofNat (48+A))]:List UInt8),_,fR,(HS.forget U),V,(by show [UInt8.ofNat (48+A)]=dec A;rw[i0 M];rfl)⟩))))
 try simp only[BS]at c1
 refine aJ (cx (aq V (zfm (.int .u64 (A:Int)) (wfv (v:=(.int .u64 ((A/10:Nat):Int))) (ap_div V V e_ (mQ (n:=((A/10:Nat):Int)) M)) (aK (W:=[]) (aH V V V) V V V (ih ((A/10:Nat):Int) (HS.call hs.log0) M M) (kb V) ?_)))));rintro _ H4 ⟨r4,F4,al,E,rfl,rfl⟩;refine⟨Wr.did E.log,fun ax a_=>?_⟩;replace E:=HS.back hs.log0 V E;replace E:=HS.lg E hs a_;generalize ({H4 with log:=ax}:Heap)=a6 at E⊢;have E:HS _ _ _ [] _:=E;refine zfm (.int .u64 (A:Int)) (wfv (v:=(.int .u64 ((A%10:Nat):Int))) (mI V V e_ V) (wfv (v:=(.int .u64 (48+((A%10:Nat):Int)))) (ja V V (mQ (n:=48+((A%10:Nat):Int)) M)) (aM (v:=(.int .u8 (48+((A%10:Nat):Int)))) (id:= .x []) (ap_cv V V V (w_u8 (n:=48+((A%10:Nat):Int)) M)) V V (cQ (W:=[]) V V fun b hb=>absurd hb a0a) (⟨.inl V,⟨.inl V,⟨.inl V,⟨.inr ⟨trivial,trivial⟩,⟨.inr trivial,⟨.inr trivial,trivial⟩⟩⟩⟩⟩⟩) (iL (id:= .a) (fU (α:=UInt8) (ps:=[(0,(.int .u8 (48+((A%10:Nat):Int))))]) (cells:=[(.int .u8 (48+((A%10:Nat):Int)))]) ([(UInt8.ofNat (48+(A%10)))]:List UInt8) E.log0 V V V (by kernel_rfl) ⟨[(.int .u8 (48+((A%10:Nat):Int)))],[],V,(u8r (n:=48+(A%10)) M),V⟩ V) V V (fun _ _ _ _=>did_a V V V) (kb V) ?_))));rintro _ H6 p5 ⟨a5,k5,rfl,ar,O,_⟩ aA Z;replace O:=HS.lg O E Z;generalize ({H6 with log:=aA}:Heap)=a7 at O⊢;have O:HS _ _ _ [p5] _:=O;refine aM (v:=(tX ([(UInt8.ofNat (48+(A%10)))]:List UInt8))) (id:= .x []) (jR V V V V (OS.sv ar O.log0 (i:=0) V)) V V (cQ (W:=[]) V V fun b hb=>absurd hb a0a) (⟨.inl V,⟨.inl V,⟨.inl V,⟨.inl V,⟨.inl V,⟨.inr ⟨trivial,trivial⟩,⟨.inr trivial,⟨.inr trivial,trivial⟩⟩⟩⟩⟩⟩⟩⟩) (wfv (v:=(tX ((dec ((A/10:Nat):Int).toNat)++([(UInt8.ofNat (48+(A%10)))]:List UInt8)))) (jD V V (a0k (Nat.add_le_add (dec_le M) (a08 _)) (by simp))) (fa (tX ((dec ((A/10:Nat):Int).toNat)++([(UInt8.ofNat (48+(A%10)))]:List UInt8))) V V V (gc (aJ (ae ⟨.inr V,_,V,(dec ((A/10:Nat):Int).toNat)++([(UInt8.ofNat (48+(A%10)))]:List UInt8),_,(al),(HS.forget O),V,(by show _=dec A;rw[dec_big (n:=A) M];rfl)⟩)))))
theorem fmt_c(n:Int)(hs:HS (.of H []) F H [] R)(A:0<=n/\n<18446744073709551616):kKt ex 57 [(.int .u64 n)] H fun v H'=> ∃(r:List UInt8) (F':Fz),Fz.le F F'/\HS (.of H []) F' H' [] R/\v=tX r/\r=dec n.toNat:=
 fmt_c_aux ex (n.toNat+1) n hs A (a0x _)
theorem rtext_c(n:Int)(hs:HS (.of H []) F H [] R)(hn:in64 n):kKt ex 27 [(iI n)] H fun v H'=> ∃(r:List UInt8) (F':Fz),Fz.le F F'/\HS (.of H []) F' H' [] R/\v=tX r/\r=cJ n:=by
 refine av Tryz.func27 V V (cx (ab (za (tX []) (aQ (aJ (cx (cx (ab (zm (iI n) (ao (v:=(.bool (decide (n<0)))) (ew V V V V) V V (aQ (aJ (hR (v:=(decide (n<0))) V V (fun c1=>?_) (fun c1=>?_))))))))))))))
 ·try simp only[BS]at c1
  refine cx (ab (zm (iI n) (ao (v:=(iI (n+1))) (ja V V (lK (n:=n+1) M)) V V (ao (v:=(iI (0-(n+1)))) (ap_ng V (lK M)) V V (ao (v:=(.int .u64 (0-(n+1)))) (ap_cv V V V (mQ (n:=0-(n+1)) M)) V V (ao (v:=(.int .u64 ((0-(n+1))+1))) (ja V V (mQ (n:=(0-(n+1))+1) M)) V V (zc (fmt_c ex ((0-(n+1))+1) (HS.call hs) M) ?_)))))));rintro _ H2 ⟨r2,a_,O,A,rfl,rfl⟩;replace A:HS _ _ _ [] _:=HS.back hs V A;refine ao (v:=(tX ([45]++(dec ((0-(n+1))+1).toNat)))) (jD V V (tx0 (dec_le M))) V V (za (tX ([45]++(dec ((0-(n+1))+1).toNat))) (aQ (aJ (ae ⟨.inr V,_,V,[45]++(dec ((0-(n+1))+1).toNat),_,(O),(HS.forget A),V,(by rw[cJ,if_pos M,show(0-(n+1)+1).toNat=n.natAbs by omega];rfl)⟩))))
 try simp only[BS]at c1
 refine aJ (cx (ab (zm (iI n) (ao (v:=(.int .u64 n)) (ap_cv V V V (mQ (n:=n) M)) V V (zc (fmt_c ex n (HS.call hs) M) ?_)))));rintro _ H3 ⟨r3,Z,U,E,rfl,rfl⟩;replace E:HS _ _ _ [] _:=HS.back hs V E;refine za (tX (dec n.toNat)) (aQ (aJ (ae ⟨.inr V,_,V,dec n.toNat,_,(U),(HS.forget E),V,(by rw[cJ,if_neg M])⟩)))
end Go.Proofs.YtkpgbdkkgcdhmaaGreat.w3
