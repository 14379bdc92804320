/-
Texts of words: writing and reading them, program and reference. No condition but that numbers are words.
-/
import Derived.Test.YtapgbjedgcpffaaZLL1
import Derived.Test.YtapgbjedgcpffaaZLW1
noncomputable section
namespace Go.Proofs.Ytapgbjedgcpffaa.w3
open Go.R
set_option maxRecDepth 10000
set_option linter.unusedVariables false
set_option linter.unusedSimpArgs false
variable (ex:FuncId) {F:Fz} {H:Heap} {R:List Fp}
open w1
theorem pow_le{i k:Nat}(h:i<=k):10^i<=10^k:=Nat.pow_le_pow_right (by decide) h
theorem gU{t:List UInt8}:okNum t=true↔1<=t.length/\t.length<=19/\t.all fD=true/\(t.getD 0 0=48->t.length=1):=by
 unfold okNum;have e:t.headD 0=t.getD 0 0:=by cases t<;>rfl
 rw[e];simp only[a05,a0G,decide_eq_true_eq,bne_iff_ne,ne_eq,beq_iff_eq,and_assoc];constructor
 ·rintro⟨O,T,U,E⟩;exact⟨O,T,U,fun h=>by rcases E with E|E;exact absurd h E;exact E⟩
 rintro⟨O,T,U,E⟩;exact⟨O,T,U,by by_cases h:t.getD 0 0=48;exact .inr (E h);exact .inl h⟩
theorem dig_iff{c:UInt8}:fD c=true↔48<=c.toNat/\c.toNat<=57:=by simp[fD]
theorem u8eq{c:UInt8}{n:Nat}(h:n<256):(c.toNat:Int)=(n:Int)↔c=UInt8.ofNat n:=by
 constructor
 ·intro E;apply UInt8.toNat_inj.1;rw[UInt8.toNat_ofNat'];omega
 rintro rfl;rw[UInt8.toNat_ofNat'];omega
theorem tx0{l:List UInt8}(h:l.length<=20):([45]:List UInt8).length+l.length<=1099511627776:=by simp;omega
theorem dec_le{n:Int}(h:0<=n/\n<18446744073709551616):(dec n.toNat).length<=20:=dec_len 19 _ (by omega)
theorem c48{c:UInt8}:(c.toNat:Int)=48↔c=48:=u8eq (n:=48) (by decide)
def sgn:Option Nat->Option Int
 |some 0=>none
 |some n=>some (-(n:Int))
 |none=>none
theorem ps_len{t:List UInt8}{m:Nat}(h:t.length<1\/19<t.length):iB t m=none:=by unfold iB;rw[if_neg];rintro⟨E,_⟩;obtain⟨O,T,_⟩:=gU.1 E;omega
theorem ps_zero{t:List UInt8}{m:Nat}(h:t.getD 0 0=48):iB t m=if t.length=1 then some 0 else none:=by
 unfold iB;split
 ·rename_i E;obtain⟨O,U,Y,T⟩:=gU.1 E.1;rw[if_pos (T h)];match t,T h with
  | [a],_=>
   have:a=48:=h
   subst this;rfl
 rename_i E;split
 ·rename_i O;exfalso;apply E;match t,O with
  | [a],_=>
   have:a=48:=h
   subst this;exact⟨by decide,by show 0<=m;omega⟩
 rfl
theorem ps_bad{t:List UInt8}{i m:Nat}(hi:i<t.length)(h:((t.getD i 0).toNat:Int)<48\/57<((t.getD i 0).toNat:Int)):iB t m=none:=by unfold iB;rw[if_neg];rintro⟨E,_⟩;obtain⟨_,_,O,_⟩:=gU.1 E;have:=dig_iff.1 (a0t.1 O (t.getD i 0) (a0p (bx hi)));omega
theorem ps_ok{t:List UInt8}{m:Nat}(E:1<=t.length)(O:t.length<=19)(T:t.all fD=true)(U:t.getD 0 0=48->t.length=1):iB t m=if val t<=m then some (val t) else none:=by unfold iB;have:okNum t=true:=gU.2 ⟨E,O,T,U⟩;simp only[this,true_and]
theorem fin_len{t:List UInt8}{i m:Nat}(T:i<=t.length)(c: ¬(i:Int)<(t.length:Int))(E:m=val (t.take i))(O:(t.take i).all fD=true):m=val t/\t.all fD=true:=by have:t.take i=t:=a0B (by omega);rw[this]at E O;exact⟨E,O⟩
theorem num_bad{s:List UInt8}{i m:Nat}(hi:(i:Int)<(s.length:Int))(c:((((s.getD i 0).toNat:Int)<48\/57<((s.getD i 0).toNat:Int))\/(i:Int)=1/\((s.getD 0 0).toNat:Int)=48)\/18<(i:Int)):iB s m=none:=by
 rcases c with(c|⟨c,c'⟩)|c
 ·exact ps_bad (i:=i) (by omega) c
 ·rw[ps_zero (c48.1 c'),if_neg (by omega)]
 exact ps_len (by omega)
theorem kT{s:List UInt8}{i m most:Nat}(T:i<=s.length)(ci: ¬(i:Int)<(s.length:Int))(U:m=val (s.take i))(Y:(s.take i).all fD=true)(h4:i<=19)(Z:2<=i->((s.getD 0 0).toNat:Int)≠48)(hs:s≠ []):iB s most=if m<=most then some m else none:=by
 obtain⟨E,O⟩:=fin_len T ci U Y;have hl:1<=s.length:=by
  cases s with
  |nil=>exact absurd rfl hs
  |cons a l=>simp
 rw[ps_ok hl (by omega) O (fun e=>by
  rcases a0k i 2 with h|h
  ·omega
  exact absurd (c48.2 e) (Z h)),←E]
theorem kS{most:Nat}:iB [] most=none:=by unfold iB;rw[if_neg];rintro⟨h,_⟩;cases h
theorem fmt_c_aux: ∀(fuel:Nat) (n:Int) {F:Fz} {H:Heap} {R:List Fp} (hs:HS (.of H []) F H [] R) (h:0<=n/\n<18446744073709551616),n.toNat<fuel->kKt ex 43 [(.int .u64 n)] H fun v H'=> ∃(r:List UInt8) (F':Fz),Fz.le F F'/\HS (.of H []) F' H' [] R/\v= .string ⟨⟨r⟩⟩/\r=dec n.toNat:=by
 intro fuel;induction fuel with
 |zero=>intros;omega
 |succ fuel ih=>
 intro n F H R hs h ar;obtain⟨E,rfl⟩:=a0N h.1;refine aU Try.func43 rfl rfl (cC (ah (za (.string ⟨⟨[]⟩⟩) (aL (aW ?_)))));refine cC (cC (ah (zm (.int .u64 (E:Int)) (ab (v:=(.bool (decide ((E:Int)<10)))) (bA rfl rfl rfl rfl) rfl rfl (aL ?_)))));refine aW (fh (v:=(decide ((E:Int)<10))) rfl rfl (fun c1=>?_) (fun c1=>?_))
 ·try simp only[BS]at c1
  refine cC (ah (zm (.int .u64 (E:Int)) (ab (v:=(.int .u64 (48+(E:Int)))) (iP rfl rfl (jU (n:=48+(E:Int)) (by omega))) rfl rfl (ab (v:=(.int .u8 (48+(E:Int)))) (ap_cv rfl rfl rfl (w_u8 (n:=48+(E:Int)) (by omega))) rfl rfl (bg (bz (α:=UInt8) (ps:=[(0,(.int .u8 (48+(E:Int))))]) (cells:=[(.int .u8 (48+(E:Int)))]) ([(UInt8.ofNat (48+E))]:List UInt8) hs rfl rfl rfl (by kernel_rfl) ⟨[(.int .u8 (48+(E:Int)))],[],rfl,(u8r (n:=48+E) (by omega)),rfl⟩ rfl) rfl rfl ?_)))));rintro _ H3 p2 ⟨a2,k2,rfl,an,(U:HS _ _ _ [p2] _),_⟩;refine ab (v:=(.string ⟨⟨([(UInt8.ofNat (48+E))]:List UInt8)⟩⟩)) (ap_cvB rfl rfl rfl rfl (OS.sv an U (i:=0) rfl)) rfl rfl (za (.string ⟨⟨([(UInt8.ofNat (48+E))]:List UInt8)⟩⟩) (aL (aW (av ⟨.inr rfl,_,rfl,([(UInt8.ofNat (48+E))]:List UInt8),_,fR,(HS.forget U),rfl,(by show [UInt8.ofNat (48+E)]=dec E;rw[jK (by omega)];rfl)⟩))))
 try simp only[BS]at c1
 refine aW (cC (bd rfl (zfm (.int .u64 (E:Int)) (wfv (v:=(.int .u64 ((E/10:Nat):Int))) (ap_div rfl rfl (by decide) (jU (n:=((E/10:Nat):Int)) (by omega))) (bo (W:=[]) (aw rfl rfl rfl) rfl rfl rfl (ih ((E/10:Nat):Int) (HS.call hs.log0) (by omega) (by omega)) (kb rfl) ?_)))));rintro _ H4 ⟨r4,F4,al,O,rfl,rfl⟩;refine⟨Wr.did O.log,fun a0 Y=>?_⟩;replace O:=HS.back hs.log0 rfl O;replace O:=HS.lg O hs Y;generalize ({H4 with log:=a0}:Heap)=a8 at O⊢;have O:HS _ _ _ [] _:=O;refine zfm (.int .u64 (E:Int)) (wfv (v:=(.int .u64 ((E%10:Nat):Int))) (jP rfl rfl (by decide) rfl) (wfv (v:=(.int .u64 (48+((E%10:Nat):Int)))) (iP rfl rfl (jU (n:=48+((E%10:Nat):Int)) (by omega))) (ai (v:=(.int .u8 (48+((E%10:Nat):Int)))) (id:= .x []) (ap_cv rfl rfl rfl (w_u8 (n:=48+((E%10:Nat):Int)) (by omega))) rfl rfl (eb (W:=[]) rfl rfl fun b hb=>absurd hb a0f) (⟨.inl rfl,⟨.inl rfl,⟨.inl rfl,⟨.inr ⟨trivial,trivial⟩,⟨.inr trivial,⟨.inr trivial,trivial⟩⟩⟩⟩⟩⟩) (eu (id:= .a) (bz (α:=UInt8) (ps:=[(0,(.int .u8 (48+((E%10:Nat):Int))))]) (cells:=[(.int .u8 (48+((E%10:Nat):Int)))]) ([(UInt8.ofNat (48+(E%10)))]:List UInt8) O.log0 rfl rfl rfl (by kernel_rfl) ⟨[(.int .u8 (48+((E%10:Nat):Int)))],[],rfl,(u8r (n:=48+(E%10)) (by omega)),rfl⟩ rfl) rfl rfl (fun _ _ _ _=>did_a rfl rfl rfl) (kb rfl) ?_))));rintro _ H6 p5 ⟨a5,k5,rfl,ax,T,_⟩ a1 Z;replace T:=HS.lg T O Z;generalize ({H6 with log:=a1}:Heap)=a9 at T⊢;have T:HS _ _ _ [p5] _:=T;refine ai (v:=(.string ⟨⟨([(UInt8.ofNat (48+(E%10)))]:List UInt8)⟩⟩)) (id:= .x []) (ap_cvB rfl rfl rfl rfl (OS.sv ax T.log0 (i:=0) rfl)) rfl rfl (eb (W:=[]) rfl rfl fun b hb=>absurd hb a0f) (⟨.inl rfl,⟨.inl rfl,⟨.inl rfl,⟨.inl rfl,⟨.inl rfl,⟨.inr ⟨trivial,trivial⟩,⟨.inr trivial,⟨.inr trivial,trivial⟩⟩⟩⟩⟩⟩⟩⟩) (wfv (v:=(.string ⟨⟨(dec ((E/10:Nat):Int).toNat)++([(UInt8.ofNat (48+(E%10)))]:List UInt8)⟩⟩)) (aX rfl rfl (a0e (Nat.add_le_add (dec_le (by omega)) (a07 _)) (by simp))) (fa (.string ⟨⟨(dec ((E/10:Nat):Int).toNat)++([(UInt8.ofNat (48+(E%10)))]:List UInt8)⟩⟩) rfl rfl rfl (bW (aW (av ⟨.inr rfl,_,rfl,(dec ((E/10:Nat):Int).toNat)++([(UInt8.ofNat (48+(E%10)))]:List UInt8),_,(al),(HS.forget T),rfl,(by show _=dec E;rw[dec_big (n:=E) (by omega)];rfl)⟩)))))
theorem fmt_c(n:Int)(hs:HS (.of H []) F H [] R)(h:0<=n/\n<18446744073709551616):kKt ex 43 [(.int .u64 n)] H fun v H'=> ∃(r:List UInt8) (F':Fz),Fz.le F F'/\HS (.of H []) F' H' [] R/\v= .string ⟨⟨r⟩⟩/\r=dec n.toNat:=
 fmt_c_aux ex (n.toNat+1) n hs h (a0H _)
theorem rtext_c(n:Int)(hs:HS (.of H []) F H [] R)(h:in64 n):kKt ex 19 [(iI n)] H fun v H'=> ∃(r:List UInt8) (F':Fz),Fz.le F F'/\HS (.of H []) F' H' [] R/\v= .string ⟨⟨r⟩⟩/\r=ev n:=by
 refine aU Try.func19 rfl rfl (cC (ah (za (.string ⟨⟨[]⟩⟩) (aL (aW ?_)))));refine cC (cC (ah (zm (iI n) (ab (v:=(.bool (decide (n<0)))) (bA rfl rfl rfl rfl) rfl rfl (aL ?_)))));refine aW (fh (v:=(decide (n<0))) rfl rfl (fun c1=>?_) (fun c1=>?_))
 ·try simp only[BS]at c1
  refine cC (ah (zm (iI n) (ab (v:=(iI (n+1))) (iP rfl rfl (w_i64 (n:=n+1) (by omega))) rfl rfl (ab (v:=(iI (0-(n+1)))) (ap_ng rfl (w_i64 (by omega))) rfl rfl (ab (v:=(.int .u64 (0-(n+1)))) (ap_cv rfl rfl rfl (jU (n:=0-(n+1)) (by omega))) rfl rfl ?_)))));refine ab (v:=(.int .u64 ((0-(n+1))+1))) (iP rfl rfl (jU (n:=(0-(n+1))+1) (by omega))) rfl rfl (zc (fmt_c ex ((0-(n+1))+1) (HS.call hs) (by omega)) ?_);rintro _ H2 ⟨r2,Y,T,E,rfl,rfl⟩;replace E:HS _ _ _ [] _:=HS.back hs rfl E;refine ab (v:=(.string ⟨⟨[45]++(dec ((0-(n+1))+1).toNat)⟩⟩)) (aX rfl rfl (tx0 (dec_le (by omega)))) rfl rfl (za (.string ⟨⟨[45]++(dec ((0-(n+1))+1).toNat)⟩⟩) (aL (aW (av ⟨.inr rfl,_,rfl,[45]++(dec ((0-(n+1))+1).toNat),_,(T),(HS.forget E),rfl,(by rw[ev,if_pos (by omega),show(0-(n+1)+1).toNat=n.natAbs by omega];rfl)⟩))))
 try simp only[BS]at c1
 refine aW (cC (ah (zm (iI n) (ab (v:=(.int .u64 n)) (ap_cv rfl rfl rfl (jU (n:=n) (by omega))) rfl rfl (zc (fmt_c ex n (HS.call hs) (by omega)) ?_)))));rintro _ H3 ⟨r3,Z,U,O,rfl,rfl⟩;replace O:HS _ _ _ [] _:=HS.back hs rfl O;refine za (.string ⟨⟨dec n.toNat⟩⟩) (aL (aW (av ⟨.inr rfl,_,rfl,dec n.toNat,_,(U),(HS.forget O),rfl,(by rw[ev,if_neg (by omega)])⟩)))
theorem number_c(s:List UInt8)(most:Nat)(H:Heap)(b7:most<18446744073709551616):kKt ex 26 [(.string ⟨⟨s⟩⟩),(.int .u64 (most:Int))] H fun v H'=> ∃(r:Int) (ok:Bool),H'=H/\v= .tuple ⟨[.int .u64 r,.bool ok]⟩/\r=(((iB s most).getD 0:Nat):Int)/\ok=(iB s most).isSome:=by
 refine aU Try.func26 rfl rfl (cC (ah (za (.int .u64 0) (za (.bool false) (aL ?_)))));refine aW (cC (ah (za (.int .u64 0) (aL (aW ?_)))));refine cC (cC (ah (za (iI 0) (aL (aW ?_)))));refine kE (aH (fun(mm:Nat) f H'=> ∃(i:Nat) (m:Nat),H'=H/\bf f [(0,(.string ⟨⟨s⟩⟩)),(1,(.int .u64 (most:Int))),(6,(.int .u64 (m:Int))),(7,(iI (i:Int)))]/\mm=s.length-i/\(i<=s.length)/\(m=val (s.take i))/\((s.take i).all fD=true)/\(m<10^i)/\(2<=i->((s.getD 0 0).toNat:Int)≠48)/\(i<=19)) _ ⟨0,0,rfl,⟨rfl,rfl,rfl,rfl,trivial⟩,rfl,(by omega),(by rfl),(by rfl),(by decide),(by intro hh;first|omega|(rcases a0k i 2 with h|h;exact pc.1.2 (by omega);exact h5 h)),(by omega)⟩ ?_);rintro b4 f1 H ⟨i,m,rfl,a8,rfl,h1,h2,h3,h4,h5,h6⟩ a9;refine aS _ a8 (fun _=>?_);clear a8;refine cC (cC (ah (zm (iI (i:Int)) (zm (.string ⟨⟨s⟩⟩) (ab (v:=(iI (s.length:Int))) (ap_lenS rfl rfl) rfl rfl ?_)))));refine ab (v:=(.bool (decide ((i:Int)<(s.length:Int))))) (bA rfl rfl rfl rfl) rfl rfl (aL (aW (fh (v:=(decide ((i:Int)<(s.length:Int)))) rfl rfl (fun c2=>?_) (fun c2=>?_))))
 ·try simp only[BS]at c2
  have pi:=c2;refine aW (cC (kE (cC (cC (bO 14 36 [] [(36,(.bool ((((decide (((s.getD i 0).toNat:Int)<48))||(decide ((57:Int)<((s.getD i 0).toNat:Int))))||(((i:Int)==1)&&(((s.getD 0 0).toNat:Int)==48)))||(decide ((18:Int)<(i:Int))))))] (fun H'=>H'=H) ?_ ?_)))))
  ·refine ah (zm (.string ⟨⟨s⟩⟩) (zm (iI (i:Int)) ?_));have b0:=eG (s.getD i 0);refine ab (v:=(.int .u8 ((s.getD i 0).toNat:Int))) (jQ (j:=(i:Int)) rfl rfl rfl (by omega) (bx (by omega))) rfl rfl (ab (v:=(.bool (decide (((s.getD i 0).toNat:Int)<48)))) (bA rfl rfl rfl rfl) rfl rfl (zm (.bool (decide (((s.getD i 0).toNat:Int)<48))) (cR (v:=(decide (((s.getD i 0).toNat:Int)<48))) rfl rfl (fun T=>?_) (fun T=>?_))))
   ·have a3:=T;try simp only[BS]at a3
    refine zm (.string ⟨⟨s⟩⟩) (aI rfl T (zm (iI (i:Int)) (aI rfl T ?_)));have b1:=eG (s.getD i 0);refine ab (v:=(.int .u8 ((s.getD i 0).toNat:Int))) (jQ (j:=(i:Int)) rfl rfl rfl (by omega) (bx (by omega))) rfl rfl (aI rfl T (ab (v:=(.bool (decide ((57:Int)<((s.getD i 0).toNat:Int))))) (bA rfl rfl rfl rfl) rfl rfl (ab (v:=(.bool (decide ((57:Int)<((s.getD i 0).toNat:Int))))) (ak rfl T rfl) rfl rfl (zm (.bool (decide ((57:Int)<((s.getD i 0).toNat:Int)))) (cR (v:=(decide ((57:Int)<((s.getD i 0).toNat:Int)))) rfl rfl (fun O=>?_) (fun O=>?_))))))
    ·have a4:=O;try simp only[BS]at a4
     refine zm (iI (i:Int)) (aI rfl O (ab (v:=(.bool ((i:Int)==1))) (bA rfl rfl rfl rfl) rfl rfl (aI rfl O (zm (.bool ((i:Int)==1)) (bp (v:=((i:Int)==1)) rfl rfl (fun Y=>?_) (fun Y=>?_))))))
     ·have a5:=Y;try simp only[BS]at a5
      refine zm (.string ⟨⟨s⟩⟩) (aI rfl Y ?_);have b2:=eG (s.getD 0 0);refine ab (v:=(.int .u8 ((s.getD 0 0).toNat:Int))) (jQ (j:=0) rfl rfl rfl (by decide) (bx (by omega))) rfl rfl (aI rfl Y (ab (v:=(.bool (((s.getD 0 0).toNat:Int)==48))) (bA rfl rfl rfl rfl) rfl rfl (aI rfl O (ab (v:=(.bool (((s.getD 0 0).toNat:Int)==48))) (ay rfl Y rfl) rfl rfl (ab (v:=(.bool (((s.getD 0 0).toNat:Int)==48))) (ak rfl O rfl) rfl rfl ?_)))));refine zm (.bool (((s.getD 0 0).toNat:Int)==48)) (cR (v:=(((s.getD 0 0).toNat:Int)==48)) rfl rfl (fun U=>?_) (fun U=>?_))
      ·have an:=U;try simp only[BS]at an
       refine zm (iI (i:Int)) (aI rfl U (ab (v:=(.bool (decide ((18:Int)<(i:Int))))) (bA rfl rfl rfl rfl) rfl rfl (ab (v:=(.bool (decide ((18:Int)<(i:Int))))) (ak rfl U rfl) rfl rfl (aL ?_))));exact aj ⟨rfl,rfl,(by repeat' first|exact Lr|refine Lu rfl ?_),(agC (congrArg Value.bool (show(decide ((18:Int)<(i:Int)))=((((decide (((s.getD i 0).toNat:Int)<48))||(decide ((57:Int)<((s.getD i 0).toNat:Int))))||(((i:Int)==1)&&(((s.getD 0 0).toNat:Int)==48)))||(decide ((18:Int)<(i:Int)))) by simp only[↓T,↓O,↓Y,↓U,BT])) agN)⟩
      have an:=U;try simp only[BS]at an
      refine aB rfl U rfl (ab (v:=(.bool true)) (ay rfl U rfl) rfl rfl (aL ?_));exact aj ⟨rfl,rfl,(by repeat' first|exact Lr|refine Lu rfl ?_),(agC (congrArg Value.bool (show true=((((decide (((s.getD i 0).toNat:Int)<48))||(decide ((57:Int)<((s.getD i 0).toNat:Int))))||(((i:Int)==1)&&(((s.getD 0 0).toNat:Int)==48)))||(decide ((18:Int)<(i:Int)))) by simp only[↓T,↓O,↓Y,↓U,BT])) agN)⟩
     have a5:=Y;try simp only[BS]at a5
     refine ag rfl Y rfl (ag rfl Y rfl (aI rfl O (ab (v:=(.bool false)) (ak rfl Y rfl) rfl rfl (ab (v:=(.bool false)) (ak rfl O rfl) rfl rfl (zm (.bool false) ?_)))));refine aI rfl rfl (zm (iI (i:Int)) (aI rfl rfl (ab (v:=(.bool (decide ((18:Int)<(i:Int))))) (bA rfl rfl rfl rfl) rfl rfl (ab (v:=(.bool (decide ((18:Int)<(i:Int))))) (ak rfl rfl rfl) rfl rfl (aL ?_)))));exact aj ⟨rfl,rfl,(by repeat' first|exact Lr|refine Lu rfl ?_),(agC (congrArg Value.bool (show(decide ((18:Int)<(i:Int)))=((((decide (((s.getD i 0).toNat:Int)<48))||(decide ((57:Int)<((s.getD i 0).toNat:Int))))||(((i:Int)==1)&&(((s.getD 0 0).toNat:Int)==48)))||(decide ((18:Int)<(i:Int)))) by simp only[↓T,↓O,↓Y,BT])) agN)⟩
    have a4:=O;try simp only[BS]at a4
    refine aB rfl O rfl (aB rfl O rfl (iT rfl rfl (iT rfl rfl (iT rfl rfl (aB rfl O rfl ?_)))));refine ab (v:=(.bool true)) (ay rfl O rfl) rfl rfl (zm (.bool true) (aB rfl rfl rfl (aB rfl rfl rfl (ab (v:=(.bool true)) (ay rfl rfl rfl) rfl rfl (aL ?_)))));exact aj ⟨rfl,rfl,(by repeat' first|exact Lr|refine Lu rfl ?_),(agC (congrArg Value.bool (show true=((((decide (((s.getD i 0).toNat:Int)<48))||(decide ((57:Int)<((s.getD i 0).toNat:Int))))||(((i:Int)==1)&&(((s.getD 0 0).toNat:Int)==48)))||(decide ((18:Int)<(i:Int)))) by simp only[↓T,↓O,BT])) agN)⟩
   have a3:=T;try simp only[BS]at a3
   refine aB rfl T rfl (aB rfl T rfl (aB rfl T rfl (ab (v:=(.bool true)) (ay rfl T rfl) rfl rfl (zm (.bool true) (aB rfl rfl rfl ?_)))));refine aB rfl rfl rfl (aB rfl rfl rfl (iT rfl rfl (iT rfl rfl (iT rfl rfl (aB rfl rfl rfl ?_)))));refine ab (v:=(.bool true)) (ay rfl rfl rfl) rfl rfl (zm (.bool true) (aB rfl rfl rfl (aB rfl rfl rfl (ab (v:=(.bool true)) (ay rfl rfl rfl) rfl rfl (aL ?_)))));exact aj ⟨rfl,rfl,(by repeat' first|exact Lr|refine Lu rfl ?_),(agC (congrArg Value.bool (show true=((((decide (((s.getD i 0).toNat:Int)<48))||(decide ((57:Int)<((s.getD i 0).toNat:Int))))||(((i:Int)==1)&&(((s.getD 0 0).toNat:Int)==48)))||(decide ((18:Int)<(i:Int)))) by simp only[↓T,BT])) agN)⟩
  skip;rintro g3 H rfl;refine aW (fh (v:=((((decide (((s.getD i 0).toNat:Int)<48))||(decide ((57:Int)<((s.getD i 0).toNat:Int))))||(((i:Int)==1)&&(((s.getD 0 0).toNat:Int)==48)))||(decide ((18:Int)<(i:Int))))) rfl rfl (fun Z=>?_) (fun Z=>?_))
  ·try simp only[BS]at Z
   have pc:=Z;refine cC (ah (za (.int .u64 0) (za (.bool false) (aL (aW ?_)))));refine av ⟨.inr rfl,_,rfl,0,false,rfl,rfl,(by have e:=num_bad (m:=most) pi pc;rw[e];(try rfl)),(by have e:=num_bad (m:=most) pi pc;rw[e];(try rfl))⟩
  try simp only[BS]at Z
  have pc:=Z;have hp:=pow_le (show i<=18 by omega);refine aW (ah (zm (.int .u64 (m:Int)) (ab (v:=(.int .u64 (10 *(m:Int)))) (ap_mul rfl rfl (jU (n:=10 *(m:Int)) (by omega))) rfl rfl (zm (.string ⟨⟨s⟩⟩) (zm (iI (i:Int)) ?_)))));have bb:=eG (s.getD i 0);refine ab (v:=(.int .u8 ((s.getD i 0).toNat:Int))) (jQ (j:=(i:Int)) rfl rfl rfl (by omega) (bx (by omega))) rfl rfl (ab (v:=(.int .u8 (((s.getD i 0).toNat-48:Nat):Int))) (ap_sub rfl rfl (natsub (a:=(s.getD i 0).toNat) (b:=48) (by omega) (w_u8 (by omega)))) rfl rfl (ab (v:=(.int .u64 (((s.getD i 0).toNat-48:Nat):Int))) (ap_cv rfl rfl rfl (jU (n:=(((s.getD i 0).toNat-48:Nat):Int)) (by omega))) rfl rfl (ab (v:=(.int .u64 ((10 *(m:Int))+(((s.getD i 0).toNat-48:Nat):Int)))) (iP rfl rfl (jU (n:=(10 *(m:Int))+(((s.getD i 0).toNat-48:Nat):Int)) (by omega))) rfl rfl (za (.int .u64 ((10 *(m:Int))+(((s.getD i 0).toNat-48:Nat):Int))) (aL ?_)))));refine gO (aW (ah (zm (iI (i:Int)) (ab (v:=(iI ((i:Int)+1))) (iP rfl rfl (w_i64 (n:=(i:Int)+1) (by omega))) rfl rfl (za (iI ((i:Int)+1)) ?_)))));refine aL (aW ?_);refine a9 _ _ _ ?_ ⟨i+1,(10 *m)+((s.getD i 0).toNat-48),rfl,⟨rfl,rfl,rfl,rfl,trivial⟩,rfl,(by omega),(by(rw[val_take (by omega),h2])),(by(rw[hO (by omega),h3,Bool.true_and,dig_iff];omega)),(by(rw[Nat.pow_succ];omega)),(by intro hh;first|omega|(rcases a0k i 2 with h|h;exact pc.1.2 (by omega);exact h5 h)),(by omega)⟩;omega
 try simp only[BS]at c2
 have pi:=c2;refine gf (gf (gP (aW (cC (cC ?_)))));refine bO 45 51 [] [(51,(.bool ((s==[])||(decide ((most:Int)<(m:Int))))))] (fun H'=>H'=H) ?_ ?_
 ·refine ah (zm (.string ⟨⟨s⟩⟩) (ab (v:=(.bool (s==[]))) (iO rfl rfl) rfl rfl (zm (.bool (s==[])) (cR (v:=(s==[])) rfl rfl (fun E=>?_) (fun E=>?_)))))
  ·have ax:=E;try simp only[BS]at ax
   refine zm (.int .u64 (m:Int)) (aI rfl E (zm (.int .u64 (most:Int)) (aI rfl E (ab (v:=(.bool (decide ((most:Int)<(m:Int))))) (bA rfl rfl rfl rfl) rfl rfl (ab (v:=(.bool (decide ((most:Int)<(m:Int))))) (ak rfl E rfl) rfl rfl ?_)))));refine aL ?_;exact aj ⟨rfl,rfl,(by repeat' first|exact Lr|refine Lu rfl ?_),(agC (congrArg Value.bool (show(decide ((most:Int)<(m:Int)))=((s==[])||(decide ((most:Int)<(m:Int)))) by simp only[↓E,BT])) agN)⟩
  have ax:=E;try simp only[BS]at ax
  refine aB rfl E rfl (aB rfl E rfl (ab (v:=(.bool true)) (ay rfl E rfl) rfl rfl (aL ?_)));exact aj ⟨rfl,rfl,(by repeat' first|exact Lr|refine Lu rfl ?_),(agC (congrArg Value.bool (show true=((s==[])||(decide ((most:Int)<(m:Int)))) by simp only[↓E,BT])) agN)⟩
 skip;rintro b3 H rfl;refine aW (fh (v:=((s==[])||(decide ((most:Int)<(m:Int))))) rfl rfl (fun al=>?_) (fun al=>?_))
 ·try simp only[BS]at al
  have pm:=al;refine cC (ah (za (.int .u64 0) (za (.bool false) (aL (aW ?_)))));refine av ⟨.inr rfl,_,rfl,0,false,rfl,rfl,(by rcases pm with pm|pm;(subst pm;rw[kS];rfl);(by_cases hs:s=[];(subst hs;rw[kS];rfl));have e:=kT (most:=most) h1 pi h2 h3 h6 h5 hs;rw[e];(try rfl);split<;>first|rfl|(exfalso;omega)),(by rcases pm with pm|pm;(subst pm;rw[kS];rfl);(by_cases hs:s=[];(subst hs;rw[kS];rfl));have e:=kT (most:=most) h1 pi h2 h3 h6 h5 hs;rw[e];(try rfl);split<;>first|rfl|(exfalso;omega))⟩
 try simp only[BS]at al
 have pm:=al;refine aW (cC (ah (zm (.int .u64 (m:Int)) (za (.int .u64 (m:Int)) (za (.bool true) ?_)))));refine aL (aW (av ⟨.inr rfl,_,rfl,(m:Int),true,rfl,rfl,(by have e:=kT (most:=most) h1 pi h2 h3 h6 h5 pm.1;rw[e];(try rfl);split<;>first|rfl|(exfalso;omega)),(by have e:=kT (most:=most) h1 pi h2 h3 h6 h5 pm.1;rw[e];(try rfl);split<;>first|rfl|(exfalso;omega))⟩))
theorem number_c_q(s:List UInt8)(most:Nat)(H:Heap)(h:most<18446744073709551616):kKt ex 26 [(.string ⟨⟨s⟩⟩),(.int .u64 (most:Int))] H fun v H'=>v= .tuple ⟨[.int .u64 (((iB s most).getD 0:Nat):Int),.bool (iB s most).isSome]⟩/\H'=H:=cq (number_c ex s most H h) (by rintro _ _ ⟨_,_,rfl,rfl,rfl,rfl⟩;exact⟨rfl,rfl⟩)
end Go.Proofs.Ytapgbjedgcpffaa.w3
