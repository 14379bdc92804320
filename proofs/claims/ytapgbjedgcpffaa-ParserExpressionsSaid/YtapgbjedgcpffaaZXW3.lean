/-
Texts of words: writing and reading them, program and reference. No condition but that numbers are words.
-/
import Derived.Test.YtapgbjedgcpffaaZXL1
import Derived.Test.YtapgbjedgcpffaaZXW1
noncomputable section
namespace Go.Proofs.Ytapgbjedgcpffaa.w3
open Go.R
set_option maxRecDepth 10000
set_option linter.unusedVariables false
set_option linter.unusedSimpArgs false
variable (ex:FuncId) {F:Fz} {H:Heap} {R:List Fp}
open w1
theorem pow_le{i k:Nat}(h:i<=k):10^i<=10^k:=Nat.pow_le_pow_right (by decide) h
theorem w_tail{s:List UInt8}:s.tail=s.drop 1:=by cases s<;>rfl
theorem gj{t:List UInt8}:fU t=true↔1<=t.length/\t.length<=19/\t.all eh=true/\(t.getD 0 0=48->t.length=1):=by
 unfold fU;have e:t.headD 0=t.getD 0 0:=by cases t<;>rfl
 rw[e];simp only[a03,a0D,decide_eq_true_eq,bne_iff_ne,ne_eq,beq_iff_eq,and_assoc];constructor
 ·rintro⟨A,E,O,z⟩;exact⟨A,E,O,fun h=>by rcases z with z|z;exact absurd h z;exact z⟩
 rintro⟨A,E,O,z⟩;exact⟨A,E,O,by by_cases h:t.getD 0 0=48;exact .inr (z h);exact .inl h⟩
theorem jd{c:UInt8}:eh c=true↔48<=c.toNat/\c.toNat<=57:=by simp[eh]
theorem u8eq{c:UInt8}{n:Nat}(h:n<256):(c.toNat:Int)=(n:Int)↔c=UInt8.ofNat n:=by
 constructor
 ·intro z;apply UInt8.toNat_inj.1;rw[UInt8.toNat_ofNat'];omega
 rintro rfl;rw[UInt8.toNat_ofNat'];omega
theorem head_getD{t:List UInt8}:t.headD 0=t.getD 0 0:=by cases t<;>rfl
theorem c48{c:UInt8}:(c.toNat:Int)=48↔c=48:=u8eq (n:=48) (by decide)
theorem c45{c:UInt8}:(c.toNat:Int)=45↔c=45:=u8eq (n:=45) (by decide)
def sgn:Option Nat->Option Int
 |some 0=>none
 |some n=>some (-(n:Int))
 |none=>none
theorem ka{s:List UInt8}(h:0<(s.length:Int)/\((s.getD 0 0).toNat:Int)=45):aE s=sgn (bz (s.drop 1) 9223372036854775808):=by
 unfold aE;rw[head_getD,if_pos (c45.1 h.2),w_tail];cases bz (s.drop 1) 9223372036854775808 with
 |none=>rfl
 |some n=>cases n<;>rfl
theorem j9{s:List UInt8}(h:0<(s.length:Int)->((s.getD 0 0).toNat:Int)≠45):aE s=(bz s 9223372036854775807).map fun n=>(n:Int):=by
 unfold aE;have:s.headD 0≠45:=by
  rw[head_getD];intro e;cases s with
  |nil=>cases e
  |cons a l=>exact h (by simp) (c45.2 e)
 rw[if_neg this];cases bz s 9223372036854775807<;>rfl
theorem ps_len{t:List UInt8}{m:Nat}(h:t.length<1\/19<t.length):bz t m=none:=by unfold bz;rw[if_neg];rintro⟨z,_⟩;obtain⟨A,E,_⟩:=gj.1 z;omega
theorem ps_zero{t:List UInt8}{m:Nat}(h:t.getD 0 0=48):bz t m=if t.length=1 then some 0 else none:=by
 unfold bz;split
 ·rename_i z;obtain⟨A,O,T,E⟩:=gj.1 z.1;rw[if_pos (E h)];match t,E h with
  | [a],_=>
   have:a=48:=h
   subst this;rfl
 rename_i z;split
 ·rename_i A;exfalso;apply z;match t,A with
  | [a],_=>
   have:a=48:=h
   subst this;exact⟨by decide,by show 0<=m;omega⟩
 rfl
theorem ps_bad{t:List UInt8}{i m:Nat}(hi:i<t.length)(h:((t.getD i 0).toNat:Int)<48\/57<((t.getD i 0).toNat:Int)):bz t m=none:=by unfold bz;rw[if_neg];rintro⟨z,_⟩;obtain⟨_,_,A,_⟩:=gj.1 z;have:=jd.1 (a0o.1 A (t.getD i 0) (a0h (aU hi)));omega
theorem ps_ok{t:List UInt8}{m:Nat}(z:1<=t.length)(A:t.length<=19)(E:t.all eh=true)(O:t.getD 0 0=48->t.length=1):bz t m=if val t<=m then some (val t) else none:=by unfold bz;have:fU t=true:=gj.2 ⟨z,A,E,O⟩;simp only[this,true_and]
theorem wr1{m:Nat}(h:m<=9223372036854775808):IntKind.i64.wrap (IntKind.u64.wrap (0-(m:Int)))= -(m:Int):=by rw[u64_eq,IntKind.wrap_i64];omega
theorem wr2{m:Nat}(h:m<=9223372036854775807):IntKind.i64.wrap (m:Int)=(m:Int):=eu ⟨by omega,by omega⟩
theorem sgn_of{n:Nat}(h:0<n):sgn (some n)=some (-(n:Int)):=by
 cases n with
 |zero=>omega
 |succ n=>rfl
theorem pb1{s:List UInt8}{q:Prop}(h:0<(s.length:Int)/\((s.getD 0 0).toNat:Int)=45)(c:(((s.drop 1).length:Int)<1\/19<((s.drop 1).length:Int))\/(((s.drop 1).getD 0 0).toNat:Int)=48/\q):aE s=none:=by
 rw[ka h];rcases c with c|⟨c,_⟩
 ·rw[ps_len (by omega)];rfl
 rw[ps_zero (c48.1 c)];split<;>rfl
theorem pp1{s:List UInt8}(h:0<(s.length:Int)->((s.getD 0 0).toNat:Int)≠45)(c:((s.length:Int)<1\/19<(s.length:Int))\/((s.getD 0 0).toNat:Int)=48/\(1<(s.length:Int)\/0<(s.length:Int)/\((s.getD 0 0).toNat:Int)=45)):aE s=none:=by
 rw[j9 h];rcases c with c|⟨c,c'⟩
 ·rw[ps_len (by omega)];rfl
 rw[ps_zero (c48.1 c),if_neg (by rcases c' with c'|⟨c1,c2⟩;omega;exact absurd c2 (h c1))];rfl
theorem pb2{s:List UInt8}{i:Nat}(h:0<(s.length:Int)/\((s.getD 0 0).toNat:Int)=45)(hi:(i:Int)<((s.drop 1).length:Int))(c:(((s.drop 1).getD i 0).toNat:Int)<48\/57<(((s.drop 1).getD i 0).toNat:Int)):aE s=none:=by rw[ka h,ps_bad (i:=i) (by omega) c];rfl
theorem pp2{s:List UInt8}{i:Nat}(h:0<(s.length:Int)->((s.getD 0 0).toNat:Int)≠45)(hi:(i:Int)<(s.length:Int))(c:((s.getD i 0).toNat:Int)<48\/57<((s.getD i 0).toNat:Int)):aE s=none:=by rw[j9 h,ps_bad (i:=i) (by omega) c];rfl
theorem fin_len{t:List UInt8}{i m:Nat}(E:i<=t.length)(c: ¬(i:Int)<(t.length:Int))(z:m=val (t.take i))(A:(t.take i).all eh=true):m=val t/\t.all eh=true:=by have:t.take i=t:=a0Z (by omega);rw[this]at z A;exact⟨z,A⟩
theorem pb3{s:List UInt8}{i m:Nat}{q:Prop}(h:0<(s.length:Int)/\((s.getD 0 0).toNat:Int)=45)(c:(¬((s.drop 1).length:Int)<1/\¬19<((s.drop 1).length:Int))/\((((s.drop 1).getD 0 0).toNat:Int)=48->¬1<((s.drop 1).length:Int)/\q))(hq: ¬q)
  (O:i<=(s.drop 1).length) (Z: ¬(i:Int)<((s.drop 1).length:Int)) (T:m=val ((s.drop 1).take i)) (U:((s.drop 1).take i).all eh=true):aE s=if m<=9223372036854775808 then some (-(m:Int)) else none:=by
 obtain⟨A,E⟩:=fin_len O Z T U
 have z:(s.drop 1).getD 0 0≠48:=fun e=>hq (c.2 (c48.2 e)).2
 rw[ka h,ps_ok (by omega) (by omega) E (fun e=>absurd e z),←A]
 split
 ·rw[sgn_of];rw[A];have hl:1<=(s.drop 1).length:=by omega
  generalize s.drop 1=t at *
  cases t with
  |nil=>simp at hl
  |cons a l=>
   have ha:a≠48:=z
   have hd:=jd.1 (a0o.1 E a (by simp))
   have a0:a.toNat≠48:=fun e=>ha (UInt8.toNat_inj.1 e)
   have Y: ∀(l:List UInt8) (n:Nat),0<n->0<l.foldl valA n:=by
    intro l;induction l with
    |nil=>intro n V;exact V
    |cons b l ih=>intro n V;exact ih _ (by unfold valA;omega)
   exact Y l _ (by unfold valA;omega)
 rfl
theorem pp3{s:List UInt8}{i m:Nat}{q:Prop}(h:0<(s.length:Int)->((s.getD 0 0).toNat:Int)≠45)(c:(¬(s.length:Int)<1/\¬19<(s.length:Int))/\(((s.getD 0 0).toNat:Int)=48->¬1<(s.length:Int)/\q))
  (E:i<=s.length) (U: ¬(i:Int)<(s.length:Int)) (O:m=val (s.take i)) (T:(s.take i).all eh=true):aE s=if m<=9223372036854775807 then some (m:Int) else none:=by
 obtain⟨z,A⟩:=fin_len E U O T
 rw[j9 h,ps_ok (by omega) (by omega) A (fun e=>by have:=(c.2 (c48.2 e)).1;omega),←z]
 split<;>rfl
theorem parse_c(s:List UInt8)(H:Heap):kKt ex 57 [(.string ⟨⟨s⟩⟩)] H fun v H'=> ∃(r:Int) (ok:Bool),H'=H/\v= .tuple ⟨[.int .i64 r,.bool ok]⟩/\r=(aE s).getD 0/\ok=(aE s).isSome:=by
 refine aD Try.func57 rfl rfl (aH (aa (za (iI 0) (za (.bool false) (ay ?_)))));refine aj (aH (aa (zm (.string ⟨⟨s⟩⟩) (za (.string ⟨⟨s⟩⟩) (ay ?_)))));refine aj (aH (bn 10 17 [5] [(5,(.bool ((decide ((0:Int)<(s.length:Int)))&&(((s.getD 0 0).toNat:Int)==45))))] (fun H'=>H'=H) ?_ ?_))
 ·refine aa (zm (.string ⟨⟨s⟩⟩) (ad (v:=(iI (s.length:Int))) (ee rfl rfl) rfl rfl (ad (v:=(.bool (decide ((0:Int)<(s.length:Int))))) (a7 rfl rfl rfl rfl) rfl rfl (zm (.bool (decide ((0:Int)<(s.length:Int)))) (dz (v:=(decide ((0:Int)<(s.length:Int)))) rfl rfl (fun g2=>?_) (fun g2=>?_))))))
  ·have cc:=g2;try simp only[BS]at cc
   refine zm (.string ⟨⟨s⟩⟩) (aC rfl g2 ?_);have dk:=cV (s.getD 0 0);refine ad (v:=(.int .u8 ((s.getD 0 0).toNat:Int))) (cM (j:=0) rfl rfl rfl (by decide) (aU (by omega))) rfl rfl (aC rfl g2 (ad (v:=(.bool (((s.getD 0 0).toNat:Int)==45))) (a7 rfl rfl rfl rfl) rfl rfl (ad (v:=(.bool (((s.getD 0 0).toNat:Int)==45))) (ao rfl g2 rfl) rfl rfl (za (.bool (((s.getD 0 0).toNat:Int)==45)) (ay ?_)))));exact ai ⟨rfl,rfl,(by repeat' first|exact Lr|refine Lu rfl ?_),(agC (congrArg Value.bool (show(((s.getD 0 0).toNat:Int)==45)=((decide ((0:Int)<(s.length:Int)))&&(((s.getD 0 0).toNat:Int)==45)) by simp only[↓g2,BT])) agN)⟩
  have cc:=g2;try simp only[BS]at cc
  refine bm rfl g2 rfl (bm rfl g2 rfl (ad (v:=(.bool false)) (au rfl g2 rfl) rfl rfl (za (.bool false) (ay ?_))));exact ai ⟨rfl,rfl,(by repeat' first|exact Lr|refine Lu rfl ?_),(agC (congrArg Value.bool (show false=((decide ((0:Int)<(s.length:Int)))&&(((s.getD 0 0).toNat:Int)==45)) by simp only[↓g2,BT])) agN)⟩
 skip;rintro g1 H rfl;refine aj (aH (aH (aa (zm (.bool ((decide ((0:Int)<(s.length:Int)))&&(((s.getD 0 0).toNat:Int)==45))) (ay ?_)))));refine aj (cr (v:=((decide ((0:Int)<(s.length:Int)))&&(((s.getD 0 0).toNat:Int)==45))) rfl rfl (fun Z=>?_) (fun Z=>?_))
 ·have c4:=Z;try simp only[BS]at c4
  have pb:=c4;refine aa (zm (.string ⟨⟨s⟩⟩) (ad (v:=(.string ⟨⟨s.drop 1⟩⟩)) (ap_slSd (i:=1) rfl rfl (optN (by decide)) (by omega)) rfl rfl (za (.string ⟨⟨s.drop 1⟩⟩) (ay (aj ?_)))));refine aH (aH (bn 21 41 [] [(41,(.bool (((decide (((s.drop 1).length:Int)<1))||(decide ((19:Int)<((s.drop 1).length:Int))))||(((((s.drop 1).getD 0 0).toNat:Int)==48)&&((decide ((1:Int)<((s.drop 1).length:Int)))||((decide ((0:Int)<(s.length:Int)))&&(((s.getD 0 0).toNat:Int)==45)))))))] (fun H'=>H'=H) ?_ ?_))
  ·refine aa (zm (.string ⟨⟨s.drop 1⟩⟩) (ad (v:=(iI ((s.drop 1).length:Int))) (ee rfl rfl) rfl rfl (ad (v:=(.bool (decide (((s.drop 1).length:Int)<1)))) (a7 rfl rfl rfl rfl) rfl rfl (zm (.bool (decide (((s.drop 1).length:Int)<1))) (cN (v:=(decide (((s.drop 1).length:Int)<1))) rfl rfl (fun Y=>?_) (fun Y=>?_))))))
   ·have cd:=Y;try simp only[BS]at cd
    refine zm (.string ⟨⟨s.drop 1⟩⟩) (aC rfl Y (ad (v:=(iI ((s.drop 1).length:Int))) (ee rfl rfl) rfl rfl (aC rfl Y (ad (v:=(.bool (decide ((19:Int)<((s.drop 1).length:Int))))) (a7 rfl rfl rfl rfl) rfl rfl (ad (v:=(.bool (decide ((19:Int)<((s.drop 1).length:Int))))) (au rfl Y rfl) rfl rfl ?_)))));refine zm (.bool (decide ((19:Int)<((s.drop 1).length:Int)))) (cN (v:=(decide ((19:Int)<((s.drop 1).length:Int)))) rfl rfl (fun O=>?_) (fun O=>?_))
    ·have ch:=O;try simp only[BS]at ch
     refine zm (.string ⟨⟨s.drop 1⟩⟩) (aC rfl O ?_);have dn:=cV ((s.drop 1).getD 0 0);refine ad (v:=(.int .u8 (((s.drop 1).getD 0 0).toNat:Int))) (cM (j:=0) rfl rfl rfl (by decide) (aU (by omega))) rfl rfl (aC rfl O (ad (v:=(.bool ((((s.drop 1).getD 0 0).toNat:Int)==48))) (a7 rfl rfl rfl rfl) rfl rfl (aC rfl O (zm (.bool ((((s.drop 1).getD 0 0).toNat:Int)==48)) (dz (v:=((((s.drop 1).getD 0 0).toNat:Int)==48)) rfl rfl (fun V=>?_) (fun V=>?_))))))
     ·have ci:=V;try simp only[BS]at ci
      refine zm (.string ⟨⟨s.drop 1⟩⟩) (aC rfl V (ad (v:=(iI ((s.drop 1).length:Int))) (ee rfl rfl) rfl rfl (aC rfl V (ad (v:=(.bool (decide ((1:Int)<((s.drop 1).length:Int))))) (a7 rfl rfl rfl rfl) rfl rfl (aC rfl V ?_)))));refine zm (.bool (decide ((1:Int)<((s.drop 1).length:Int)))) (cN (v:=(decide ((1:Int)<((s.drop 1).length:Int)))) rfl rfl (fun al=>?_) (fun al=>?_))
      ·have bl:=al;try simp only[BS]at bl
       refine zm (.bool ((decide ((0:Int)<(s.length:Int)))&&(((s.getD 0 0).toNat:Int)==45))) (aC rfl V (ad (v:=(.bool ((decide ((0:Int)<(s.length:Int)))&&(((s.getD 0 0).toNat:Int)==45)))) (au rfl al rfl) rfl rfl (aC rfl O (ad (v:=(.bool ((decide ((0:Int)<(s.length:Int)))&&(((s.getD 0 0).toNat:Int)==45)))) (ao rfl V rfl) rfl rfl (ad (v:=(.bool ((decide ((0:Int)<(s.length:Int)))&&(((s.getD 0 0).toNat:Int)==45)))) (au rfl O rfl) rfl rfl ?_)))));refine ay ?_;exact ai ⟨rfl,rfl,(by repeat' first|exact Lr|refine Lu rfl ?_),(agC (congrArg Value.bool (show((decide ((0:Int)<(s.length:Int)))&&(((s.getD 0 0).toNat:Int)==45))=(((decide (((s.drop 1).length:Int)<1))||(decide ((19:Int)<((s.drop 1).length:Int))))||(((((s.drop 1).getD 0 0).toNat:Int)==48)&&((decide ((1:Int)<((s.drop 1).length:Int)))||((decide ((0:Int)<(s.length:Int)))&&(((s.getD 0 0).toNat:Int)==45))))) by simp only[↓Y,↓O,↓V,↓al,BT])) agN)⟩
      have bl:=al;try simp only[BS]at bl
      refine aC rfl V (ad (v:=(.bool true)) (ao rfl al rfl) rfl rfl (aC rfl O (ad (v:=(.bool true)) (ao rfl V rfl) rfl rfl (ad (v:=(.bool true)) (au rfl O rfl) rfl rfl (ay ?_)))));exact ai ⟨rfl,rfl,(by repeat' first|exact Lr|refine Lu rfl ?_),(agC (congrArg Value.bool (show true=(((decide (((s.drop 1).length:Int)<1))||(decide ((19:Int)<((s.drop 1).length:Int))))||(((((s.drop 1).getD 0 0).toNat:Int)==48)&&((decide ((1:Int)<((s.drop 1).length:Int)))||((decide ((0:Int)<(s.length:Int)))&&(((s.getD 0 0).toNat:Int)==45))))) by simp only[↓Y,↓O,↓V,↓al,BT])) agN)⟩
     have ci:=V;try simp only[BS]at ci
     refine bm rfl V rfl (bm rfl V rfl (bm rfl V rfl (cF rfl rfl (bm rfl V rfl (aC rfl O ?_)))));refine ad (v:=(.bool false)) (au rfl V rfl) rfl rfl (ad (v:=(.bool false)) (au rfl O rfl) rfl rfl (ay ?_));exact ai ⟨rfl,rfl,(by repeat' first|exact Lr|refine Lu rfl ?_),(agC (congrArg Value.bool (show false=(((decide (((s.drop 1).length:Int)<1))||(decide ((19:Int)<((s.drop 1).length:Int))))||(((((s.drop 1).getD 0 0).toNat:Int)==48)&&((decide ((1:Int)<((s.drop 1).length:Int)))||((decide ((0:Int)<(s.length:Int)))&&(((s.getD 0 0).toNat:Int)==45))))) by simp only[↓Y,↓O,↓V,BT])) agN)⟩
    have ch:=O;try simp only[BS]at ch
    refine ag rfl O rfl (ag rfl O rfl (ag rfl O rfl (cF rfl rfl (cF rfl rfl (cF rfl rfl ?_)))));refine cF rfl rfl (cF rfl rfl (cF rfl rfl (ag rfl O rfl (ad (v:=(.bool true)) (ao rfl O rfl) rfl rfl (ay ?_)))));exact ai ⟨rfl,rfl,(by repeat' first|exact Lr|refine Lu rfl ?_),(agC (congrArg Value.bool (show true=(((decide (((s.drop 1).length:Int)<1))||(decide ((19:Int)<((s.drop 1).length:Int))))||(((((s.drop 1).getD 0 0).toNat:Int)==48)&&((decide ((1:Int)<((s.drop 1).length:Int)))||((decide ((0:Int)<(s.length:Int)))&&(((s.getD 0 0).toNat:Int)==45))))) by simp only[↓Y,↓O,BT])) agN)⟩
   have cd:=Y;try simp only[BS]at cd
   refine ag rfl Y rfl (ag rfl Y rfl (ad (v:=(.bool true)) (ao rfl Y rfl) rfl rfl (zm (.bool true) (ag rfl rfl rfl (ag rfl rfl rfl ?_)))));refine ag rfl rfl rfl (ag rfl rfl rfl (cF rfl rfl (cF rfl rfl (cF rfl rfl (cF rfl rfl ?_)))));refine cF rfl rfl (cF rfl rfl (ag rfl rfl rfl (ad (v:=(.bool true)) (ao rfl rfl rfl) rfl rfl (ay ?_))));exact ai ⟨rfl,rfl,(by repeat' first|exact Lr|refine Lu rfl ?_),(agC (congrArg Value.bool (show true=(((decide (((s.drop 1).length:Int)<1))||(decide ((19:Int)<((s.drop 1).length:Int))))||(((((s.drop 1).getD 0 0).toNat:Int)==48)&&((decide ((1:Int)<((s.drop 1).length:Int)))||((decide ((0:Int)<(s.length:Int)))&&(((s.getD 0 0).toNat:Int)==45))))) by simp only[↓Y,BT])) agN)⟩
  skip;rintro g5 H rfl;refine aj (cr (v:=(((decide (((s.drop 1).length:Int)<1))||(decide ((19:Int)<((s.drop 1).length:Int))))||(((((s.drop 1).getD 0 0).toNat:Int)==48)&&((decide ((1:Int)<((s.drop 1).length:Int)))||((decide ((0:Int)<(s.length:Int)))&&(((s.getD 0 0).toNat:Int)==45)))))) rfl rfl (fun a3=>?_) (fun a3=>?_))
  ·try simp only[BS]at a3
   have pc:=a3;refine aH (aa (za (iI 0) (za (.bool false) (ay (aj ?_)))));refine ah ⟨.inr rfl,_,rfl,0,false,rfl,rfl,(by have e:=pb1 pb pc;rw[e];(try rfl)),(by have e:=pb1 pb pc;rw[e];(try rfl))⟩
  try simp only[BS]at a3
  have pc:=a3;refine aj (aH (aa (za (.int .u64 0) (ay (aj ?_)))));refine aH (aH (aa (za (iI 0) (ay (aj ?_)))));refine eC (aA (fun(mm:Nat) f H'=> ∃(i:Nat) (m:Nat),H'=H/\aX f [(4,(.string ⟨⟨s.drop 1⟩⟩)),(5,(.bool ((decide ((0:Int)<(s.length:Int)))&&(((s.getD 0 0).toNat:Int)==45)))),(6,(.int .u64 (m:Int))),(7,(iI (i:Int)))]/\mm=(s.drop 1).length-i/\(i<=(s.drop 1).length)/\(m=val ((s.drop 1).take i))/\(((s.drop 1).take i).all eh=true)/\(m<10^i)/\((s.drop 1).length<=19)) _ ⟨0,0,rfl,⟨rfl,rfl,rfl,rfl,trivial⟩,rfl,(by omega),(by rfl),(by rfl),(by decide),(by omega)⟩ ?_);rintro c9 ds H ⟨i,m,rfl,b9,rfl,h1,h2,h3,h4,h5⟩ ck;refine aN _ b9 (fun _=>?_);clear b9;refine aH (aH (aa (zm (iI (i:Int)) (zm (.string ⟨⟨s.drop 1⟩⟩) (ad (v:=(iI ((s.drop 1).length:Int))) (ee rfl rfl) rfl rfl ?_)))));refine ad (v:=(.bool (decide ((i:Int)<((s.drop 1).length:Int))))) (a7 rfl rfl rfl rfl) rfl rfl (ay (aj (cr (v:=(decide ((i:Int)<((s.drop 1).length:Int)))) rfl rfl (fun a4=>?_) (fun a4=>?_))))
  ·try simp only[BS]at a4
   have hp:=pow_le (show i<=18 by omega);have pi:=a4;refine aj (aH (eC (aH (aH (bn 48 57 [] [(57,(.bool ((decide ((((s.drop 1).getD i 0).toNat:Int)<48))||(decide ((57:Int)<(((s.drop 1).getD i 0).toNat:Int))))))] (fun H'=>H'=H) ?_ ?_)))))
   ·refine aa (zm (.string ⟨⟨s.drop 1⟩⟩) (zm (iI (i:Int)) ?_));have cm:=cV ((s.drop 1).getD i 0);refine ad (v:=(.int .u8 (((s.drop 1).getD i 0).toNat:Int))) (cM (j:=(i:Int)) rfl rfl rfl (by omega) (aU (by omega))) rfl rfl (ad (v:=(.bool (decide ((((s.drop 1).getD i 0).toNat:Int)<48)))) (a7 rfl rfl rfl rfl) rfl rfl (zm (.bool (decide ((((s.drop 1).getD i 0).toNat:Int)<48))) (cN (v:=(decide ((((s.drop 1).getD i 0).toNat:Int)<48))) rfl rfl (fun T=>?_) (fun T=>?_))))
    ·have b0:=T;try simp only[BS]at b0
     refine zm (.string ⟨⟨s.drop 1⟩⟩) (aC rfl T (zm (iI (i:Int)) (aC rfl T ?_)));have co:=cV ((s.drop 1).getD i 0);refine ad (v:=(.int .u8 (((s.drop 1).getD i 0).toNat:Int))) (cM (j:=(i:Int)) rfl rfl rfl (by omega) (aU (by omega))) rfl rfl (aC rfl T (ad (v:=(.bool (decide ((57:Int)<(((s.drop 1).getD i 0).toNat:Int))))) (a7 rfl rfl rfl rfl) rfl rfl (ad (v:=(.bool (decide ((57:Int)<(((s.drop 1).getD i 0).toNat:Int))))) (au rfl T rfl) rfl rfl (ay ?_))));exact ai ⟨rfl,rfl,(by repeat' first|exact Lr|refine Lu rfl ?_),(agC (congrArg Value.bool (show(decide ((57:Int)<(((s.drop 1).getD i 0).toNat:Int)))=((decide ((((s.drop 1).getD i 0).toNat:Int)<48))||(decide ((57:Int)<(((s.drop 1).getD i 0).toNat:Int)))) by simp only[↓T,BT])) agN)⟩
    have b0:=T;try simp only[BS]at b0
    refine ag rfl T rfl (ag rfl T rfl (ag rfl T rfl (ad (v:=(.bool true)) (ao rfl T rfl) rfl rfl (ay ?_))));exact ai ⟨rfl,rfl,(by repeat' first|exact Lr|refine Lu rfl ?_),(agC (congrArg Value.bool (show true=((decide ((((s.drop 1).getD i 0).toNat:Int)<48))||(decide ((57:Int)<(((s.drop 1).getD i 0).toNat:Int)))) by simp only[↓T,BT])) agN)⟩
   skip;rintro d1 H rfl;refine aj (cr (v:=((decide ((((s.drop 1).getD i 0).toNat:Int)<48))||(decide ((57:Int)<(((s.drop 1).getD i 0).toNat:Int))))) rfl rfl (fun b6=>?_) (fun b6=>?_))
   ·try simp only[BS]at b6
    have pd:=b6;refine aH (aa (za (iI 0) (za (.bool false) (ay (aj ?_)))));refine ah ⟨.inr rfl,_,rfl,0,false,rfl,rfl,(by have e:=pb2 pb pi pd;rw[e];(try rfl)),(by have e:=pb2 pb pi pd;rw[e];(try rfl))⟩
   try simp only[BS]at b6
   refine aj (aa (zm (.int .u64 (m:Int)) (ad (v:=(.int .u64 (10 *(m:Int)))) (ap_mul rfl rfl (iD (n:=10 *(m:Int)) (by omega))) rfl rfl (zm (.string ⟨⟨s.drop 1⟩⟩) (zm (iI (i:Int)) ?_)))));have cw:=cV ((s.drop 1).getD i 0);refine ad (v:=(.int .u8 (((s.drop 1).getD i 0).toNat:Int))) (cM (j:=(i:Int)) rfl rfl rfl (by omega) (aU (by omega))) rfl rfl (ad (v:=(.int .u8 ((((s.drop 1).getD i 0).toNat-48:Nat):Int))) (ap_sub rfl rfl (natsub (a:=((s.drop 1).getD i 0).toNat) (b:=48) (by omega) (w_u8 (by omega)))) rfl rfl (ad (v:=(.int .u64 ((((s.drop 1).getD i 0).toNat-48:Nat):Int))) (ap_cv rfl rfl rfl (iD (n:=((((s.drop 1).getD i 0).toNat-48:Nat):Int)) (by omega))) rfl rfl (ad (v:=(.int .u64 ((10 *(m:Int))+((((s.drop 1).getD i 0).toNat-48:Nat):Int)))) (dE rfl rfl (iD (n:=(10 *(m:Int))+((((s.drop 1).getD i 0).toNat-48:Nat):Int)) (by omega))) rfl rfl (za (.int .u64 ((10 *(m:Int))+((((s.drop 1).getD i 0).toNat-48:Nat):Int))) (ay ?_)))));refine dP (aj (aa (zm (iI (i:Int)) (ad (v:=(iI ((i:Int)+1))) (dE rfl rfl (eu (n:=(i:Int)+1) (by omega))) rfl rfl (za (iI ((i:Int)+1)) ?_)))));refine ay (aj ?_);refine ck _ _ _ ?_ ⟨i+1,(10 *m)+(((s.drop 1).getD i 0).toNat-48),rfl,⟨rfl,rfl,rfl,rfl,trivial⟩,rfl,(by omega),(by(rw[ig (by omega),h2])),(by(rw[eM (by omega),h3,a1l,jd];omega)),(by(rw[a1B];omega)),(by assumption)⟩;omega
  try simp only[BS]at a4
  have pi:=a4;refine cI (cI (dQ (aj (aH (aa ?_)))));refine za (.int .u64 9223372036854775807) (ay (aj (aH (aH (aa ?_)))));refine zm (.bool ((decide ((0:Int)<(s.length:Int)))&&(((s.getD 0 0).toNat:Int)==45))) (ay (aj (wk_true (v:=((decide ((0:Int)<(s.length:Int)))&&(((s.getD 0 0).toNat:Int)==45))) rfl Z rfl (aa (zm (.int .u64 9223372036854775807) ?_)))));refine ad (v:=(.int .u64 9223372036854775808)) (dE rfl rfl rfl) rfl rfl (za (.int .u64 9223372036854775808) (ay (aj (aH (aH ?_)))));refine aa (zm (.int .u64 (m:Int)) (zm (.int .u64 9223372036854775808) (ad (v:=(.bool (decide ((9223372036854775808:Int)<(m:Int))))) (a7 rfl rfl rfl rfl) rfl rfl (ay (aj ?_)))));refine cr (v:=(decide ((9223372036854775808:Int)<(m:Int)))) rfl rfl (fun a8=>?_) (fun a8=>?_)
  ·try simp only[BS]at a8
   have pm:=a8;refine aH (aa (za (iI 0) (za (.bool false) (ay (aj ?_)))));refine ah ⟨.inr rfl,_,rfl,0,false,rfl,rfl,(by have e:=pb3 pb pc (fun h=>h pb.1 pb.2) h1 pi h2 h3;rw[e];(try rfl);split<;>first|rfl|(exfalso;omega)|exact wr1 (by omega)|exact wr2 (by omega)),(by have e:=pb3 pb pc (fun h=>h pb.1 pb.2) h1 pi h2 h3;rw[e];(try rfl);split<;>first|rfl|(exfalso;omega)|exact wr1 (by omega)|exact wr2 (by omega))⟩
  try simp only[BS]at a8
  have pm:=a8;refine aj (aH (aH (aa (zm (.bool ((decide ((0:Int)<(s.length:Int)))&&(((s.getD 0 0).toNat:Int)==45))) (ay ?_)))));refine aj (wk_true (v:=((decide ((0:Int)<(s.length:Int)))&&(((s.getD 0 0).toNat:Int)==45))) rfl Z rfl (aH (aa (zm (.int .u64 (m:Int)) (ad (v:=(.int .u64 (IntKind.u64.wrap (0-(m:Int))))) (ap_ng rfl rfl) rfl rfl ?_)))));refine ad (v:=(iI (IntKind.i64.wrap (IntKind.u64.wrap (0-(m:Int)))))) (ap_cv rfl rfl rfl rfl) rfl rfl (za (iI (IntKind.i64.wrap (IntKind.u64.wrap (0-(m:Int))))) (za (.bool true) (ay (aj (ah ⟨.inr rfl,_,rfl,IntKind.i64.wrap (IntKind.u64.wrap (0-(m:Int))),true,rfl,rfl,(by have e:=pb3 pb pc (fun h=>h pb.1 pb.2) h1 pi h2 h3;rw[e];(try rfl);split<;>first|rfl|(exfalso;omega)|exact wr1 (by omega)|exact wr2 (by omega)),(by have e:=pb3 pb pc (fun h=>h pb.1 pb.2) h1 pi h2 h3;rw[e];(try rfl);split<;>first|rfl|(exfalso;omega)|exact wr1 (by omega)|exact wr2 (by omega))⟩)))))
 have c4:=Z;try simp only[BS]at c4
 have pb:=c4;refine aj (aH (aH (bn 21 41 [] [(41,(.bool (((decide ((s.length:Int)<1))||(decide ((19:Int)<(s.length:Int))))||((((s.getD 0 0).toNat:Int)==48)&&((decide ((1:Int)<(s.length:Int)))||((decide ((0:Int)<(s.length:Int)))&&(((s.getD 0 0).toNat:Int)==45)))))))] (fun H'=>H'=H) ?_ ?_)))
 ·refine aa (zm (.string ⟨⟨s⟩⟩) (ad (v:=(iI (s.length:Int))) (ee rfl rfl) rfl rfl (ad (v:=(.bool (decide ((s.length:Int)<1)))) (a7 rfl rfl rfl rfl) rfl rfl (zm (.bool (decide ((s.length:Int)<1))) (cN (v:=(decide ((s.length:Int)<1))) rfl rfl (fun E=>?_) (fun E=>?_))))))
  ·have b1:=E;try simp only[BS]at b1
   refine zm (.string ⟨⟨s⟩⟩) (aC rfl E (ad (v:=(iI (s.length:Int))) (ee rfl rfl) rfl rfl (aC rfl E (ad (v:=(.bool (decide ((19:Int)<(s.length:Int))))) (a7 rfl rfl rfl rfl) rfl rfl (ad (v:=(.bool (decide ((19:Int)<(s.length:Int))))) (au rfl E rfl) rfl rfl ?_)))));refine zm (.bool (decide ((19:Int)<(s.length:Int)))) (cN (v:=(decide ((19:Int)<(s.length:Int)))) rfl rfl (fun z=>?_) (fun z=>?_))
   ·have b2:=z;try simp only[BS]at b2
    refine zm (.string ⟨⟨s⟩⟩) (aC rfl z ?_);have c0:=cV (s.getD 0 0);refine ad (v:=(.int .u8 ((s.getD 0 0).toNat:Int))) (cM (j:=0) rfl rfl rfl (by decide) (aU (by omega))) rfl rfl (aC rfl z (ad (v:=(.bool (((s.getD 0 0).toNat:Int)==48))) (a7 rfl rfl rfl rfl) rfl rfl (aC rfl z (zm (.bool (((s.getD 0 0).toNat:Int)==48)) (dz (v:=(((s.getD 0 0).toNat:Int)==48)) rfl rfl (fun A=>?_) (fun A=>?_))))))
    ·have b3:=A;try simp only[BS]at b3
     refine zm (.string ⟨⟨s⟩⟩) (aC rfl A (ad (v:=(iI (s.length:Int))) (ee rfl rfl) rfl rfl (aC rfl A (ad (v:=(.bool (decide ((1:Int)<(s.length:Int))))) (a7 rfl rfl rfl rfl) rfl rfl (aC rfl A ?_)))));refine zm (.bool (decide ((1:Int)<(s.length:Int)))) (cN (v:=(decide ((1:Int)<(s.length:Int)))) rfl rfl (fun ax=>?_) (fun ax=>?_))
     ·have b4:=ax;try simp only[BS]at b4
      refine zm (.bool ((decide ((0:Int)<(s.length:Int)))&&(((s.getD 0 0).toNat:Int)==45))) (aC rfl A (ad (v:=(.bool ((decide ((0:Int)<(s.length:Int)))&&(((s.getD 0 0).toNat:Int)==45)))) (au rfl ax rfl) rfl rfl (aC rfl z (ad (v:=(.bool ((decide ((0:Int)<(s.length:Int)))&&(((s.getD 0 0).toNat:Int)==45)))) (ao rfl A rfl) rfl rfl (ad (v:=(.bool ((decide ((0:Int)<(s.length:Int)))&&(((s.getD 0 0).toNat:Int)==45)))) (au rfl z rfl) rfl rfl ?_)))));refine ay ?_;exact ai ⟨rfl,rfl,(by repeat' first|exact Lr|refine Lu rfl ?_),(agC (congrArg Value.bool (show((decide ((0:Int)<(s.length:Int)))&&(((s.getD 0 0).toNat:Int)==45))=(((decide ((s.length:Int)<1))||(decide ((19:Int)<(s.length:Int))))||((((s.getD 0 0).toNat:Int)==48)&&((decide ((1:Int)<(s.length:Int)))||((decide ((0:Int)<(s.length:Int)))&&(((s.getD 0 0).toNat:Int)==45))))) by simp only[↓E,↓z,↓A,↓ax,BT])) agN)⟩
     have b4:=ax;try simp only[BS]at b4
     refine aC rfl A (ad (v:=(.bool true)) (ao rfl ax rfl) rfl rfl (aC rfl z (ad (v:=(.bool true)) (ao rfl A rfl) rfl rfl (ad (v:=(.bool true)) (au rfl z rfl) rfl rfl (ay ?_)))));exact ai ⟨rfl,rfl,(by repeat' first|exact Lr|refine Lu rfl ?_),(agC (congrArg Value.bool (show true=(((decide ((s.length:Int)<1))||(decide ((19:Int)<(s.length:Int))))||((((s.getD 0 0).toNat:Int)==48)&&((decide ((1:Int)<(s.length:Int)))||((decide ((0:Int)<(s.length:Int)))&&(((s.getD 0 0).toNat:Int)==45))))) by simp only[↓E,↓z,↓A,↓ax,BT])) agN)⟩
    have b3:=A;try simp only[BS]at b3
    refine bm rfl A rfl (bm rfl A rfl (bm rfl A rfl (cF rfl rfl (bm rfl A rfl (aC rfl z ?_)))));refine ad (v:=(.bool false)) (au rfl A rfl) rfl rfl (ad (v:=(.bool false)) (au rfl z rfl) rfl rfl (ay ?_));exact ai ⟨rfl,rfl,(by repeat' first|exact Lr|refine Lu rfl ?_),(agC (congrArg Value.bool (show false=(((decide ((s.length:Int)<1))||(decide ((19:Int)<(s.length:Int))))||((((s.getD 0 0).toNat:Int)==48)&&((decide ((1:Int)<(s.length:Int)))||((decide ((0:Int)<(s.length:Int)))&&(((s.getD 0 0).toNat:Int)==45))))) by simp only[↓E,↓z,↓A,BT])) agN)⟩
   have b2:=z;try simp only[BS]at b2
   refine ag rfl z rfl (ag rfl z rfl (ag rfl z rfl (cF rfl rfl (cF rfl rfl (cF rfl rfl ?_)))));refine cF rfl rfl (cF rfl rfl (cF rfl rfl (ag rfl z rfl (ad (v:=(.bool true)) (ao rfl z rfl) rfl rfl (ay ?_)))));exact ai ⟨rfl,rfl,(by repeat' first|exact Lr|refine Lu rfl ?_),(agC (congrArg Value.bool (show true=(((decide ((s.length:Int)<1))||(decide ((19:Int)<(s.length:Int))))||((((s.getD 0 0).toNat:Int)==48)&&((decide ((1:Int)<(s.length:Int)))||((decide ((0:Int)<(s.length:Int)))&&(((s.getD 0 0).toNat:Int)==45))))) by simp only[↓E,↓z,BT])) agN)⟩
  have b1:=E;try simp only[BS]at b1
  refine ag rfl E rfl (ag rfl E rfl (ad (v:=(.bool true)) (ao rfl E rfl) rfl rfl (zm (.bool true) (ag rfl rfl rfl (ag rfl rfl rfl ?_)))));refine ag rfl rfl rfl (ag rfl rfl rfl (cF rfl rfl (cF rfl rfl (cF rfl rfl (cF rfl rfl ?_)))));refine cF rfl rfl (cF rfl rfl (ag rfl rfl rfl (ad (v:=(.bool true)) (ao rfl rfl rfl) rfl rfl (ay ?_))));exact ai ⟨rfl,rfl,(by repeat' first|exact Lr|refine Lu rfl ?_),(agC (congrArg Value.bool (show true=(((decide ((s.length:Int)<1))||(decide ((19:Int)<(s.length:Int))))||((((s.getD 0 0).toNat:Int)==48)&&((decide ((1:Int)<(s.length:Int)))||((decide ((0:Int)<(s.length:Int)))&&(((s.getD 0 0).toNat:Int)==45))))) by simp only[↓E,BT])) agN)⟩
 skip;rintro d2 H rfl;refine aj (cr (v:=(((decide ((s.length:Int)<1))||(decide ((19:Int)<(s.length:Int))))||((((s.getD 0 0).toNat:Int)==48)&&((decide ((1:Int)<(s.length:Int)))||((decide ((0:Int)<(s.length:Int)))&&(((s.getD 0 0).toNat:Int)==45)))))) rfl rfl (fun a9=>?_) (fun a9=>?_))
 ·try simp only[BS]at a9
  have pc:=a9;refine aH (aa (za (iI 0) (za (.bool false) (ay (aj ?_)))));refine ah ⟨.inr rfl,_,rfl,0,false,rfl,rfl,(by have e:=pp1 pb pc;rw[e];(try rfl)),(by have e:=pp1 pb pc;rw[e];(try rfl))⟩
 try simp only[BS]at a9
 have pc:=a9;refine aj (aH (aa (za (.int .u64 0) (ay (aj ?_)))));refine aH (aH (aa (za (iI 0) (ay (aj ?_)))));refine eC (aA (fun(mm:Nat) f H'=> ∃(i:Nat) (m:Nat),H'=H/\aX f [(4,(.string ⟨⟨s⟩⟩)),(5,(.bool ((decide ((0:Int)<(s.length:Int)))&&(((s.getD 0 0).toNat:Int)==45)))),(6,(.int .u64 (m:Int))),(7,(iI (i:Int)))]/\mm=s.length-i/\(i<=s.length)/\(m=val (s.take i))/\((s.take i).all eh=true)/\(m<10^i)/\(s.length<=19)) _ ⟨0,0,rfl,⟨rfl,rfl,rfl,rfl,trivial⟩,rfl,(by omega),(by rfl),(by rfl),(by decide),(by omega)⟩ ?_);rintro dd dt H ⟨i,m,rfl,cb,rfl,h1,h2,h3,h4,h5⟩ cl;refine aN _ cb (fun _=>?_);clear cb;refine aH (aH (aa (zm (iI (i:Int)) (zm (.string ⟨⟨s⟩⟩) (ad (v:=(iI (s.length:Int))) (ee rfl rfl) rfl rfl ?_)))));refine ad (v:=(.bool (decide ((i:Int)<(s.length:Int))))) (a7 rfl rfl rfl rfl) rfl rfl (ay (aj (cr (v:=(decide ((i:Int)<(s.length:Int)))) rfl rfl (fun ba=>?_) (fun ba=>?_))))
 ·try simp only[BS]at ba
  have hp:=pow_le (show i<=18 by omega);have pi:=ba;refine aj (aH (eC (aH (aH (bn 48 57 [] [(57,(.bool ((decide (((s.getD i 0).toNat:Int)<48))||(decide ((57:Int)<((s.getD i 0).toNat:Int))))))] (fun H'=>H'=H) ?_ ?_)))))
  ·refine aa (zm (.string ⟨⟨s⟩⟩) (zm (iI (i:Int)) ?_));have c3:=cV (s.getD i 0);refine ad (v:=(.int .u8 ((s.getD i 0).toNat:Int))) (cM (j:=(i:Int)) rfl rfl rfl (by omega) (aU (by omega))) rfl rfl (ad (v:=(.bool (decide (((s.getD i 0).toNat:Int)<48)))) (a7 rfl rfl rfl rfl) rfl rfl (zm (.bool (decide (((s.getD i 0).toNat:Int)<48))) (cN (v:=(decide (((s.getD i 0).toNat:Int)<48))) rfl rfl (fun U=>?_) (fun U=>?_))))
   ·have b5:=U;try simp only[BS]at b5
    refine zm (.string ⟨⟨s⟩⟩) (aC rfl U (zm (iI (i:Int)) (aC rfl U ?_)));have c5:=cV (s.getD i 0);refine ad (v:=(.int .u8 ((s.getD i 0).toNat:Int))) (cM (j:=(i:Int)) rfl rfl rfl (by omega) (aU (by omega))) rfl rfl (aC rfl U (ad (v:=(.bool (decide ((57:Int)<((s.getD i 0).toNat:Int))))) (a7 rfl rfl rfl rfl) rfl rfl (ad (v:=(.bool (decide ((57:Int)<((s.getD i 0).toNat:Int))))) (au rfl U rfl) rfl rfl (ay ?_))));exact ai ⟨rfl,rfl,(by repeat' first|exact Lr|refine Lu rfl ?_),(agC (congrArg Value.bool (show(decide ((57:Int)<((s.getD i 0).toNat:Int)))=((decide (((s.getD i 0).toNat:Int)<48))||(decide ((57:Int)<((s.getD i 0).toNat:Int)))) by simp only[↓U,BT])) agN)⟩
   have b5:=U;try simp only[BS]at b5
   refine ag rfl U rfl (ag rfl U rfl (ag rfl U rfl (ad (v:=(.bool true)) (ao rfl U rfl) rfl rfl (ay ?_))));exact ai ⟨rfl,rfl,(by repeat' first|exact Lr|refine Lu rfl ?_),(agC (congrArg Value.bool (show true=((decide (((s.getD i 0).toNat:Int)<48))||(decide ((57:Int)<((s.getD i 0).toNat:Int)))) by simp only[↓U,BT])) agN)⟩
  skip;rintro em H rfl;refine aj (cr (v:=((decide (((s.getD i 0).toNat:Int)<48))||(decide ((57:Int)<((s.getD i 0).toNat:Int))))) rfl rfl (fun b7=>?_) (fun b7=>?_))
  ·try simp only[BS]at b7
   have pd:=b7;refine aH (aa (za (iI 0) (za (.bool false) (ay (aj ?_)))));refine ah ⟨.inr rfl,_,rfl,0,false,rfl,rfl,(by have e:=pp2 pb pi pd;rw[e];(try rfl)),(by have e:=pp2 pb pi pd;rw[e];(try rfl))⟩
  try simp only[BS]at b7
  refine aj (aa (zm (.int .u64 (m:Int)) (ad (v:=(.int .u64 (10 *(m:Int)))) (ap_mul rfl rfl (iD (n:=10 *(m:Int)) (by omega))) rfl rfl (zm (.string ⟨⟨s⟩⟩) (zm (iI (i:Int)) ?_)))));have c6:=cV (s.getD i 0);refine ad (v:=(.int .u8 ((s.getD i 0).toNat:Int))) (cM (j:=(i:Int)) rfl rfl rfl (by omega) (aU (by omega))) rfl rfl (ad (v:=(.int .u8 (((s.getD i 0).toNat-48:Nat):Int))) (ap_sub rfl rfl (natsub (a:=(s.getD i 0).toNat) (b:=48) (by omega) (w_u8 (by omega)))) rfl rfl (ad (v:=(.int .u64 (((s.getD i 0).toNat-48:Nat):Int))) (ap_cv rfl rfl rfl (iD (n:=(((s.getD i 0).toNat-48:Nat):Int)) (by omega))) rfl rfl (ad (v:=(.int .u64 ((10 *(m:Int))+(((s.getD i 0).toNat-48:Nat):Int)))) (dE rfl rfl (iD (n:=(10 *(m:Int))+(((s.getD i 0).toNat-48:Nat):Int)) (by omega))) rfl rfl (za (.int .u64 ((10 *(m:Int))+(((s.getD i 0).toNat-48:Nat):Int))) (ay ?_)))));refine dP (aj (aa (zm (iI (i:Int)) (ad (v:=(iI ((i:Int)+1))) (dE rfl rfl (eu (n:=(i:Int)+1) (by omega))) rfl rfl (za (iI ((i:Int)+1)) ?_)))));refine ay (aj ?_);refine cl _ _ _ ?_ ⟨i+1,(10 *m)+((s.getD i 0).toNat-48),rfl,⟨rfl,rfl,rfl,rfl,trivial⟩,rfl,(by omega),(by(rw[ig (by omega),h2])),(by(rw[eM (by omega),h3,a1l,jd];omega)),(by(rw[a1B];omega)),(by assumption)⟩;omega
 try simp only[BS]at ba
 have pi:=ba;refine cI (cI (dQ (aj (aH (aa ?_)))));refine za (.int .u64 9223372036854775807) (ay (aj (aH (aH (aa ?_)))));refine zm (.bool ((decide ((0:Int)<(s.length:Int)))&&(((s.getD 0 0).toNat:Int)==45))) (ay (aj (jX (v:=((decide ((0:Int)<(s.length:Int)))&&(((s.getD 0 0).toNat:Int)==45))) rfl Z rfl (aj (aH ?_)))));refine aH (aa (zm (.int .u64 (m:Int)) (zm (.int .u64 9223372036854775807) (ad (v:=(.bool (decide ((9223372036854775807:Int)<(m:Int))))) (a7 rfl rfl rfl rfl) rfl rfl (ay ?_)))));refine aj (cr (v:=(decide ((9223372036854775807:Int)<(m:Int)))) rfl rfl (fun bb=>?_) (fun bb=>?_))
 ·try simp only[BS]at bb
  have pm:=bb;refine aH (aa (za (iI 0) (za (.bool false) (ay (aj ?_)))));refine ah ⟨.inr rfl,_,rfl,0,false,rfl,rfl,(by have e:=pp3 pb pc h1 pi h2 h3;rw[e];(try rfl);split<;>first|rfl|(exfalso;omega)|exact wr1 (by omega)|exact wr2 (by omega)),(by have e:=pp3 pb pc h1 pi h2 h3;rw[e];(try rfl);split<;>first|rfl|(exfalso;omega)|exact wr1 (by omega)|exact wr2 (by omega))⟩
 try simp only[BS]at bb
 have pm:=bb;refine aj (aH (aH (aa (zm (.bool ((decide ((0:Int)<(s.length:Int)))&&(((s.getD 0 0).toNat:Int)==45))) (ay ?_)))));refine aj (jX (v:=((decide ((0:Int)<(s.length:Int)))&&(((s.getD 0 0).toNat:Int)==45))) rfl Z rfl (aj (aH (aa (zm (.int .u64 (m:Int)) ?_)))));refine ad (v:=(iI (IntKind.i64.wrap (m:Int)))) (ap_cv rfl rfl rfl rfl) rfl rfl (za (iI (IntKind.i64.wrap (m:Int))) (za (.bool true) (ay (aj (ah ⟨.inr rfl,_,rfl,IntKind.i64.wrap (m:Int),true,rfl,rfl,(by have e:=pp3 pb pc h1 pi h2 h3;rw[e];(try rfl);split<;>first|rfl|(exfalso;omega)|exact wr1 (by omega)|exact wr2 (by omega)),(by have e:=pp3 pb pc h1 pi h2 h3;rw[e];(try rfl);split<;>first|rfl|(exfalso;omega)|exact wr1 (by omega)|exact wr2 (by omega))⟩)))))
theorem num_bad{s:List UInt8}{i m:Nat}(hi:(i:Int)<(s.length:Int))(c:((((s.getD i 0).toNat:Int)<48\/57<((s.getD i 0).toNat:Int))\/(i:Int)=1/\((s.getD 0 0).toNat:Int)=48)\/18<(i:Int)):bz s m=none:=by
 rcases c with(c|⟨c,c'⟩)|c
 ·exact ps_bad (i:=i) (by omega) c
 ·rw[ps_zero (c48.1 c'),if_neg (by omega)]
 exact ps_len (by omega)
theorem kh{s:List UInt8}{i m most:Nat}(E:i<=s.length)(Y: ¬(i:Int)<(s.length:Int))(O:m=val (s.take i))(T:(s.take i).all eh=true)(V:i<=19)(U:2<=i->((s.getD 0 0).toNat:Int)≠48)(hs:s≠ []):bz s most=if m<=most then some m else none:=by
 obtain⟨z,A⟩:=fin_len E Y O T;have Z:1<=s.length:=by
  cases s with
  |nil=>exact absurd rfl hs
  |cons a l=>simp
 rw[ps_ok Z (by omega) A (fun e=>by
  rcases a0c i 2 with h|h
  ·omega
  exact absurd (c48.2 e) (U h)),←z]
theorem kg{most:Nat}:bz [] most=none:=by unfold bz;rw[if_neg];rintro⟨h,_⟩;cases h
theorem ke(s:List UInt8)(most:Nat)(H:Heap)(b3:most<18446744073709551616):kKt ex 26 [(.string ⟨⟨s⟩⟩),(.int .u64 (most:Int))] H fun v H'=> ∃(r:Int) (ok:Bool),H'=H/\v= .tuple ⟨[.int .u64 r,.bool ok]⟩/\r=(((bz s most).getD 0:Nat):Int)/\ok=(bz s most).isSome:=by
 refine aD Try.func26 rfl rfl (aH (aa (za (.int .u64 0) (za (.bool false) (ay ?_)))));refine aj (aH (aa (za (.int .u64 0) (ay (aj ?_)))));refine aH (aH (aa (za (iI 0) (ay (aj ?_)))));refine eC (aA (fun(mm:Nat) f H'=> ∃(i:Nat) (m:Nat),H'=H/\aX f [(0,(.string ⟨⟨s⟩⟩)),(1,(.int .u64 (most:Int))),(6,(.int .u64 (m:Int))),(7,(iI (i:Int)))]/\mm=s.length-i/\(i<=s.length)/\(m=val (s.take i))/\((s.take i).all eh=true)/\(m<10^i)/\(2<=i->((s.getD 0 0).toNat:Int)≠48)/\(i<=19)) _ ⟨0,0,rfl,⟨rfl,rfl,rfl,rfl,trivial⟩,rfl,(by omega),(by rfl),(by rfl),(by decide),(by intro hh;first|omega|(rcases a0c i 2 with h|h;exact pc.1.2 (by omega);exact h5 h)),(by omega)⟩ ?_);rintro b2 f1 H ⟨i,m,rfl,a8,rfl,h1,h2,h3,h4,h5,h6⟩ a9;refine aN _ a8 (fun _=>?_);clear a8;refine aH (aH (aa (zm (iI (i:Int)) (zm (.string ⟨⟨s⟩⟩) (ad (v:=(iI (s.length:Int))) (ee rfl rfl) rfl rfl ?_)))));refine ad (v:=(.bool (decide ((i:Int)<(s.length:Int))))) (a7 rfl rfl rfl rfl) rfl rfl (ay (aj (cr (v:=(decide ((i:Int)<(s.length:Int)))) rfl rfl (fun c2=>?_) (fun c2=>?_))))
 ·try simp only[BS]at c2
  have pi:=c2;refine aj (aH (eC (aH (aH (bn 14 36 [] [(36,(.bool ((((decide (((s.getD i 0).toNat:Int)<48))||(decide ((57:Int)<((s.getD i 0).toNat:Int))))||(((i:Int)==1)&&(((s.getD 0 0).toNat:Int)==48)))||(decide ((18:Int)<(i:Int))))))] (fun H'=>H'=H) ?_ ?_)))))
  ·refine aa (zm (.string ⟨⟨s⟩⟩) (zm (iI (i:Int)) ?_));have bb:=cV (s.getD i 0);refine ad (v:=(.int .u8 ((s.getD i 0).toNat:Int))) (cM (j:=(i:Int)) rfl rfl rfl (by omega) (aU (by omega))) rfl rfl (ad (v:=(.bool (decide (((s.getD i 0).toNat:Int)<48)))) (a7 rfl rfl rfl rfl) rfl rfl (zm (.bool (decide (((s.getD i 0).toNat:Int)<48))) (cN (v:=(decide (((s.getD i 0).toNat:Int)<48))) rfl rfl (fun E=>?_) (fun E=>?_))))
   ·have a0:=E;try simp only[BS]at a0
    refine zm (.string ⟨⟨s⟩⟩) (aC rfl E (zm (iI (i:Int)) (aC rfl E ?_)));have bl:=cV (s.getD i 0);refine ad (v:=(.int .u8 ((s.getD i 0).toNat:Int))) (cM (j:=(i:Int)) rfl rfl rfl (by omega) (aU (by omega))) rfl rfl (aC rfl E (ad (v:=(.bool (decide ((57:Int)<((s.getD i 0).toNat:Int))))) (a7 rfl rfl rfl rfl) rfl rfl (ad (v:=(.bool (decide ((57:Int)<((s.getD i 0).toNat:Int))))) (au rfl E rfl) rfl rfl (zm (.bool (decide ((57:Int)<((s.getD i 0).toNat:Int)))) (cN (v:=(decide ((57:Int)<((s.getD i 0).toNat:Int)))) rfl rfl (fun A=>?_) (fun A=>?_))))))
    ·have a1:=A;try simp only[BS]at a1
     refine zm (iI (i:Int)) (aC rfl A (ad (v:=(.bool ((i:Int)==1))) (a7 rfl rfl rfl rfl) rfl rfl (aC rfl A (zm (.bool ((i:Int)==1)) (dz (v:=((i:Int)==1)) rfl rfl (fun T=>?_) (fun T=>?_))))))
     ·have a2:=T;try simp only[BS]at a2
      refine zm (.string ⟨⟨s⟩⟩) (aC rfl T ?_);have b0:=cV (s.getD 0 0);refine ad (v:=(.int .u8 ((s.getD 0 0).toNat:Int))) (cM (j:=0) rfl rfl rfl (by decide) (aU (by omega))) rfl rfl (aC rfl T (ad (v:=(.bool (((s.getD 0 0).toNat:Int)==48))) (a7 rfl rfl rfl rfl) rfl rfl (aC rfl A (ad (v:=(.bool (((s.getD 0 0).toNat:Int)==48))) (ao rfl T rfl) rfl rfl (ad (v:=(.bool (((s.getD 0 0).toNat:Int)==48))) (au rfl A rfl) rfl rfl ?_)))));refine zm (.bool (((s.getD 0 0).toNat:Int)==48)) (cN (v:=(((s.getD 0 0).toNat:Int)==48)) rfl rfl (fun O=>?_) (fun O=>?_))
      ·have Y:=O;try simp only[BS]at Y
       refine zm (iI (i:Int)) (aC rfl O (ad (v:=(.bool (decide ((18:Int)<(i:Int))))) (a7 rfl rfl rfl rfl) rfl rfl (ad (v:=(.bool (decide ((18:Int)<(i:Int))))) (au rfl O rfl) rfl rfl (ay ?_))));exact ai ⟨rfl,rfl,(by repeat' first|exact Lr|refine Lu rfl ?_),(agC (congrArg Value.bool (show(decide ((18:Int)<(i:Int)))=((((decide (((s.getD i 0).toNat:Int)<48))||(decide ((57:Int)<((s.getD i 0).toNat:Int))))||(((i:Int)==1)&&(((s.getD 0 0).toNat:Int)==48)))||(decide ((18:Int)<(i:Int)))) by simp only[↓E,↓A,↓T,↓O,BT])) agN)⟩
      have Y:=O;try simp only[BS]at Y
      refine ag rfl O rfl (ad (v:=(.bool true)) (ao rfl O rfl) rfl rfl (ay ?_));exact ai ⟨rfl,rfl,(by repeat' first|exact Lr|refine Lu rfl ?_),(agC (congrArg Value.bool (show true=((((decide (((s.getD i 0).toNat:Int)<48))||(decide ((57:Int)<((s.getD i 0).toNat:Int))))||(((i:Int)==1)&&(((s.getD 0 0).toNat:Int)==48)))||(decide ((18:Int)<(i:Int)))) by simp only[↓E,↓A,↓T,↓O,BT])) agN)⟩
     have a2:=T;try simp only[BS]at a2
     refine bm rfl T rfl (bm rfl T rfl (aC rfl A (ad (v:=(.bool false)) (au rfl T rfl) rfl rfl (ad (v:=(.bool false)) (au rfl A rfl) rfl rfl (zm (.bool false) ?_)))));refine aC rfl rfl (zm (iI (i:Int)) (aC rfl rfl (ad (v:=(.bool (decide ((18:Int)<(i:Int))))) (a7 rfl rfl rfl rfl) rfl rfl (ad (v:=(.bool (decide ((18:Int)<(i:Int))))) (au rfl rfl rfl) rfl rfl (ay ?_)))));exact ai ⟨rfl,rfl,(by repeat' first|exact Lr|refine Lu rfl ?_),(agC (congrArg Value.bool (show(decide ((18:Int)<(i:Int)))=((((decide (((s.getD i 0).toNat:Int)<48))||(decide ((57:Int)<((s.getD i 0).toNat:Int))))||(((i:Int)==1)&&(((s.getD 0 0).toNat:Int)==48)))||(decide ((18:Int)<(i:Int)))) by simp only[↓E,↓A,↓T,BT])) agN)⟩
    have a1:=A;try simp only[BS]at a1
    refine ag rfl A rfl (ag rfl A rfl (cF rfl rfl (cF rfl rfl (cF rfl rfl (ag rfl A rfl ?_)))));refine ad (v:=(.bool true)) (ao rfl A rfl) rfl rfl (zm (.bool true) (ag rfl rfl rfl (ag rfl rfl rfl (ad (v:=(.bool true)) (ao rfl rfl rfl) rfl rfl (ay ?_)))));exact ai ⟨rfl,rfl,(by repeat' first|exact Lr|refine Lu rfl ?_),(agC (congrArg Value.bool (show true=((((decide (((s.getD i 0).toNat:Int)<48))||(decide ((57:Int)<((s.getD i 0).toNat:Int))))||(((i:Int)==1)&&(((s.getD 0 0).toNat:Int)==48)))||(decide ((18:Int)<(i:Int)))) by simp only[↓E,↓A,BT])) agN)⟩
   have a0:=E;try simp only[BS]at a0
   refine ag rfl E rfl (ag rfl E rfl (ag rfl E rfl (ad (v:=(.bool true)) (ao rfl E rfl) rfl rfl (zm (.bool true) (ag rfl rfl rfl ?_)))));refine ag rfl rfl rfl (ag rfl rfl rfl (cF rfl rfl (cF rfl rfl (cF rfl rfl (ag rfl rfl rfl ?_)))));refine ad (v:=(.bool true)) (ao rfl rfl rfl) rfl rfl (zm (.bool true) (ag rfl rfl rfl (ag rfl rfl rfl (ad (v:=(.bool true)) (ao rfl rfl rfl) rfl rfl (ay ?_)))));exact ai ⟨rfl,rfl,(by repeat' first|exact Lr|refine Lu rfl ?_),(agC (congrArg Value.bool (show true=((((decide (((s.getD i 0).toNat:Int)<48))||(decide ((57:Int)<((s.getD i 0).toNat:Int))))||(((i:Int)==1)&&(((s.getD 0 0).toNat:Int)==48)))||(decide ((18:Int)<(i:Int)))) by simp only[↓E,BT])) agN)⟩
  skip;rintro g3 H rfl;refine aj (cr (v:=((((decide (((s.getD i 0).toNat:Int)<48))||(decide ((57:Int)<((s.getD i 0).toNat:Int))))||(((i:Int)==1)&&(((s.getD 0 0).toNat:Int)==48)))||(decide ((18:Int)<(i:Int))))) rfl rfl (fun U=>?_) (fun U=>?_))
  ·try simp only[BS]at U
   have pc:=U;refine aH (aa (za (.int .u64 0) (za (.bool false) (ay (aj ?_)))));refine ah ⟨.inr rfl,_,rfl,0,false,rfl,rfl,(by have e:=num_bad (m:=most) pi pc;rw[e];(try rfl)),(by have e:=num_bad (m:=most) pi pc;rw[e];(try rfl))⟩
  try simp only[BS]at U
  have pc:=U;have hp:=pow_le (show i<=18 by omega);refine aj (aa (zm (.int .u64 (m:Int)) (ad (v:=(.int .u64 (10 *(m:Int)))) (ap_mul rfl rfl (iD (n:=10 *(m:Int)) (by omega))) rfl rfl (zm (.string ⟨⟨s⟩⟩) (zm (iI (i:Int)) ?_)))));have ba:=cV (s.getD i 0);refine ad (v:=(.int .u8 ((s.getD i 0).toNat:Int))) (cM (j:=(i:Int)) rfl rfl rfl (by omega) (aU (by omega))) rfl rfl (ad (v:=(.int .u8 (((s.getD i 0).toNat-48:Nat):Int))) (ap_sub rfl rfl (natsub (a:=(s.getD i 0).toNat) (b:=48) (by omega) (w_u8 (by omega)))) rfl rfl (ad (v:=(.int .u64 (((s.getD i 0).toNat-48:Nat):Int))) (ap_cv rfl rfl rfl (iD (n:=(((s.getD i 0).toNat-48:Nat):Int)) (by omega))) rfl rfl (ad (v:=(.int .u64 ((10 *(m:Int))+(((s.getD i 0).toNat-48:Nat):Int)))) (dE rfl rfl (iD (n:=(10 *(m:Int))+(((s.getD i 0).toNat-48:Nat):Int)) (by omega))) rfl rfl (za (.int .u64 ((10 *(m:Int))+(((s.getD i 0).toNat-48:Nat):Int))) (ay ?_)))));refine dP (aj (aa (zm (iI (i:Int)) (ad (v:=(iI ((i:Int)+1))) (dE rfl rfl (eu (n:=(i:Int)+1) (by omega))) rfl rfl (za (iI ((i:Int)+1)) ?_)))));refine ay (aj ?_);refine a9 _ _ _ ?_ ⟨i+1,(10 *m)+((s.getD i 0).toNat-48),rfl,⟨rfl,rfl,rfl,rfl,trivial⟩,rfl,(by omega),(by(rw[ig (by omega),h2])),(by(rw[eM (by omega),h3,a1l,jd];omega)),(by(rw[a1B];omega)),(by intro hh;first|omega|(rcases a0c i 2 with h|h;exact pc.1.2 (by omega);exact h5 h)),(by omega)⟩;omega
 try simp only[BS]at c2
 have pi:=c2;refine cI (cI (dQ (aj (aH (aH ?_)))));refine bn 45 51 [] [(51,(.bool ((s==[])||(decide ((most:Int)<(m:Int))))))] (fun H'=>H'=H) ?_ ?_
 ·refine aa (zm (.string ⟨⟨s⟩⟩) (ad (v:=(.bool (s==[]))) (ap_eqS rfl rfl) rfl rfl (zm (.bool (s==[])) (cN (v:=(s==[])) rfl rfl (fun z=>?_) (fun z=>?_)))))
  ·have Z:=z;try simp only[BS]at Z
   refine zm (.int .u64 (m:Int)) (aC rfl z (zm (.int .u64 (most:Int)) (aC rfl z (ad (v:=(.bool (decide ((most:Int)<(m:Int))))) (a7 rfl rfl rfl rfl) rfl rfl (ad (v:=(.bool (decide ((most:Int)<(m:Int))))) (au rfl z rfl) rfl rfl ?_)))));refine ay ?_;exact ai ⟨rfl,rfl,(by repeat' first|exact Lr|refine Lu rfl ?_),(agC (congrArg Value.bool (show(decide ((most:Int)<(m:Int)))=((s==[])||(decide ((most:Int)<(m:Int)))) by simp only[↓z,BT])) agN)⟩
  have Z:=z;try simp only[BS]at Z
  refine ag rfl z rfl (ag rfl z rfl (ad (v:=(.bool true)) (ao rfl z rfl) rfl rfl (ay ?_)));exact ai ⟨rfl,rfl,(by repeat' first|exact Lr|refine Lu rfl ?_),(agC (congrArg Value.bool (show true=((s==[])||(decide ((most:Int)<(m:Int)))) by simp only[↓z,BT])) agN)⟩
 skip;rintro b1 H rfl;refine aj (cr (v:=((s==[])||(decide ((most:Int)<(m:Int))))) rfl rfl (fun V=>?_) (fun V=>?_))
 ·try simp only[BS]at V
  have pm:=V;refine aH (aa (za (.int .u64 0) (za (.bool false) (ay (aj ?_)))));refine ah ⟨.inr rfl,_,rfl,0,false,rfl,rfl,(by rcases pm with pm|pm;(subst pm;rw[kg];rfl);(by_cases hs:s=[];(subst hs;rw[kg];rfl));have e:=kh (most:=most) h1 pi h2 h3 h6 h5 hs;rw[e];(try rfl);split<;>first|rfl|(exfalso;omega)),(by rcases pm with pm|pm;(subst pm;rw[kg];rfl);(by_cases hs:s=[];(subst hs;rw[kg];rfl));have e:=kh (most:=most) h1 pi h2 h3 h6 h5 hs;rw[e];(try rfl);split<;>first|rfl|(exfalso;omega))⟩
 try simp only[BS]at V
 have pm:=V;refine aj (aH (aa (zm (.int .u64 (m:Int)) (za (.int .u64 (m:Int)) (za (.bool true) ?_)))));refine ay (aj (ah ⟨.inr rfl,_,rfl,(m:Int),true,rfl,rfl,(by have e:=kh (most:=most) h1 pi h2 h3 h6 h5 pm.1;rw[e];(try rfl);split<;>first|rfl|(exfalso;omega)),(by have e:=kh (most:=most) h1 pi h2 h3 h6 h5 pm.1;rw[e];(try rfl);split<;>first|rfl|(exfalso;omega))⟩))
theorem rp1{s:List UInt8}(c:s=[]\/((s.getD 0 0).toNat:Int)≠45):aE s=(bz s 9223372036854775807).map fun n=>(n:Int):=by
 apply j9;intro h;rcases c with rfl|c
 ·simp at h
 exact c
theorem rp1'{o:Option Nat}:((o.getD 0:Nat):Int)=(o.map fun n=>(n:Int)).getD 0/\o.isSome=(o.map fun n=>(n:Int)).isSome:=by cases o<;>exact⟨rfl,rfl⟩
theorem pos_le{s:List UInt8}{m:Nat}:(bz s m).getD 0<=m:=by
 unfold bz;split
 ·rename_i h;exact h.2
 exact a0t _
theorem rp2{s:List UInt8}(c:s≠ []/\((s.getD 0 0).toNat:Int)=45):aE s=sgn (bz (s.drop 1) 9223372036854775808):=by
 apply ka;refine⟨?_,c.2⟩;cases s with
 |nil=>exact absurd rfl c.1
 |cons a l=>simp
theorem rp3{o:Option Nat}(c:o.isSome=false\/((o.getD 0:Nat):Int)=0):sgn o=none:=by
 cases o with
 |none=>rfl
 |some n=>
  rcases c with c|c
  ·cases c
  have:n=0:=by simpa using c
  subst this;rfl
theorem rp4{o:Option Nat}(c:o.isSome=true/\((o.getD 0:Nat):Int)≠0):0-((o.getD 0:Nat)-1:Int)-1=(sgn o).getD 0/\true=(sgn o).isSome:=by
 cases o with
 |none=>cases c.1
 |some n=>
  have z:n≠0:=fun e=>c.2 (by rw[e];rfl)
  rw[sgn_of (by omega)]
  refine⟨?_,rfl⟩
  show 0-((n:Int)-1)-1= -(n:Int)
  omega
theorem rparse_c(s:List UInt8)(H:Heap):kKt ex 114 [(.string ⟨⟨s⟩⟩)] H fun v H'=> ∃(r:Int) (ok:Bool),H'=H/\v= .tuple ⟨[.int .i64 r,.bool ok]⟩/\r=(aE s).getD 0/\ok=(aE s).isSome:=by
 refine aD Try.func114 rfl rfl (aH (aa (za (iI 0) (za (.bool false) (ay ?_)))));refine aj (aH (aH (bn 8 14 [] [(14,(.bool ((s==[])||(((s.getD 0 0).toNat:Int) !=45))))] (fun H'=>H'=H) ?_ ?_)))
 ·refine aa (zm (.string ⟨⟨s⟩⟩) (ad (v:=(.bool (s==[]))) (ap_eqS rfl rfl) rfl rfl (zm (.bool (s==[])) (cN (v:=(s==[])) rfl rfl (fun z=>?_) (fun z=>?_)))))
  ·have T:=z;try simp only[BS]at T
   refine zm (.string ⟨⟨s⟩⟩) (aC rfl z ?_);have V:=cV (s.getD 0 0);refine ad (v:=(.int .u8 ((s.getD 0 0).toNat:Int))) (cM (j:=0) rfl rfl rfl (by decide) (aU (by(have:=a1d.2 (by assumption:s≠ []);omega)))) rfl rfl (aC rfl z (ad (v:=(.bool (((s.getD 0 0).toNat:Int) !=45))) (a7 rfl rfl rfl rfl) rfl rfl (ad (v:=(.bool (((s.getD 0 0).toNat:Int) !=45))) (au rfl z rfl) rfl rfl (ay ?_))));exact ai ⟨rfl,rfl,(by repeat' first|exact Lr|refine Lu rfl ?_),(agC (congrArg Value.bool (show(((s.getD 0 0).toNat:Int) !=45)=((s==[])||(((s.getD 0 0).toNat:Int) !=45)) by simp only[↓z,BT])) agN)⟩
  have T:=z;try simp only[BS]at T
  refine ag rfl z rfl (ag rfl z rfl (ad (v:=(.bool true)) (ao rfl z rfl) rfl rfl (ay ?_)));exact ai ⟨rfl,rfl,(by repeat' first|exact Lr|refine Lu rfl ?_),(agC (congrArg Value.bool (show true=((s==[])||(((s.getD 0 0).toNat:Int) !=45)) by simp only[↓z,BT])) agN)⟩
 skip;rintro g1 H rfl;refine aj (cr (v:=((s==[])||(((s.getD 0 0).toNat:Int) !=45))) rfl rfl (fun E=>?_) (fun E=>?_))
 ·try simp only[BS]at E
  have pb:=E;refine aH (aa (zm (.string ⟨⟨s⟩⟩) (zc (ke ex s 9223372036854775807 _ (by decide)) ?_)));rintro _ H ⟨r5,Y,rfl,rfl,rfl,rfl⟩;refine zm (.tuple ⟨[(.int .u64 (((bz s 9223372036854775807).getD 0:Nat):Int)),(.bool (bz s 9223372036854775807).isSome)]⟩) (ad (v:=(.int .u64 (((bz s 9223372036854775807).getD 0:Nat):Int))) (ap_ex rfl rfl) rfl rfl (ad (v:=(.bool (bz s 9223372036854775807).isSome)) (ap_ex rfl rfl) rfl rfl (za (.int .u64 (((bz s 9223372036854775807).getD 0:Nat):Int)) (za (.bool (bz s 9223372036854775807).isSome) (ay ?_)))));refine aj (aH (aa (zm (.int .u64 (((bz s 9223372036854775807).getD 0:Nat):Int)) (ad (v:=(iI (((bz s 9223372036854775807).getD 0:Nat):Int))) (ap_cv rfl rfl rfl (eu (n:=(((bz s 9223372036854775807).getD 0:Nat):Int)) (by(have:= @pos_le s 9223372036854775807;omega)))) rfl rfl (zm (.bool (bz s 9223372036854775807).isSome) ?_)))));refine za (iI (((bz s 9223372036854775807).getD 0:Nat):Int)) (za (.bool (bz s 9223372036854775807).isSome) (ay (aj (ah ⟨.inr rfl,_,rfl,(((bz s 9223372036854775807).getD 0:Nat):Int),(bz s 9223372036854775807).isSome,rfl,rfl,((rp1 pb▸rp1'.1)),((rp1 pb▸rp1'.2))⟩))))
 try simp only[BS]at E
 have pb:=E;refine aj (aH (aa (zm (.string ⟨⟨s⟩⟩) (ad (v:=(.string ⟨⟨s.drop 1⟩⟩)) (ap_slSd (i:=1) rfl rfl (optN (by decide)) (by(obtain⟨pb1,_⟩:=pb;have:=a1d.2 pb1;omega))) rfl rfl (zc (ke ex (s.drop 1) 9223372036854775808 _ (by decide)) ?_)))));rintro _ H ⟨r6,Z,rfl,rfl,rfl,rfl⟩;refine zm (.tuple ⟨[(.int .u64 (((bz (s.drop 1) 9223372036854775808).getD 0:Nat):Int)),(.bool (bz (s.drop 1) 9223372036854775808).isSome)]⟩) (ad (v:=(.int .u64 (((bz (s.drop 1) 9223372036854775808).getD 0:Nat):Int))) (ap_ex rfl rfl) rfl rfl (ad (v:=(.bool (bz (s.drop 1) 9223372036854775808).isSome)) (ap_ex rfl rfl) rfl rfl (za (.int .u64 (((bz (s.drop 1) 9223372036854775808).getD 0:Nat):Int)) (za (.bool (bz (s.drop 1) 9223372036854775808).isSome) (ay ?_)))));refine aj (aH (aH (bn 29 34 [] [(34,(.bool ((!(bz (s.drop 1) 9223372036854775808).isSome)||((((bz (s.drop 1) 9223372036854775808).getD 0:Nat):Int)==0))))] (fun H'=>H'=H) ?_ ?_)))
 ·refine aa (zm (.bool (bz (s.drop 1) 9223372036854775808).isSome) (ad (v:=(.bool (!(bz (s.drop 1) 9223372036854775808).isSome))) (bH rfl) rfl rfl (zm (.bool (!(bz (s.drop 1) 9223372036854775808).isSome)) (cN (v:=(!(bz (s.drop 1) 9223372036854775808).isSome)) rfl rfl (fun A=>?_) (fun A=>?_)))))
  ·have U:=A;try simp only[BS]at U
   refine zm (.int .u64 (((bz (s.drop 1) 9223372036854775808).getD 0:Nat):Int)) (aC rfl A (ad (v:=(.bool ((((bz (s.drop 1) 9223372036854775808).getD 0:Nat):Int)==0))) (a7 rfl rfl rfl rfl) rfl rfl (ad (v:=(.bool ((((bz (s.drop 1) 9223372036854775808).getD 0:Nat):Int)==0))) (au rfl A rfl) rfl rfl (ay ?_))));exact ai ⟨rfl,rfl,(by repeat' first|exact Lr|refine Lu rfl ?_),(agC (congrArg Value.bool (show((((bz (s.drop 1) 9223372036854775808).getD 0:Nat):Int)==0)=((!(bz (s.drop 1) 9223372036854775808).isSome)||((((bz (s.drop 1) 9223372036854775808).getD 0:Nat):Int)==0)) by simp only[↓A,BT])) agN)⟩
  have U:=A;try simp only[BS]at U
  refine ag rfl A rfl (ad (v:=(.bool true)) (ao rfl A rfl) rfl rfl (ay ?_));exact ai ⟨rfl,rfl,(by repeat' first|exact Lr|refine Lu rfl ?_),(agC (congrArg Value.bool (show true=((!(bz (s.drop 1) 9223372036854775808).isSome)||((((bz (s.drop 1) 9223372036854775808).getD 0:Nat):Int)==0)) by simp only[↓A,BT])) agN)⟩
 skip;rintro g7 H rfl;refine aj (cr (v:=((!(bz (s.drop 1) 9223372036854775808).isSome)||((((bz (s.drop 1) 9223372036854775808).getD 0:Nat):Int)==0))) rfl rfl (fun O=>?_) (fun O=>?_))
 ·try simp only[BS]at O
  have pc:=O;refine aH (aa (za (iI 0) (za (.bool false) (ay (aj ?_)))));refine ah ⟨.inr rfl,_,rfl,0,false,rfl,rfl,(by rw[rp2 pb,rp3 pc];rfl),(by rw[rp2 pb,rp3 pc];rfl)⟩
 try simp only[BS]at O
 have pc:=O;refine aj (aH (aa (zm (.int .u64 (((bz (s.drop 1) 9223372036854775808).getD 0:Nat):Int)) (ad (v:=(.int .u64 ((((bz (s.drop 1) 9223372036854775808).getD 0:Nat):Int)-1))) (ap_sub rfl rfl (iD (n:=(((bz (s.drop 1) 9223372036854775808).getD 0:Nat):Int)-1) (by(have:= @pos_le (s.drop 1) 9223372036854775808;have:=pc.2;omega)))) rfl rfl (ad (v:=(iI ((((bz (s.drop 1) 9223372036854775808).getD 0:Nat):Int)-1))) (ap_cv rfl rfl rfl (eu (n:=(((bz (s.drop 1) 9223372036854775808).getD 0:Nat):Int)-1) (by(have:= @pos_le (s.drop 1) 9223372036854775808;have:=pc.2;omega)))) rfl rfl ?_)))));refine ad (v:=(iI (0-((((bz (s.drop 1) 9223372036854775808).getD 0:Nat):Int)-1)))) (ap_ng rfl (eu (by(have:= @pos_le (s.drop 1) 9223372036854775808;have:=pc.2;omega)))) rfl rfl (ad (v:=(iI ((0-((((bz (s.drop 1) 9223372036854775808).getD 0:Nat):Int)-1))-1))) (ap_sub rfl rfl (eu (n:=(0-((((bz (s.drop 1) 9223372036854775808).getD 0:Nat):Int)-1))-1) (by(have:= @pos_le (s.drop 1) 9223372036854775808;have:=pc.2;omega)))) rfl rfl (za (iI ((0-((((bz (s.drop 1) 9223372036854775808).getD 0:Nat):Int)-1))-1)) (za (.bool true) (ay (aj ?_)))));refine ah ⟨.inr rfl,_,rfl,(0-((((bz (s.drop 1) 9223372036854775808).getD 0:Nat):Int)-1))-1,true,rfl,rfl,(by rw[rp2 pb];first|exact(rp4 pc).1|exact(rp4 pc).2),(by rw[rp2 pb];first|exact(rp4 pc).1|exact(rp4 pc).2)⟩
theorem iS(s:List UInt8)(H:Heap):kKt ex 57 [(.string ⟨⟨s⟩⟩)] H fun v H'=>v= .tuple ⟨[.int .i64 ((aE s).getD 0),.bool (aE s).isSome]⟩/\H'=H:=cq (parse_c ex s H) (by rintro _ _ ⟨_,_,rfl,rfl,rfl,rfl⟩;exact⟨rfl,rfl⟩)
theorem jC(s:List UInt8)(most:Nat)(H:Heap)(h:most<18446744073709551616):kKt ex 26 [(.string ⟨⟨s⟩⟩),(.int .u64 (most:Int))] H fun v H'=>v= .tuple ⟨[.int .u64 (((bz s most).getD 0:Nat):Int),.bool (bz s most).isSome]⟩/\H'=H:=cq (ke ex s most H h) (by rintro _ _ ⟨_,_,rfl,rfl,rfl,rfl⟩;exact⟨rfl,rfl⟩)
theorem jA(s:List UInt8)(H:Heap):kKt ex 114 [(.string ⟨⟨s⟩⟩)] H fun v H'=>v= .tuple ⟨[.int .i64 ((aE s).getD 0),.bool (aE s).isSome]⟩/\H'=H:=cq (rparse_c ex s H) (by rintro _ _ ⟨_,_,rfl,rfl,rfl,rfl⟩;exact⟨rfl,rfl⟩)
end Go.Proofs.Ytapgbjedgcpffaa.w3
