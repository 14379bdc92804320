/-
Texts of words: writing and reading them, program and reference. No condition but that numbers are words.
-/
import Derived.Test.YtapgbjedgcpffaaZNL1
import Derived.Test.YtapgbjedgcpffaaZNW1
noncomputable section
namespace Go.Proofs.Ytapgbjedgcpffaa.w3
open Go.R
set_option maxRecDepth 10000
set_option linter.unusedVariables false
set_option linter.unusedSimpArgs false
variable (ex:FuncId) {F:Fz} {H:Heap} {R:List Fp}
open w1
theorem pow_le{i k:Nat}(h:i<=k):10^i<=10^k:=Nat.pow_le_pow_right (by decide) h
theorem w_tail{s:List UInt8}:s.tail=s.drop 1:=by cases s<;>rfl
theorem ca{t:List UInt8}:eg t=true↔1<=t.length/\t.length<=19/\t.all dw=true/\(t.getD 0 0=48->t.length=1):=by
 unfold eg;have e:t.headD 0=t.getD 0 0:=by cases t<;>rfl
 rw[e];simp only[a04,a0V,decide_eq_true_eq,bne_iff_ne,ne_eq,beq_iff_eq,and_assoc];constructor
 ·rintro⟨A,E,O,z⟩;exact⟨A,E,O,fun h=>by rcases z with z|z;exact absurd h z;exact z⟩
 rintro⟨A,E,O,z⟩;exact⟨A,E,O,by by_cases h:t.getD 0 0=48;exact .inr (z h);exact .inl h⟩
theorem im{c:UInt8}:dw c=true↔48<=c.toNat/\c.toNat<=57:=by simp[dw]
theorem u8eq{c:UInt8}{n:Nat}(h:n<256):(c.toNat:Int)=(n:Int)↔c=UInt8.ofNat n:=by
 constructor
 ·intro z;apply UInt8.toNat_inj.1;rw[UInt8.toNat_ofNat'];omega
 rintro rfl;rw[UInt8.toNat_ofNat'];omega
theorem tx0{l:List UInt8}(h:l.length<=20):([45]:List UInt8).length+l.length<=1099511627776:=by simp;omega
theorem dec_le{n:Int}(h:0<=n/\n<18446744073709551616):(dec n.toNat).length<=20:=dec_len 19 _ (by omega)
theorem head_getD{t:List UInt8}:t.headD 0=t.getD 0 0:=by cases t<;>rfl
theorem c48{c:UInt8}:(c.toNat:Int)=48↔c=48:=u8eq (n:=48) (by decide)
theorem c45{c:UInt8}:(c.toNat:Int)=45↔c=45:=u8eq (n:=45) (by decide)
def sgn:Option Nat->Option Int
 |some 0=>none
 |some n=>some (-(n:Int))
 |none=>none
theorem parse_b{s:List UInt8}(h:0<(s.length:Int)/\((s.getD 0 0).toNat:Int)=45):av s=sgn (posS (s.drop 1) 9223372036854775808):=by
 unfold av;rw[head_getD,if_pos (c45.1 h.2),w_tail];cases posS (s.drop 1) 9223372036854775808 with
 |none=>rfl
 |some n=>cases n<;>rfl
theorem parse_p{s:List UInt8}(h:0<(s.length:Int)->((s.getD 0 0).toNat:Int)≠45):av s=(posS s 9223372036854775807).map fun n=>(n:Int):=by
 unfold av;have:s.headD 0≠45:=by
  rw[head_getD];intro e;cases s with
  |nil=>cases e
  |cons a l=>exact h (by simp) (c45.2 e)
 rw[if_neg this];cases posS s 9223372036854775807<;>rfl
theorem ps_len{t:List UInt8}{m:Nat}(h:t.length<1\/19<t.length):posS t m=none:=by unfold posS;rw[if_neg];rintro⟨z,_⟩;obtain⟨A,E,_⟩:=ca.1 z;omega
theorem ps_zero{t:List UInt8}{m:Nat}(h:t.getD 0 0=48):posS t m=if t.length=1 then some 0 else none:=by
 unfold posS;split
 ·rename_i z;obtain⟨A,O,T,E⟩:=ca.1 z.1;rw[if_pos (E h)];match t,E h with
  | [a],_=>
   have:a=48:=h
   subst this;rfl
 rename_i z;split
 ·rename_i A;exfalso;apply z;match t,A with
  | [a],_=>
   have:a=48:=h
   subst this;exact⟨by decide,by show 0<=m;omega⟩
 rfl
theorem ps_bad{t:List UInt8}{i m:Nat}(hi:i<t.length)(h:((t.getD i 0).toNat:Int)<48\/57<((t.getD i 0).toNat:Int)):posS t m=none:=by unfold posS;rw[if_neg];rintro⟨z,_⟩;obtain⟨_,_,A,_⟩:=ca.1 z;have:=im.1 (a0f.1 A (t.getD i 0) (a0j (cp hi)));omega
theorem ps_ok{t:List UInt8}{m:Nat}(z:1<=t.length)(A:t.length<=19)(E:t.all dw=true)(O:t.getD 0 0=48->t.length=1):posS t m=if val t<=m then some (val t) else none:=by unfold posS;have:eg t=true:=ca.2 ⟨z,A,E,O⟩;simp only[this,true_and]
theorem wr1{m:Nat}(h:m<=9223372036854775808):IntKind.i64.wrap (IntKind.u64.wrap (0-(m:Int)))= -(m:Int):=by rw[u64_eq,IntKind.wrap_i64];omega
theorem wr2{m:Nat}(h:m<=9223372036854775807):IntKind.i64.wrap (m:Int)=(m:Int):=w_i64 ⟨by omega,by omega⟩
theorem sgn_of{n:Nat}(h:0<n):sgn (some n)=some (-(n:Int)):=by
 cases n with
 |zero=>omega
 |succ n=>rfl
theorem pb1{s:List UInt8}{q:Prop}(h:0<(s.length:Int)/\((s.getD 0 0).toNat:Int)=45)(c:(((s.drop 1).length:Int)<1\/19<((s.drop 1).length:Int))\/(((s.drop 1).getD 0 0).toNat:Int)=48/\q):av s=none:=by
 rw[parse_b h];rcases c with c|⟨c,_⟩
 ·rw[ps_len (by omega)];rfl
 rw[ps_zero (c48.1 c)];split<;>rfl
theorem pp1{s:List UInt8}(h:0<(s.length:Int)->((s.getD 0 0).toNat:Int)≠45)(c:((s.length:Int)<1\/19<(s.length:Int))\/((s.getD 0 0).toNat:Int)=48/\(1<(s.length:Int)\/0<(s.length:Int)/\((s.getD 0 0).toNat:Int)=45)):av s=none:=by
 rw[parse_p h];rcases c with c|⟨c,c'⟩
 ·rw[ps_len (by omega)];rfl
 rw[ps_zero (c48.1 c),if_neg (by rcases c' with c'|⟨c1,c2⟩;omega;exact absurd c2 (h c1))];rfl
theorem pb2{s:List UInt8}{i:Nat}(h:0<(s.length:Int)/\((s.getD 0 0).toNat:Int)=45)(hi:(i:Int)<((s.drop 1).length:Int))(c:(((s.drop 1).getD i 0).toNat:Int)<48\/57<(((s.drop 1).getD i 0).toNat:Int)):av s=none:=by rw[parse_b h,ps_bad (i:=i) (by omega) c];rfl
theorem pp2{s:List UInt8}{i:Nat}(h:0<(s.length:Int)->((s.getD 0 0).toNat:Int)≠45)(hi:(i:Int)<(s.length:Int))(c:((s.getD i 0).toNat:Int)<48\/57<((s.getD i 0).toNat:Int)):av s=none:=by rw[parse_p h,ps_bad (i:=i) (by omega) c];rfl
theorem fin_len{t:List UInt8}{i m:Nat}(E:i<=t.length)(c: ¬(i:Int)<(t.length:Int))(z:m=val (t.take i))(A:(t.take i).all dw=true):m=val t/\t.all dw=true:=by have:t.take i=t:=a0W (by omega);rw[this]at z A;exact⟨z,A⟩
theorem pb3{s:List UInt8}{i m:Nat}{q:Prop}(h:0<(s.length:Int)/\((s.getD 0 0).toNat:Int)=45)(c:(¬((s.drop 1).length:Int)<1/\¬19<((s.drop 1).length:Int))/\((((s.drop 1).getD 0 0).toNat:Int)=48->¬1<((s.drop 1).length:Int)/\q))(hq: ¬q)
  (O:i<=(s.drop 1).length) (Y: ¬(i:Int)<((s.drop 1).length:Int)) (T:m=val ((s.drop 1).take i)) (U:((s.drop 1).take i).all dw=true):av s=if m<=9223372036854775808 then some (-(m:Int)) else none:=by
 obtain⟨A,E⟩:=fin_len O Y T U
 have z:(s.drop 1).getD 0 0≠48:=fun e=>hq (c.2 (c48.2 e)).2
 rw[parse_b h,ps_ok (by omega) (by omega) E (fun e=>absurd e z),←A]
 split
 ·rw[sgn_of];rw[A];have hl:1<=(s.drop 1).length:=by omega
  generalize s.drop 1=t at *
  cases t with
  |nil=>simp at hl
  |cons a l=>
   have Z:a≠48:=z
   have hd:=im.1 (a0f.1 E a (by simp))
   have ax:a.toNat≠48:=fun e=>Z (UInt8.toNat_inj.1 e)
   have key: ∀(l:List UInt8) (n:Nat),0<n->0<l.foldl valA n:=by
    intro l;induction l with
    |nil=>intro n V;exact V
    |cons b l ih=>intro n V;exact ih _ (by unfold valA;omega)
   exact key l _ (by unfold valA;omega)
 rfl
theorem pp3{s:List UInt8}{i m:Nat}{q:Prop}(h:0<(s.length:Int)->((s.getD 0 0).toNat:Int)≠45)(c:(¬(s.length:Int)<1/\¬19<(s.length:Int))/\(((s.getD 0 0).toNat:Int)=48->¬1<(s.length:Int)/\q))
  (E:i<=s.length) (U: ¬(i:Int)<(s.length:Int)) (O:m=val (s.take i)) (T:(s.take i).all dw=true):av s=if m<=9223372036854775807 then some (m:Int) else none:=by
 obtain⟨z,A⟩:=fin_len E U O T
 rw[parse_p h,ps_ok (by omega) (by omega) A (fun e=>by have:=(c.2 (c48.2 e)).1;omega),←z]
 split<;>rfl
theorem parse_c(s:List UInt8)(H:Heap):kKt ex 57 [(.string ⟨⟨s⟩⟩)] H fun v H'=> ∃(r:Int) (ok:Bool),H'=H/\v= .tuple ⟨[.int .i64 r,.bool ok]⟩/\r=(av s).getD 0/\ok=(av s).isSome:=by
 refine aB Try.func57 rfl rfl (ay (aa (za (iI 0) (za (.bool false) (aq ?_)))));refine ae (ay (aa (zm (.string ⟨⟨s⟩⟩) (za (.string ⟨⟨s⟩⟩) (aq ?_)))));refine ae (ay (eP 10 17 [5] [(5,(.bool ((decide ((0:Int)<(s.length:Int)))&&(((s.getD 0 0).toNat:Int)==45))))] (fun H'=>H'=H) ?_ ?_))
 ·refine aa (zm (.string ⟨⟨s⟩⟩) (ag (v:=(iI (s.length:Int))) (dJ rfl rfl) rfl rfl (ag (v:=(.bool (decide ((0:Int)<(s.length:Int))))) (bH rfl rfl rfl rfl) rfl rfl (zm (.bool (decide ((0:Int)<(s.length:Int)))) (gh (v:=(decide ((0:Int)<(s.length:Int)))) rfl rfl (fun g2=>?_) (fun g2=>?_))))))
  ·have ci:=g2;try simp only[BS]at ci
   refine zm (.string ⟨⟨s⟩⟩) (aY rfl g2 ?_);have d2:=ef (s.getD 0 0);refine ag (v:=(.int .u8 ((s.getD 0 0).toNat:Int))) (dK (j:=0) rfl rfl rfl (by decide) (cp (by omega))) rfl rfl (aY rfl g2 (ag (v:=(.bool (((s.getD 0 0).toNat:Int)==45))) (bH rfl rfl rfl rfl) rfl rfl (ag (v:=(.bool (((s.getD 0 0).toNat:Int)==45))) (aQ rfl g2 rfl) rfl rfl (za (.bool (((s.getD 0 0).toNat:Int)==45)) (aq ?_)))));exact aw ⟨rfl,rfl,(by repeat' first|exact Lr|refine Lu rfl ?_),(agC (congrArg Value.bool (show(((s.getD 0 0).toNat:Int)==45)=((decide ((0:Int)<(s.length:Int)))&&(((s.getD 0 0).toNat:Int)==45)) by simp only[↓g2,BT])) agN)⟩
  have ci:=g2;try simp only[BS]at ci
  refine bM rfl g2 rfl (bM rfl g2 rfl (ag (v:=(.bool false)) (aR rfl g2 rfl) rfl rfl (za (.bool false) (aq ?_))));exact aw ⟨rfl,rfl,(by repeat' first|exact Lr|refine Lu rfl ?_),(agC (congrArg Value.bool (show false=((decide ((0:Int)<(s.length:Int)))&&(((s.getD 0 0).toNat:Int)==45)) by simp only[↓g2,BT])) agN)⟩
 skip;rintro g1 H rfl;refine ae (ay (ay (aa (zm (.bool ((decide ((0:Int)<(s.length:Int)))&&(((s.getD 0 0).toNat:Int)==45))) (aq ?_)))));refine ae (bU (v:=((decide ((0:Int)<(s.length:Int)))&&(((s.getD 0 0).toNat:Int)==45))) rfl rfl (fun Z=>?_) (fun Z=>?_))
 ·have c4:=Z;try simp only[BS]at c4
  have pb:=c4;refine aa (zm (.string ⟨⟨s⟩⟩) (ag (v:=(.string ⟨⟨s.drop 1⟩⟩)) (ap_slSd (i:=1) rfl rfl (optN (by decide)) (by omega)) rfl rfl (za (.string ⟨⟨s.drop 1⟩⟩) (aq (ae ?_)))));refine ay (ay (eP 21 41 [] [(41,(.bool (((decide (((s.drop 1).length:Int)<1))||(decide ((19:Int)<((s.drop 1).length:Int))))||(((((s.drop 1).getD 0 0).toNat:Int)==48)&&((decide ((1:Int)<((s.drop 1).length:Int)))||((decide ((0:Int)<(s.length:Int)))&&(((s.getD 0 0).toNat:Int)==45)))))))] (fun H'=>H'=H) ?_ ?_))
  ·refine aa (zm (.string ⟨⟨s.drop 1⟩⟩) (ag (v:=(iI ((s.drop 1).length:Int))) (dJ rfl rfl) rfl rfl (ag (v:=(.bool (decide (((s.drop 1).length:Int)<1)))) (bH rfl rfl rfl rfl) rfl rfl (zm (.bool (decide (((s.drop 1).length:Int)<1))) (gi (v:=(decide (((s.drop 1).length:Int)<1))) rfl rfl (fun Y=>?_) (fun Y=>?_))))))
   ·have cl:=Y;try simp only[BS]at cl
    refine zm (.string ⟨⟨s.drop 1⟩⟩) (aY rfl Y (ag (v:=(iI ((s.drop 1).length:Int))) (dJ rfl rfl) rfl rfl (aY rfl Y (ag (v:=(.bool (decide ((19:Int)<((s.drop 1).length:Int))))) (bH rfl rfl rfl rfl) rfl rfl (ag (v:=(.bool (decide ((19:Int)<((s.drop 1).length:Int))))) (aR rfl Y rfl) rfl rfl ?_)))));refine zm (.bool (decide ((19:Int)<((s.drop 1).length:Int)))) (gi (v:=(decide ((19:Int)<((s.drop 1).length:Int)))) rfl rfl (fun O=>?_) (fun O=>?_))
    ·have co:=O;try simp only[BS]at co
     refine zm (.string ⟨⟨s.drop 1⟩⟩) (aY rfl O ?_);have d3:=ef ((s.drop 1).getD 0 0);refine ag (v:=(.int .u8 (((s.drop 1).getD 0 0).toNat:Int))) (dK (j:=0) rfl rfl rfl (by decide) (cp (by omega))) rfl rfl (aY rfl O (ag (v:=(.bool ((((s.drop 1).getD 0 0).toNat:Int)==48))) (bH rfl rfl rfl rfl) rfl rfl (aY rfl O (zm (.bool ((((s.drop 1).getD 0 0).toNat:Int)==48)) (gh (v:=((((s.drop 1).getD 0 0).toNat:Int)==48)) rfl rfl (fun V=>?_) (fun V=>?_))))))
     ·have cx:=V;try simp only[BS]at cx
      refine zm (.string ⟨⟨s.drop 1⟩⟩) (aY rfl V (ag (v:=(iI ((s.drop 1).length:Int))) (dJ rfl rfl) rfl rfl (aY rfl V (ag (v:=(.bool (decide ((1:Int)<((s.drop 1).length:Int))))) (bH rfl rfl rfl rfl) rfl rfl (aY rfl V ?_)))));refine zm (.bool (decide ((1:Int)<((s.drop 1).length:Int)))) (gi (v:=(decide ((1:Int)<((s.drop 1).length:Int)))) rfl rfl (fun al=>?_) (fun al=>?_))
      ·have b0:=al;try simp only[BS]at b0
       refine zm (.bool ((decide ((0:Int)<(s.length:Int)))&&(((s.getD 0 0).toNat:Int)==45))) (aY rfl V (ag (v:=(.bool ((decide ((0:Int)<(s.length:Int)))&&(((s.getD 0 0).toNat:Int)==45)))) (aR rfl al rfl) rfl rfl (aY rfl O (ag (v:=(.bool ((decide ((0:Int)<(s.length:Int)))&&(((s.getD 0 0).toNat:Int)==45)))) (aQ rfl V rfl) rfl rfl (ag (v:=(.bool ((decide ((0:Int)<(s.length:Int)))&&(((s.getD 0 0).toNat:Int)==45)))) (aR rfl O rfl) rfl rfl ?_)))));refine aq ?_;exact aw ⟨rfl,rfl,(by repeat' first|exact Lr|refine Lu rfl ?_),(agC (congrArg Value.bool (show((decide ((0:Int)<(s.length:Int)))&&(((s.getD 0 0).toNat:Int)==45))=(((decide (((s.drop 1).length:Int)<1))||(decide ((19:Int)<((s.drop 1).length:Int))))||(((((s.drop 1).getD 0 0).toNat:Int)==48)&&((decide ((1:Int)<((s.drop 1).length:Int)))||((decide ((0:Int)<(s.length:Int)))&&(((s.getD 0 0).toNat:Int)==45))))) by simp only[↓Y,↓O,↓V,↓al,BT])) agN)⟩
      have b0:=al;try simp only[BS]at b0
      refine aY rfl V (ag (v:=(.bool true)) (aQ rfl al rfl) rfl rfl (aY rfl O (ag (v:=(.bool true)) (aQ rfl V rfl) rfl rfl (ag (v:=(.bool true)) (aR rfl O rfl) rfl rfl (aq ?_)))));exact aw ⟨rfl,rfl,(by repeat' first|exact Lr|refine Lu rfl ?_),(agC (congrArg Value.bool (show true=(((decide (((s.drop 1).length:Int)<1))||(decide ((19:Int)<((s.drop 1).length:Int))))||(((((s.drop 1).getD 0 0).toNat:Int)==48)&&((decide ((1:Int)<((s.drop 1).length:Int)))||((decide ((0:Int)<(s.length:Int)))&&(((s.getD 0 0).toNat:Int)==45))))) by simp only[↓Y,↓O,↓V,↓al,BT])) agN)⟩
     have cx:=V;try simp only[BS]at cx
     refine bM rfl V rfl (bM rfl V rfl (bM rfl V rfl (cn rfl rfl (bM rfl V rfl (aY rfl O ?_)))));refine ag (v:=(.bool false)) (aR rfl V rfl) rfl rfl (ag (v:=(.bool false)) (aR rfl O rfl) rfl rfl (aq ?_));exact aw ⟨rfl,rfl,(by repeat' first|exact Lr|refine Lu rfl ?_),(agC (congrArg Value.bool (show false=(((decide (((s.drop 1).length:Int)<1))||(decide ((19:Int)<((s.drop 1).length:Int))))||(((((s.drop 1).getD 0 0).toNat:Int)==48)&&((decide ((1:Int)<((s.drop 1).length:Int)))||((decide ((0:Int)<(s.length:Int)))&&(((s.getD 0 0).toNat:Int)==45))))) by simp only[↓Y,↓O,↓V,BT])) agN)⟩
    have co:=O;try simp only[BS]at co
    refine bf rfl O rfl (bf rfl O rfl (bf rfl O rfl (cn rfl rfl (cn rfl rfl (cn rfl rfl ?_)))));refine cn rfl rfl (cn rfl rfl (cn rfl rfl (bf rfl O rfl (ag (v:=(.bool true)) (aQ rfl O rfl) rfl rfl (aq ?_)))));exact aw ⟨rfl,rfl,(by repeat' first|exact Lr|refine Lu rfl ?_),(agC (congrArg Value.bool (show true=(((decide (((s.drop 1).length:Int)<1))||(decide ((19:Int)<((s.drop 1).length:Int))))||(((((s.drop 1).getD 0 0).toNat:Int)==48)&&((decide ((1:Int)<((s.drop 1).length:Int)))||((decide ((0:Int)<(s.length:Int)))&&(((s.getD 0 0).toNat:Int)==45))))) by simp only[↓Y,↓O,BT])) agN)⟩
   have cl:=Y;try simp only[BS]at cl
   refine bf rfl Y rfl (bf rfl Y rfl (ag (v:=(.bool true)) (aQ rfl Y rfl) rfl rfl (zm (.bool true) (bf rfl rfl rfl (bf rfl rfl rfl ?_)))));refine bf rfl rfl rfl (bf rfl rfl rfl (cn rfl rfl (cn rfl rfl (cn rfl rfl (cn rfl rfl ?_)))));refine cn rfl rfl (cn rfl rfl (bf rfl rfl rfl (ag (v:=(.bool true)) (aQ rfl rfl rfl) rfl rfl (aq ?_))));exact aw ⟨rfl,rfl,(by repeat' first|exact Lr|refine Lu rfl ?_),(agC (congrArg Value.bool (show true=(((decide (((s.drop 1).length:Int)<1))||(decide ((19:Int)<((s.drop 1).length:Int))))||(((((s.drop 1).getD 0 0).toNat:Int)==48)&&((decide ((1:Int)<((s.drop 1).length:Int)))||((decide ((0:Int)<(s.length:Int)))&&(((s.getD 0 0).toNat:Int)==45))))) by simp only[↓Y,BT])) agN)⟩
  skip;rintro g5 H rfl;refine ae (bU (v:=(((decide (((s.drop 1).length:Int)<1))||(decide ((19:Int)<((s.drop 1).length:Int))))||(((((s.drop 1).getD 0 0).toNat:Int)==48)&&((decide ((1:Int)<((s.drop 1).length:Int)))||((decide ((0:Int)<(s.length:Int)))&&(((s.getD 0 0).toNat:Int)==45)))))) rfl rfl (fun a3=>?_) (fun a3=>?_))
  ·try simp only[BS]at a3
   have pc:=a3;refine ay (aa (za (iI 0) (za (.bool false) (aq (ae ?_)))));refine ah ⟨.inr rfl,_,rfl,0,false,rfl,rfl,(by have e:=pb1 pb pc;rw[e];(try rfl)),(by have e:=pb1 pb pc;rw[e];(try rfl))⟩
  try simp only[BS]at a3
  have pc:=a3;refine ae (ay (aa (za (.int .u64 0) (aq (ae ?_)))));refine ay (ay (aa (za (iI 0) (aq (ae ?_)))));refine ft (aA (fun(mm:Nat) f H'=> ∃(i:Nat) (m:Nat),H'=H/\ba f [(4,(.string ⟨⟨s.drop 1⟩⟩)),(5,(.bool ((decide ((0:Int)<(s.length:Int)))&&(((s.getD 0 0).toNat:Int)==45)))),(6,(.int .u64 (m:Int))),(7,(iI (i:Int)))]/\mm=(s.drop 1).length-i/\(i<=(s.drop 1).length)/\(m=val ((s.drop 1).take i))/\(((s.drop 1).take i).all dw=true)/\(m<10^i)/\((s.drop 1).length<=19)) _ ⟨0,0,rfl,⟨rfl,rfl,rfl,rfl,trivial⟩,rfl,(by omega),(by rfl),(by rfl),(by decide),(by omega)⟩ ?_);rintro dt d4 H ⟨i,m,rfl,cc,rfl,h1,h2,h3,h4,h5⟩ c0;refine aP _ cc (fun _=>?_);clear cc;refine ay (ay (aa (zm (iI (i:Int)) (zm (.string ⟨⟨s.drop 1⟩⟩) (ag (v:=(iI ((s.drop 1).length:Int))) (dJ rfl rfl) rfl rfl ?_)))));refine ag (v:=(.bool (decide ((i:Int)<((s.drop 1).length:Int))))) (bH rfl rfl rfl rfl) rfl rfl (aq (ae (bU (v:=(decide ((i:Int)<((s.drop 1).length:Int)))) rfl rfl (fun a4=>?_) (fun a4=>?_))))
  ·try simp only[BS]at a4
   have hp:=pow_le (show i<=18 by omega);have pi:=a4;refine ae (ay (ft (ay (ay (eP 48 57 [] [(57,(.bool ((decide ((((s.drop 1).getD i 0).toNat:Int)<48))||(decide ((57:Int)<(((s.drop 1).getD i 0).toNat:Int))))))] (fun H'=>H'=H) ?_ ?_)))))
   ·refine aa (zm (.string ⟨⟨s.drop 1⟩⟩) (zm (iI (i:Int)) ?_));have c5:=ef ((s.drop 1).getD i 0);refine ag (v:=(.int .u8 (((s.drop 1).getD i 0).toNat:Int))) (dK (j:=(i:Int)) rfl rfl rfl (by omega) (cp (by omega))) rfl rfl (ag (v:=(.bool (decide ((((s.drop 1).getD i 0).toNat:Int)<48)))) (bH rfl rfl rfl rfl) rfl rfl (zm (.bool (decide ((((s.drop 1).getD i 0).toNat:Int)<48))) (gi (v:=(decide ((((s.drop 1).getD i 0).toNat:Int)<48))) rfl rfl (fun T=>?_) (fun T=>?_))))
    ·have b1:=T;try simp only[BS]at b1
     refine zm (.string ⟨⟨s.drop 1⟩⟩) (aY rfl T (zm (iI (i:Int)) (aY rfl T ?_)));have c6:=ef ((s.drop 1).getD i 0);refine ag (v:=(.int .u8 (((s.drop 1).getD i 0).toNat:Int))) (dK (j:=(i:Int)) rfl rfl rfl (by omega) (cp (by omega))) rfl rfl (aY rfl T (ag (v:=(.bool (decide ((57:Int)<(((s.drop 1).getD i 0).toNat:Int))))) (bH rfl rfl rfl rfl) rfl rfl (ag (v:=(.bool (decide ((57:Int)<(((s.drop 1).getD i 0).toNat:Int))))) (aR rfl T rfl) rfl rfl (aq ?_))));exact aw ⟨rfl,rfl,(by repeat' first|exact Lr|refine Lu rfl ?_),(agC (congrArg Value.bool (show(decide ((57:Int)<(((s.drop 1).getD i 0).toNat:Int)))=((decide ((((s.drop 1).getD i 0).toNat:Int)<48))||(decide ((57:Int)<(((s.drop 1).getD i 0).toNat:Int)))) by simp only[↓T,BT])) agN)⟩
    have b1:=T;try simp only[BS]at b1
    refine bf rfl T rfl (bf rfl T rfl (bf rfl T rfl (ag (v:=(.bool true)) (aQ rfl T rfl) rfl rfl (aq ?_))));exact aw ⟨rfl,rfl,(by repeat' first|exact Lr|refine Lu rfl ?_),(agC (congrArg Value.bool (show true=((decide ((((s.drop 1).getD i 0).toNat:Int)<48))||(decide ((57:Int)<(((s.drop 1).getD i 0).toNat:Int)))) by simp only[↓T,BT])) agN)⟩
   skip;rintro d6 H rfl;refine ae (bU (v:=((decide ((((s.drop 1).getD i 0).toNat:Int)<48))||(decide ((57:Int)<(((s.drop 1).getD i 0).toNat:Int))))) rfl rfl (fun b7=>?_) (fun b7=>?_))
   ·try simp only[BS]at b7
    have pd:=b7;refine ay (aa (za (iI 0) (za (.bool false) (aq (ae ?_)))));refine ah ⟨.inr rfl,_,rfl,0,false,rfl,rfl,(by have e:=pb2 pb pi pd;rw[e];(try rfl)),(by have e:=pb2 pb pi pd;rw[e];(try rfl))⟩
   try simp only[BS]at b7
   refine ae (aa (zm (.int .u64 (m:Int)) (ag (v:=(.int .u64 (10 *(m:Int)))) (ap_mul rfl rfl (fW (n:=10 *(m:Int)) (by omega))) rfl rfl (zm (.string ⟨⟨s.drop 1⟩⟩) (zm (iI (i:Int)) ?_)))));have c7:=ef ((s.drop 1).getD i 0);refine ag (v:=(.int .u8 (((s.drop 1).getD i 0).toNat:Int))) (dK (j:=(i:Int)) rfl rfl rfl (by omega) (cp (by omega))) rfl rfl (ag (v:=(.int .u8 ((((s.drop 1).getD i 0).toNat-48:Nat):Int))) (ap_sub rfl rfl (natsub (a:=((s.drop 1).getD i 0).toNat) (b:=48) (by omega) (w_u8 (by omega)))) rfl rfl (ag (v:=(.int .u64 ((((s.drop 1).getD i 0).toNat-48:Nat):Int))) (ap_cv rfl rfl rfl (fW (n:=((((s.drop 1).getD i 0).toNat-48:Nat):Int)) (by omega))) rfl rfl (ag (v:=(.int .u64 ((10 *(m:Int))+((((s.drop 1).getD i 0).toNat-48:Nat):Int)))) (eB rfl rfl (fW (n:=(10 *(m:Int))+((((s.drop 1).getD i 0).toNat-48:Nat):Int)) (by omega))) rfl rfl (za (.int .u64 ((10 *(m:Int))+((((s.drop 1).getD i 0).toNat-48:Nat):Int))) (aq ?_)))));refine dS (ae (aa (zm (iI (i:Int)) (ag (v:=(iI ((i:Int)+1))) (eB rfl rfl (w_i64 (n:=(i:Int)+1) (by omega))) rfl rfl (za (iI ((i:Int)+1)) ?_)))));refine aq (ae ?_);refine c0 _ _ _ ?_ ⟨i+1,(10 *m)+(((s.drop 1).getD i 0).toNat-48),rfl,⟨rfl,rfl,rfl,rfl,trivial⟩,rfl,(by omega),(by(rw[jk (by omega),h2])),(by(rw[fQ (by omega),h3,a1s,im];omega)),(by(rw[a1x];omega)),(by assumption)⟩;omega
  try simp only[BS]at a4
  have pi:=a4;refine dj (dj (dT (ae (ay (aa ?_)))));refine za (.int .u64 9223372036854775807) (aq (ae (ay (ay (aa ?_)))));refine zm (.bool ((decide ((0:Int)<(s.length:Int)))&&(((s.getD 0 0).toNat:Int)==45))) (aq (ae (wk_true (v:=((decide ((0:Int)<(s.length:Int)))&&(((s.getD 0 0).toNat:Int)==45))) rfl Z rfl (aa (zm (.int .u64 9223372036854775807) ?_)))));refine ag (v:=(.int .u64 9223372036854775808)) (eB rfl rfl rfl) rfl rfl (za (.int .u64 9223372036854775808) (aq (ae (ay (ay ?_)))));refine aa (zm (.int .u64 (m:Int)) (zm (.int .u64 9223372036854775808) (ag (v:=(.bool (decide ((9223372036854775808:Int)<(m:Int))))) (bH rfl rfl rfl rfl) rfl rfl (aq (ae ?_)))));refine bU (v:=(decide ((9223372036854775808:Int)<(m:Int)))) rfl rfl (fun a5=>?_) (fun a5=>?_)
  ·try simp only[BS]at a5
   have pm:=a5;refine ay (aa (za (iI 0) (za (.bool false) (aq (ae ?_)))));refine ah ⟨.inr rfl,_,rfl,0,false,rfl,rfl,(by have e:=pb3 pb pc (fun h=>h pb.1 pb.2) h1 pi h2 h3;rw[e];(try rfl);split<;>first|rfl|(exfalso;omega)|exact wr1 (by omega)|exact wr2 (by omega)),(by have e:=pb3 pb pc (fun h=>h pb.1 pb.2) h1 pi h2 h3;rw[e];(try rfl);split<;>first|rfl|(exfalso;omega)|exact wr1 (by omega)|exact wr2 (by omega))⟩
  try simp only[BS]at a5
  have pm:=a5;refine ae (ay (ay (aa (zm (.bool ((decide ((0:Int)<(s.length:Int)))&&(((s.getD 0 0).toNat:Int)==45))) (aq ?_)))));refine ae (wk_true (v:=((decide ((0:Int)<(s.length:Int)))&&(((s.getD 0 0).toNat:Int)==45))) rfl Z rfl (ay (aa (zm (.int .u64 (m:Int)) (ag (v:=(.int .u64 (IntKind.u64.wrap (0-(m:Int))))) (ap_ng rfl rfl) rfl rfl ?_)))));refine ag (v:=(iI (IntKind.i64.wrap (IntKind.u64.wrap (0-(m:Int)))))) (ap_cv rfl rfl rfl rfl) rfl rfl (za (iI (IntKind.i64.wrap (IntKind.u64.wrap (0-(m:Int))))) (za (.bool true) (aq (ae (ah ⟨.inr rfl,_,rfl,IntKind.i64.wrap (IntKind.u64.wrap (0-(m:Int))),true,rfl,rfl,(by have e:=pb3 pb pc (fun h=>h pb.1 pb.2) h1 pi h2 h3;rw[e];(try rfl);split<;>first|rfl|(exfalso;omega)|exact wr1 (by omega)|exact wr2 (by omega)),(by have e:=pb3 pb pc (fun h=>h pb.1 pb.2) h1 pi h2 h3;rw[e];(try rfl);split<;>first|rfl|(exfalso;omega)|exact wr1 (by omega)|exact wr2 (by omega))⟩)))))
 have c4:=Z;try simp only[BS]at c4
 have pb:=c4;refine ae (ay (ay (eP 21 41 [] [(41,(.bool (((decide ((s.length:Int)<1))||(decide ((19:Int)<(s.length:Int))))||((((s.getD 0 0).toNat:Int)==48)&&((decide ((1:Int)<(s.length:Int)))||((decide ((0:Int)<(s.length:Int)))&&(((s.getD 0 0).toNat:Int)==45)))))))] (fun H'=>H'=H) ?_ ?_)))
 ·refine aa (zm (.string ⟨⟨s⟩⟩) (ag (v:=(iI (s.length:Int))) (dJ rfl rfl) rfl rfl (ag (v:=(.bool (decide ((s.length:Int)<1)))) (bH rfl rfl rfl rfl) rfl rfl (zm (.bool (decide ((s.length:Int)<1))) (gi (v:=(decide ((s.length:Int)<1))) rfl rfl (fun E=>?_) (fun E=>?_))))))
  ·have b2:=E;try simp only[BS]at b2
   refine zm (.string ⟨⟨s⟩⟩) (aY rfl E (ag (v:=(iI (s.length:Int))) (dJ rfl rfl) rfl rfl (aY rfl E (ag (v:=(.bool (decide ((19:Int)<(s.length:Int))))) (bH rfl rfl rfl rfl) rfl rfl (ag (v:=(.bool (decide ((19:Int)<(s.length:Int))))) (aR rfl E rfl) rfl rfl ?_)))));refine zm (.bool (decide ((19:Int)<(s.length:Int)))) (gi (v:=(decide ((19:Int)<(s.length:Int)))) rfl rfl (fun z=>?_) (fun z=>?_))
   ·have b3:=z;try simp only[BS]at b3
    refine zm (.string ⟨⟨s⟩⟩) (aY rfl z ?_);have c8:=ef (s.getD 0 0);refine ag (v:=(.int .u8 ((s.getD 0 0).toNat:Int))) (dK (j:=0) rfl rfl rfl (by decide) (cp (by omega))) rfl rfl (aY rfl z (ag (v:=(.bool (((s.getD 0 0).toNat:Int)==48))) (bH rfl rfl rfl rfl) rfl rfl (aY rfl z (zm (.bool (((s.getD 0 0).toNat:Int)==48)) (gh (v:=(((s.getD 0 0).toNat:Int)==48)) rfl rfl (fun A=>?_) (fun A=>?_))))))
    ·have b4:=A;try simp only[BS]at b4
     refine zm (.string ⟨⟨s⟩⟩) (aY rfl A (ag (v:=(iI (s.length:Int))) (dJ rfl rfl) rfl rfl (aY rfl A (ag (v:=(.bool (decide ((1:Int)<(s.length:Int))))) (bH rfl rfl rfl rfl) rfl rfl (aY rfl A ?_)))));refine zm (.bool (decide ((1:Int)<(s.length:Int)))) (gi (v:=(decide ((1:Int)<(s.length:Int)))) rfl rfl (fun ax=>?_) (fun ax=>?_))
     ·have b5:=ax;try simp only[BS]at b5
      refine zm (.bool ((decide ((0:Int)<(s.length:Int)))&&(((s.getD 0 0).toNat:Int)==45))) (aY rfl A (ag (v:=(.bool ((decide ((0:Int)<(s.length:Int)))&&(((s.getD 0 0).toNat:Int)==45)))) (aR rfl ax rfl) rfl rfl (aY rfl z (ag (v:=(.bool ((decide ((0:Int)<(s.length:Int)))&&(((s.getD 0 0).toNat:Int)==45)))) (aQ rfl A rfl) rfl rfl (ag (v:=(.bool ((decide ((0:Int)<(s.length:Int)))&&(((s.getD 0 0).toNat:Int)==45)))) (aR rfl z rfl) rfl rfl ?_)))));refine aq ?_;exact aw ⟨rfl,rfl,(by repeat' first|exact Lr|refine Lu rfl ?_),(agC (congrArg Value.bool (show((decide ((0:Int)<(s.length:Int)))&&(((s.getD 0 0).toNat:Int)==45))=(((decide ((s.length:Int)<1))||(decide ((19:Int)<(s.length:Int))))||((((s.getD 0 0).toNat:Int)==48)&&((decide ((1:Int)<(s.length:Int)))||((decide ((0:Int)<(s.length:Int)))&&(((s.getD 0 0).toNat:Int)==45))))) by simp only[↓E,↓z,↓A,↓ax,BT])) agN)⟩
     have b5:=ax;try simp only[BS]at b5
     refine aY rfl A (ag (v:=(.bool true)) (aQ rfl ax rfl) rfl rfl (aY rfl z (ag (v:=(.bool true)) (aQ rfl A rfl) rfl rfl (ag (v:=(.bool true)) (aR rfl z rfl) rfl rfl (aq ?_)))));exact aw ⟨rfl,rfl,(by repeat' first|exact Lr|refine Lu rfl ?_),(agC (congrArg Value.bool (show true=(((decide ((s.length:Int)<1))||(decide ((19:Int)<(s.length:Int))))||((((s.getD 0 0).toNat:Int)==48)&&((decide ((1:Int)<(s.length:Int)))||((decide ((0:Int)<(s.length:Int)))&&(((s.getD 0 0).toNat:Int)==45))))) by simp only[↓E,↓z,↓A,↓ax,BT])) agN)⟩
    have b4:=A;try simp only[BS]at b4
    refine bM rfl A rfl (bM rfl A rfl (bM rfl A rfl (cn rfl rfl (bM rfl A rfl (aY rfl z ?_)))));refine ag (v:=(.bool false)) (aR rfl A rfl) rfl rfl (ag (v:=(.bool false)) (aR rfl z rfl) rfl rfl (aq ?_));exact aw ⟨rfl,rfl,(by repeat' first|exact Lr|refine Lu rfl ?_),(agC (congrArg Value.bool (show false=(((decide ((s.length:Int)<1))||(decide ((19:Int)<(s.length:Int))))||((((s.getD 0 0).toNat:Int)==48)&&((decide ((1:Int)<(s.length:Int)))||((decide ((0:Int)<(s.length:Int)))&&(((s.getD 0 0).toNat:Int)==45))))) by simp only[↓E,↓z,↓A,BT])) agN)⟩
   have b3:=z;try simp only[BS]at b3
   refine bf rfl z rfl (bf rfl z rfl (bf rfl z rfl (cn rfl rfl (cn rfl rfl (cn rfl rfl ?_)))));refine cn rfl rfl (cn rfl rfl (cn rfl rfl (bf rfl z rfl (ag (v:=(.bool true)) (aQ rfl z rfl) rfl rfl (aq ?_)))));exact aw ⟨rfl,rfl,(by repeat' first|exact Lr|refine Lu rfl ?_),(agC (congrArg Value.bool (show true=(((decide ((s.length:Int)<1))||(decide ((19:Int)<(s.length:Int))))||((((s.getD 0 0).toNat:Int)==48)&&((decide ((1:Int)<(s.length:Int)))||((decide ((0:Int)<(s.length:Int)))&&(((s.getD 0 0).toNat:Int)==45))))) by simp only[↓E,↓z,BT])) agN)⟩
  have b2:=E;try simp only[BS]at b2
  refine bf rfl E rfl (bf rfl E rfl (ag (v:=(.bool true)) (aQ rfl E rfl) rfl rfl (zm (.bool true) (bf rfl rfl rfl (bf rfl rfl rfl ?_)))));refine bf rfl rfl rfl (bf rfl rfl rfl (cn rfl rfl (cn rfl rfl (cn rfl rfl (cn rfl rfl ?_)))));refine cn rfl rfl (cn rfl rfl (bf rfl rfl rfl (ag (v:=(.bool true)) (aQ rfl rfl rfl) rfl rfl (aq ?_))));exact aw ⟨rfl,rfl,(by repeat' first|exact Lr|refine Lu rfl ?_),(agC (congrArg Value.bool (show true=(((decide ((s.length:Int)<1))||(decide ((19:Int)<(s.length:Int))))||((((s.getD 0 0).toNat:Int)==48)&&((decide ((1:Int)<(s.length:Int)))||((decide ((0:Int)<(s.length:Int)))&&(((s.getD 0 0).toNat:Int)==45))))) by simp only[↓E,BT])) agN)⟩
 skip;rintro em H rfl;refine ae (bU (v:=(((decide ((s.length:Int)<1))||(decide ((19:Int)<(s.length:Int))))||((((s.getD 0 0).toNat:Int)==48)&&((decide ((1:Int)<(s.length:Int)))||((decide ((0:Int)<(s.length:Int)))&&(((s.getD 0 0).toNat:Int)==45)))))) rfl rfl (fun a8=>?_) (fun a8=>?_))
 ·try simp only[BS]at a8
  have pc:=a8;refine ay (aa (za (iI 0) (za (.bool false) (aq (ae ?_)))));refine ah ⟨.inr rfl,_,rfl,0,false,rfl,rfl,(by have e:=pp1 pb pc;rw[e];(try rfl)),(by have e:=pp1 pb pc;rw[e];(try rfl))⟩
 try simp only[BS]at a8
 have pc:=a8;refine ae (ay (aa (za (.int .u64 0) (aq (ae ?_)))));refine ay (ay (aa (za (iI 0) (aq (ae ?_)))));refine ft (aA (fun(mm:Nat) f H'=> ∃(i:Nat) (m:Nat),H'=H/\ba f [(4,(.string ⟨⟨s⟩⟩)),(5,(.bool ((decide ((0:Int)<(s.length:Int)))&&(((s.getD 0 0).toNat:Int)==45)))),(6,(.int .u64 (m:Int))),(7,(iI (i:Int)))]/\mm=s.length-i/\(i<=s.length)/\(m=val (s.take i))/\((s.take i).all dw=true)/\(m<10^i)/\(s.length<=19)) _ ⟨0,0,rfl,⟨rfl,rfl,rfl,rfl,trivial⟩,rfl,(by omega),(by rfl),(by rfl),(by decide),(by omega)⟩ ?_);rintro d1 d5 H ⟨i,m,rfl,ch,rfl,h1,h2,h3,h4,h5⟩ c3;refine aP _ ch (fun _=>?_);clear ch;refine ay (ay (aa (zm (iI (i:Int)) (zm (.string ⟨⟨s⟩⟩) (ag (v:=(iI (s.length:Int))) (dJ rfl rfl) rfl rfl ?_)))));refine ag (v:=(.bool (decide ((i:Int)<(s.length:Int))))) (bH rfl rfl rfl rfl) rfl rfl (aq (ae (bU (v:=(decide ((i:Int)<(s.length:Int)))) rfl rfl (fun a9=>?_) (fun a9=>?_))))
 ·try simp only[BS]at a9
  have hp:=pow_le (show i<=18 by omega);have pi:=a9;refine ae (ay (ft (ay (ay (eP 48 57 [] [(57,(.bool ((decide (((s.getD i 0).toNat:Int)<48))||(decide ((57:Int)<((s.getD i 0).toNat:Int))))))] (fun H'=>H'=H) ?_ ?_)))))
  ·refine aa (zm (.string ⟨⟨s⟩⟩) (zm (iI (i:Int)) ?_));have c9:=ef (s.getD i 0);refine ag (v:=(.int .u8 ((s.getD i 0).toNat:Int))) (dK (j:=(i:Int)) rfl rfl rfl (by omega) (cp (by omega))) rfl rfl (ag (v:=(.bool (decide (((s.getD i 0).toNat:Int)<48)))) (bH rfl rfl rfl rfl) rfl rfl (zm (.bool (decide (((s.getD i 0).toNat:Int)<48))) (gi (v:=(decide (((s.getD i 0).toNat:Int)<48))) rfl rfl (fun U=>?_) (fun U=>?_))))
   ·have b6:=U;try simp only[BS]at b6
    refine zm (.string ⟨⟨s⟩⟩) (aY rfl U (zm (iI (i:Int)) (aY rfl U ?_)));have dd:=ef (s.getD i 0);refine ag (v:=(.int .u8 ((s.getD i 0).toNat:Int))) (dK (j:=(i:Int)) rfl rfl rfl (by omega) (cp (by omega))) rfl rfl (aY rfl U (ag (v:=(.bool (decide ((57:Int)<((s.getD i 0).toNat:Int))))) (bH rfl rfl rfl rfl) rfl rfl (ag (v:=(.bool (decide ((57:Int)<((s.getD i 0).toNat:Int))))) (aR rfl U rfl) rfl rfl (aq ?_))));exact aw ⟨rfl,rfl,(by repeat' first|exact Lr|refine Lu rfl ?_),(agC (congrArg Value.bool (show(decide ((57:Int)<((s.getD i 0).toNat:Int)))=((decide (((s.getD i 0).toNat:Int)<48))||(decide ((57:Int)<((s.getD i 0).toNat:Int)))) by simp only[↓U,BT])) agN)⟩
   have b6:=U;try simp only[BS]at b6
   refine bf rfl U rfl (bf rfl U rfl (bf rfl U rfl (ag (v:=(.bool true)) (aQ rfl U rfl) rfl rfl (aq ?_))));exact aw ⟨rfl,rfl,(by repeat' first|exact Lr|refine Lu rfl ?_),(agC (congrArg Value.bool (show true=((decide (((s.getD i 0).toNat:Int)<48))||(decide ((57:Int)<((s.getD i 0).toNat:Int)))) by simp only[↓U,BT])) agN)⟩
  skip;rintro et H rfl;refine ae (bU (v:=((decide (((s.getD i 0).toNat:Int)<48))||(decide ((57:Int)<((s.getD i 0).toNat:Int))))) rfl rfl (fun b8=>?_) (fun b8=>?_))
  ·try simp only[BS]at b8
   have pd:=b8;refine ay (aa (za (iI 0) (za (.bool false) (aq (ae ?_)))));refine ah ⟨.inr rfl,_,rfl,0,false,rfl,rfl,(by have e:=pp2 pb pi pd;rw[e];(try rfl)),(by have e:=pp2 pb pi pd;rw[e];(try rfl))⟩
  try simp only[BS]at b8
  refine ae (aa (zm (.int .u64 (m:Int)) (ag (v:=(.int .u64 (10 *(m:Int)))) (ap_mul rfl rfl (fW (n:=10 *(m:Int)) (by omega))) rfl rfl (zm (.string ⟨⟨s⟩⟩) (zm (iI (i:Int)) ?_)))));have dk:=ef (s.getD i 0);refine ag (v:=(.int .u8 ((s.getD i 0).toNat:Int))) (dK (j:=(i:Int)) rfl rfl rfl (by omega) (cp (by omega))) rfl rfl (ag (v:=(.int .u8 (((s.getD i 0).toNat-48:Nat):Int))) (ap_sub rfl rfl (natsub (a:=(s.getD i 0).toNat) (b:=48) (by omega) (w_u8 (by omega)))) rfl rfl (ag (v:=(.int .u64 (((s.getD i 0).toNat-48:Nat):Int))) (ap_cv rfl rfl rfl (fW (n:=(((s.getD i 0).toNat-48:Nat):Int)) (by omega))) rfl rfl (ag (v:=(.int .u64 ((10 *(m:Int))+(((s.getD i 0).toNat-48:Nat):Int)))) (eB rfl rfl (fW (n:=(10 *(m:Int))+(((s.getD i 0).toNat-48:Nat):Int)) (by omega))) rfl rfl (za (.int .u64 ((10 *(m:Int))+(((s.getD i 0).toNat-48:Nat):Int))) (aq ?_)))));refine dS (ae (aa (zm (iI (i:Int)) (ag (v:=(iI ((i:Int)+1))) (eB rfl rfl (w_i64 (n:=(i:Int)+1) (by omega))) rfl rfl (za (iI ((i:Int)+1)) ?_)))));refine aq (ae ?_);refine c3 _ _ _ ?_ ⟨i+1,(10 *m)+((s.getD i 0).toNat-48),rfl,⟨rfl,rfl,rfl,rfl,trivial⟩,rfl,(by omega),(by(rw[jk (by omega),h2])),(by(rw[fQ (by omega),h3,a1s,im];omega)),(by(rw[a1x];omega)),(by assumption)⟩;omega
 try simp only[BS]at a9
 have pi:=a9;refine dj (dj (dT (ae (ay (aa ?_)))));refine za (.int .u64 9223372036854775807) (aq (ae (ay (ay (aa ?_)))));refine zm (.bool ((decide ((0:Int)<(s.length:Int)))&&(((s.getD 0 0).toNat:Int)==45))) (aq (ae (jj (v:=((decide ((0:Int)<(s.length:Int)))&&(((s.getD 0 0).toNat:Int)==45))) rfl Z rfl (ae (ay ?_)))));refine ay (aa (zm (.int .u64 (m:Int)) (zm (.int .u64 9223372036854775807) (ag (v:=(.bool (decide ((9223372036854775807:Int)<(m:Int))))) (bH rfl rfl rfl rfl) rfl rfl (aq ?_)))));refine ae (bU (v:=(decide ((9223372036854775807:Int)<(m:Int)))) rfl rfl (fun bb=>?_) (fun bb=>?_))
 ·try simp only[BS]at bb
  have pm:=bb;refine ay (aa (za (iI 0) (za (.bool false) (aq (ae ?_)))));refine ah ⟨.inr rfl,_,rfl,0,false,rfl,rfl,(by have e:=pp3 pb pc h1 pi h2 h3;rw[e];(try rfl);split<;>first|rfl|(exfalso;omega)|exact wr1 (by omega)|exact wr2 (by omega)),(by have e:=pp3 pb pc h1 pi h2 h3;rw[e];(try rfl);split<;>first|rfl|(exfalso;omega)|exact wr1 (by omega)|exact wr2 (by omega))⟩
 try simp only[BS]at bb
 have pm:=bb;refine ae (ay (ay (aa (zm (.bool ((decide ((0:Int)<(s.length:Int)))&&(((s.getD 0 0).toNat:Int)==45))) (aq ?_)))));refine ae (jj (v:=((decide ((0:Int)<(s.length:Int)))&&(((s.getD 0 0).toNat:Int)==45))) rfl Z rfl (ae (ay (aa (zm (.int .u64 (m:Int)) ?_)))));refine ag (v:=(iI (IntKind.i64.wrap (m:Int)))) (ap_cv rfl rfl rfl rfl) rfl rfl (za (iI (IntKind.i64.wrap (m:Int))) (za (.bool true) (aq (ae (ah ⟨.inr rfl,_,rfl,IntKind.i64.wrap (m:Int),true,rfl,rfl,(by have e:=pp3 pb pc h1 pi h2 h3;rw[e];(try rfl);split<;>first|rfl|(exfalso;omega)|exact wr1 (by omega)|exact wr2 (by omega)),(by have e:=pp3 pb pc h1 pi h2 h3;rw[e];(try rfl);split<;>first|rfl|(exfalso;omega)|exact wr1 (by omega)|exact wr2 (by omega))⟩)))))
theorem fmt_c_aux: ∀(fuel:Nat) (n:Int) {F:Fz} {H:Heap} {R:List Fp} (hs:HS (.of H []) F H [] R) (hn:0<=n/\n<18446744073709551616),n.toNat<fuel->kKt ex 43 [(.int .u64 n)] H fun v H'=> ∃(r:List UInt8) (F':Fz),Fz.le F F'/\HS (.of H []) F' H' [] R/\v= .string ⟨⟨r⟩⟩/\r=dec n.toNat:=by
 intro fuel;induction fuel with
 |zero=>intros;omega
 |succ fuel ih=>
 intro n F H R hs hn a0;obtain⟨z,rfl⟩:=a0B hn.1;refine aB Try.func43 rfl rfl (ay (aa (za (.string ⟨⟨[]⟩⟩) (aq (ae ?_)))));refine ay (ay (aa (zm (.int .u64 (z:Int)) (ag (v:=(.bool (decide ((z:Int)<10)))) (bH rfl rfl rfl rfl) rfl rfl (aq ?_)))));refine ae (bU (v:=(decide ((z:Int)<10))) rfl rfl (fun c1=>?_) (fun c1=>?_))
 ·try simp only[BS]at c1
  refine ay (aa (zm (.int .u64 (z:Int)) (ag (v:=(.int .u64 (48+(z:Int)))) (eB rfl rfl (fW (n:=48+(z:Int)) (by omega))) rfl rfl (ag (v:=(.int .u8 (48+(z:Int)))) (ap_cv rfl rfl rfl (w_u8 (n:=48+(z:Int)) (by omega))) rfl rfl (aJ (bE (α:=UInt8) (ps:=[(0,(.int .u8 (48+(z:Int))))]) (cells:=[(.int .u8 (48+(z:Int)))]) ([(UInt8.ofNat (48+z))]:List UInt8) hs rfl rfl rfl (by kernel_rfl) ⟨[(.int .u8 (48+(z:Int)))],[],rfl,(u8r (n:=48+z) (by omega)),rfl⟩ rfl) rfl rfl ?_)))));rintro _ H3 p2 ⟨a2,k2,rfl,Y,(O:HS _ _ _ [p2] _),_⟩;refine ag (v:=(.string ⟨⟨([(UInt8.ofNat (48+z))]:List UInt8)⟩⟩)) (ap_cvB rfl rfl rfl rfl (OS.sv Y O (i:=0) rfl)) rfl rfl (za (.string ⟨⟨([(UInt8.ofNat (48+z))]:List UInt8)⟩⟩) (aq (ae (ah ⟨.inr rfl,_,rfl,([(UInt8.ofNat (48+z))]:List UInt8),_,fR,(HS.forget O),rfl,(by show [UInt8.ofNat (48+z)]=dec z;rw[cb (by omega)];rfl)⟩))))
 try simp only[BS]at c1
 refine ae (ay (bp rfl (zfm (.int .u64 (z:Int)) (wfv (v:=(.int .u64 ((z/10:Nat):Int))) (ap_div rfl rfl (by decide) (fW (n:=((z/10:Nat):Int)) (by omega))) (ej (W:=[]) (cv rfl rfl rfl) rfl rfl rfl (ih ((z/10:Nat):Int) (HS.call hs.log0) (by omega) (by omega)) (kb rfl) ?_)))));rintro _ H4 ⟨r4,F4,V,A,rfl,rfl⟩;refine⟨Wr.did A.log,fun al T=>?_⟩;replace A:=HS.back hs.log0 rfl A;replace A:=HS.lg A hs T;generalize ({H4 with log:=al}:Heap)=a4 at A⊢;have A:HS _ _ _ [] _:=A;refine zfm (.int .u64 (z:Int)) (wfv (v:=(.int .u64 ((z%10:Nat):Int))) (ap_mod rfl rfl (by decide) rfl) (wfv (v:=(.int .u64 (48+((z%10:Nat):Int)))) (eB rfl rfl (fW (n:=48+((z%10:Nat):Int)) (by omega))) (bJ (v:=(.int .u8 (48+((z%10:Nat):Int)))) (id:= .x []) (ap_cv rfl rfl rfl (w_u8 (n:=48+((z%10:Nat):Int)) (by omega))) rfl rfl (d8 (W:=[]) rfl rfl fun b h=>absurd h a1h) (⟨.inl rfl,⟨.inl rfl,⟨.inl rfl,⟨.inr ⟨trivial,trivial⟩,⟨.inr trivial,⟨.inr trivial,trivial⟩⟩⟩⟩⟩⟩) (fV (id:= .a) (bE (α:=UInt8) (ps:=[(0,(.int .u8 (48+((z%10:Nat):Int))))]) (cells:=[(.int .u8 (48+((z%10:Nat):Int)))]) ([(UInt8.ofNat (48+(z%10)))]:List UInt8) A.log0 rfl rfl rfl (by kernel_rfl) ⟨[(.int .u8 (48+((z%10:Nat):Int)))],[],rfl,(u8r (n:=48+(z%10)) (by omega)),rfl⟩ rfl) rfl rfl (fun _ _ _ _=>did_a rfl rfl rfl) (kb rfl) ?_))));rintro _ H6 p5 ⟨a5,k5,rfl,Z,E,_⟩ an U;replace E:=HS.lg E A U;generalize ({H6 with log:=an}:Heap)=a8 at E⊢;have E:HS _ _ _ [p5] _:=E;refine bJ (v:=(.string ⟨⟨([(UInt8.ofNat (48+(z%10)))]:List UInt8)⟩⟩)) (id:= .x []) (ap_cvB rfl rfl rfl rfl (OS.sv Z E.log0 (i:=0) rfl)) rfl rfl (d8 (W:=[]) rfl rfl fun b h=>absurd h a1h) (⟨.inl rfl,⟨.inl rfl,⟨.inl rfl,⟨.inl rfl,⟨.inl rfl,⟨.inr ⟨trivial,trivial⟩,⟨.inr trivial,⟨.inr trivial,trivial⟩⟩⟩⟩⟩⟩⟩⟩) (wfv (v:=(.string ⟨⟨(dec ((z/10:Nat):Int).toNat)++([(UInt8.ofNat (48+(z%10)))]:List UInt8)⟩⟩)) (ap_addS rfl rfl (a0k (Nat.add_le_add (dec_le (by omega)) (a06 _)) (by simp))) (fa (.string ⟨⟨(dec ((z/10:Nat):Int).toNat)++([(UInt8.ofNat (48+(z%10)))]:List UInt8)⟩⟩) rfl rfl rfl (dM (ae (ah ⟨.inr rfl,_,rfl,(dec ((z/10:Nat):Int).toNat)++([(UInt8.ofNat (48+(z%10)))]:List UInt8),_,(V),(HS.forget E),rfl,(by show _=dec z;rw[gc (n:=z) (by omega)];rfl)⟩)))))
theorem fmt_c(n:Int)(hs:HS (.of H []) F H [] R)(h:0<=n/\n<18446744073709551616):kKt ex 43 [(.int .u64 n)] H fun v H'=> ∃(r:List UInt8) (F':Fz),Fz.le F F'/\HS (.of H []) F' H' [] R/\v= .string ⟨⟨r⟩⟩/\r=dec n.toNat:=
 fmt_c_aux ex (n.toNat+1) n hs h (Nat.lt_succ_self _)
theorem rtext_c(n:Int)(hs:HS (.of H []) F H [] R)(h:in64 n):kKt ex 19 [(iI n)] H fun v H'=> ∃(r:List UInt8) (F':Fz),Fz.le F F'/\HS (.of H []) F' H' [] R/\v= .string ⟨⟨r⟩⟩/\r=dl n:=by
 refine aB Try.func19 rfl rfl (ay (aa (za (.string ⟨⟨[]⟩⟩) (aq (ae ?_)))));refine ay (ay (aa (zm (iI n) (ag (v:=(.bool (decide (n<0)))) (bH rfl rfl rfl rfl) rfl rfl (aq ?_)))));refine ae (bU (v:=(decide (n<0))) rfl rfl (fun c1=>?_) (fun c1=>?_))
 ·try simp only[BS]at c1
  refine ay (aa (zm (iI n) (ag (v:=(iI (n+1))) (eB rfl rfl (w_i64 (n:=n+1) (by omega))) rfl rfl (ag (v:=(iI (0-(n+1)))) (ap_ng rfl (w_i64 (by omega))) rfl rfl (ag (v:=(.int .u64 (0-(n+1)))) (ap_cv rfl rfl rfl (fW (n:=0-(n+1)) (by omega))) rfl rfl ?_)))));refine ag (v:=(.int .u64 ((0-(n+1))+1))) (eB rfl rfl (fW (n:=(0-(n+1))+1) (by omega))) rfl rfl (zc (fmt_c ex ((0-(n+1))+1) (HS.call hs) (by omega)) ?_);rintro _ V ⟨Z,T,E,z,rfl,rfl⟩;replace z:HS _ _ _ [] _:=HS.back hs rfl z;refine ag (v:=(.string ⟨⟨[45]++(dec ((0-(n+1))+1).toNat)⟩⟩)) (ap_addS rfl rfl (tx0 (dec_le (by omega)))) rfl rfl (za (.string ⟨⟨[45]++(dec ((0-(n+1))+1).toNat)⟩⟩) (aq (ae (ah ⟨.inr rfl,_,rfl,[45]++(dec ((0-(n+1))+1).toNat),_,(E),(HS.forget z),rfl,(by rw[dl,if_pos (by omega),show(0-(n+1)+1).toNat=n.natAbs by omega];rfl)⟩))))
 try simp only[BS]at c1
 refine ae (ay (aa (zm (iI n) (ag (v:=(.int .u64 n)) (ap_cv rfl rfl rfl (fW (n:=n) (by omega))) rfl rfl (zc (fmt_c ex n (HS.call hs) (by omega)) ?_)))));rintro _ Y ⟨r3,U,O,A,rfl,rfl⟩;replace A:HS _ _ _ [] _:=HS.back hs rfl A;refine za (.string ⟨⟨dec n.toNat⟩⟩) (aq (ae (ah ⟨.inr rfl,_,rfl,dec n.toNat,_,(O),(HS.forget A),rfl,(by rw[dl,if_neg (by omega)])⟩)))
theorem hP(s:List UInt8)(H:Heap):kKt ex 57 [(.string ⟨⟨s⟩⟩)] H fun v H'=>v= .tuple ⟨[.int .i64 ((av s).getD 0),.bool (av s).isSome]⟩/\H'=H:=cq (parse_c ex s H) (by rintro _ _ ⟨_,_,rfl,rfl,rfl,rfl⟩;exact⟨rfl,rfl⟩)
end Go.Proofs.Ytapgbjedgcpffaa.w3
