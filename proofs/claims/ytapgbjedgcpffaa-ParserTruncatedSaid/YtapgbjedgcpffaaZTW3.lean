/-
Texts of words: writing and reading them, program and reference. No condition but that numbers are words.
-/
import Derived.Test.YtapgbjedgcpffaaZTL1
import Derived.Test.YtapgbjedgcpffaaZTW1
noncomputable section
namespace Go.Proofs.Ytapgbjedgcpffaa.w3
open Go.R
set_option maxRecDepth 10000
set_option linter.unusedVariables false
set_option linter.unusedSimpArgs false
variable (ex:FuncId) {F:Fz} {H:Heap} {R:List Fp}
open w1
theorem pow_le{i k:Nat}(h:i<=k):10^i<=10^k:=Nat.pow_le_pow_right (by decide) h
theorem w_tail{s:List UInt8}:s.tail=s.drop 1:=by cases s<;>rfl
theorem eg{t:List UInt8}:gw t=true↔1<=t.length/\t.length<=19/\t.all eK=true/\(t.getD 0 0=48->t.length=1):=by
 unfold gw;have e:t.headD 0=t.getD 0 0:=by cases t<;>rfl
 rw[e];simp only[a04,a0S,decide_eq_true_eq,bne_iff_ne,ne_eq,beq_iff_eq,and_assoc];constructor
 ·rintro⟨O,T,U,E⟩;exact⟨O,T,U,fun h=>by rcases E with E|E;exact absurd h E;exact E⟩
 rintro⟨O,T,U,E⟩;exact⟨O,T,U,by by_cases h:t.getD 0 0=48;exact .inr (E h);exact .inl h⟩
theorem m6{c:UInt8}:eK c=true↔48<=c.toNat/\c.toNat<=57:=by simp[eK]
theorem u8eq{c:UInt8}{n:Nat}(h:n<256):(c.toNat:Int)=(n:Int)↔c=UInt8.ofNat n:=by
 constructor
 ·intro E;apply UInt8.toNat_inj.1;rw[UInt8.toNat_ofNat'];omega
 rintro rfl;rw[UInt8.toNat_ofNat'];omega
theorem tx0{l:List UInt8}(h:l.length<=20):([45]:List UInt8).length+l.length<=1099511627776:=by simp;omega
theorem dec_le{n:Int}(h:0<=n/\n<18446744073709551616):(dec n.toNat).length<=20:=m8 19 _ (by omega)
theorem head_getD{t:List UInt8}:t.headD 0=t.getD 0 0:=by cases t<;>rfl
theorem c48{c:UInt8}:(c.toNat:Int)=48↔c=48:=u8eq (n:=48) (by decide)
theorem c45{c:UInt8}:(c.toNat:Int)=45↔c=45:=u8eq (n:=45) (by decide)
def sgn:Option Nat->Option Int
 |some 0=>none
 |some n=>some (-(n:Int))
 |none=>none
theorem parse_b{s:List UInt8}(h:0<(s.length:Int)/\((s.getD 0 0).toNat:Int)=45):aO s=sgn (mM (s.drop 1) 9223372036854775808):=by
 unfold aO;rw[head_getD,if_pos (c45.1 h.2),w_tail];cases mM (s.drop 1) 9223372036854775808 with
 |none=>rfl
 |some n=>cases n<;>rfl
theorem mQ{s:List UInt8}(h:0<(s.length:Int)->((s.getD 0 0).toNat:Int)≠45):aO s=(mM s 9223372036854775807).map fun n=>(n:Int):=by
 unfold aO;have:s.headD 0≠45:=by
  rw[head_getD];intro e;cases s with
  |nil=>cases e
  |cons a l=>exact h (by simp) (c45.2 e)
 rw[if_neg this];cases mM s 9223372036854775807<;>rfl
theorem ps_len{t:List UInt8}{m:Nat}(h:t.length<1\/19<t.length):mM t m=none:=by unfold mM;rw[if_neg];rintro⟨E,_⟩;obtain⟨O,T,_⟩:=eg.1 E;omega
theorem ps_zero{t:List UInt8}{m:Nat}(h:t.getD 0 0=48):mM t m=if t.length=1 then some 0 else none:=by
 unfold mM;split
 ·rename_i E;obtain⟨O,U,Y,T⟩:=eg.1 E.1;rw[if_pos (T h)];match t,T h with
  | [a],_=>
   have:a=48:=h
   subst this;rfl
 rename_i E;split
 ·rename_i O;exfalso;apply E;match t,O with
  | [a],_=>
   have:a=48:=h
   subst this;exact⟨by decide,by show 0<=m;omega⟩
 rfl
theorem ps_bad{t:List UInt8}{i m:Nat}(hi:i<t.length)(h:((t.getD i 0).toNat:Int)<48\/57<((t.getD i 0).toNat:Int)):mM t m=none:=by unfold mM;rw[if_neg];rintro⟨E,_⟩;obtain⟨_,_,O,_⟩:=eg.1 E;have:=m6.1 (a0l.1 O (t.getD i 0) (a0p (bf hi)));omega
theorem ps_ok{t:List UInt8}{m:Nat}(E:1<=t.length)(O:t.length<=19)(T:t.all eK=true)(U:t.getD 0 0=48->t.length=1):mM t m=if val t<=m then some (val t) else none:=by unfold mM;have:gw t=true:=eg.2 ⟨E,O,T,U⟩;simp only[this,true_and]
theorem wr1{m:Nat}(h:m<=9223372036854775808):IntKind.i64.wrap (IntKind.u64.wrap (0-(m:Int)))= -(m:Int):=by rw[u64_eq,IntKind.wrap_i64];omega
theorem wr2{m:Nat}(h:m<=9223372036854775807):IntKind.i64.wrap (m:Int)=(m:Int):=lF ⟨by omega,by omega⟩
theorem sgn_of{n:Nat}(h:0<n):sgn (some n)=some (-(n:Int)):=by
 cases n with
 |zero=>omega
 |succ n=>rfl
theorem pb1{s:List UInt8}{q:Prop}(h:0<(s.length:Int)/\((s.getD 0 0).toNat:Int)=45)(c:(((s.drop 1).length:Int)<1\/19<((s.drop 1).length:Int))\/(((s.drop 1).getD 0 0).toNat:Int)=48/\q):aO s=none:=by
 rw[parse_b h];rcases c with c|⟨c,_⟩
 ·rw[ps_len (by omega)];rfl
 rw[ps_zero (c48.1 c)];split<;>rfl
theorem pp1{s:List UInt8}(h:0<(s.length:Int)->((s.getD 0 0).toNat:Int)≠45)(c:((s.length:Int)<1\/19<(s.length:Int))\/((s.getD 0 0).toNat:Int)=48/\(1<(s.length:Int)\/0<(s.length:Int)/\((s.getD 0 0).toNat:Int)=45)):aO s=none:=by
 rw[mQ h];rcases c with c|⟨c,c'⟩
 ·rw[ps_len (by omega)];rfl
 rw[ps_zero (c48.1 c),if_neg (by rcases c' with c'|⟨c1,c2⟩;omega;exact absurd c2 (h c1))];rfl
theorem pb2{s:List UInt8}{i:Nat}(h:0<(s.length:Int)/\((s.getD 0 0).toNat:Int)=45)(hi:(i:Int)<((s.drop 1).length:Int))(c:(((s.drop 1).getD i 0).toNat:Int)<48\/57<(((s.drop 1).getD i 0).toNat:Int)):aO s=none:=by rw[parse_b h,ps_bad (i:=i) (by omega) c];rfl
theorem pp2{s:List UInt8}{i:Nat}(h:0<(s.length:Int)->((s.getD 0 0).toNat:Int)≠45)(hi:(i:Int)<(s.length:Int))(c:((s.getD i 0).toNat:Int)<48\/57<((s.getD i 0).toNat:Int)):aO s=none:=by rw[mQ h,ps_bad (i:=i) (by omega) c];rfl
theorem fin_len{t:List UInt8}{i m:Nat}(T:i<=t.length)(c: ¬(i:Int)<(t.length:Int))(E:m=val (t.take i))(O:(t.take i).all eK=true):m=val t/\t.all eK=true:=by have:t.take i=t:=a0A (by omega);rw[this]at E O;exact⟨E,O⟩
theorem pb3{s:List UInt8}{i m:Nat}{q:Prop}(h:0<(s.length:Int)/\((s.getD 0 0).toNat:Int)=45)(c:(¬((s.drop 1).length:Int)<1/\¬19<((s.drop 1).length:Int))/\((((s.drop 1).getD 0 0).toNat:Int)=48->¬1<((s.drop 1).length:Int)/\q))(hq: ¬q)
  (U:i<=(s.drop 1).length) (ci: ¬(i:Int)<((s.drop 1).length:Int)) (Y:m=val ((s.drop 1).take i)) (Z:((s.drop 1).take i).all eK=true):aO s=if m<=9223372036854775808 then some (-(m:Int)) else none:=by
 obtain⟨O,T⟩:=fin_len U ci Y Z
 have E:(s.drop 1).getD 0 0≠48:=fun e=>hq (c.2 (c48.2 e)).2
 rw[parse_b h,ps_ok (by omega) (by omega) T (fun e=>absurd e E),←O]
 split
 ·rw[sgn_of];rw[O];have hl:1<=(s.drop 1).length:=by omega
  generalize s.drop 1=t at *
  cases t with
  |nil=>simp at hl
  |cons a l=>
   have ha:a≠48:=E
   have hd:=m6.1 (a0l.1 T a (by simp))
   have a2:a.toNat≠48:=fun e=>ha (UInt8.toNat_inj.1 e)
   have key: ∀(l:List UInt8) (n:Nat),0<n->0<l.foldl lR n:=by
    intro l;induction l with
    |nil=>intro n hn;exact hn
    |cons b l ih=>intro n hn;exact ih _ (by unfold lR;omega)
   exact key l _ (by unfold lR;omega)
 rfl
theorem pp3{s:List UInt8}{i m:Nat}{q:Prop}(h:0<(s.length:Int)->((s.getD 0 0).toNat:Int)≠45)(c:(¬(s.length:Int)<1/\¬19<(s.length:Int))/\(((s.getD 0 0).toNat:Int)=48->¬1<(s.length:Int)/\q))
  (T:i<=s.length) (Z: ¬(i:Int)<(s.length:Int)) (U:m=val (s.take i)) (Y:(s.take i).all eK=true):aO s=if m<=9223372036854775807 then some (m:Int) else none:=by
 obtain⟨E,O⟩:=fin_len T Z U Y
 rw[mQ h,ps_ok (by omega) (by omega) O (fun e=>by have:=(c.2 (c48.2 e)).1;omega),←E]
 split<;>rfl
theorem parse_c(s:List UInt8)(H:Heap):kKt ex 57 [(tX s)] H fun v H'=> ∃(r:Int) (ok:Bool),H'=H/\v= .tuple ⟨[iI r,.bool ok]⟩/\r=(aO s).getD 0/\ok=(aO s).isSome:=by
 refine aB Try.func57 rfl rfl (aW (ab (za (iI 0) (za (.bool false) (aH ?_)))));refine ap (aW (ab (zm (tX s) (za (tX s) (aH ?_)))));refine ap (aW (dV 10 17 [5] [(5,(.bool ((decide ((0:Int)<(s.length:Int)))&&(((s.getD 0 0).toNat:Int)==45))))] (fun H'=>H'=H) ?_ ?_))
 ·refine ab (zm (tX s) (ai (v:=(iI (s.length:Int))) (fD rfl rfl) rfl rfl (ai (v:=(.bool (decide ((0:Int)<(s.length:Int))))) (bH rfl rfl rfl rfl) rfl rfl (zm (.bool (decide ((0:Int)<(s.length:Int)))) (ic (v:=(decide ((0:Int)<(s.length:Int)))) rfl rfl (fun g2=>?_) (fun g2=>?_))))))
  ·have c3:=g2;try simp only[BS]at c3
   refine zm (tX s) (aU rfl g2 ?_);have d8:=fG (s.getD 0 0);refine ai (v:=(.int .u8 ((s.getD 0 0).toNat:Int))) (fE (j:=0) rfl rfl rfl (by decide) (bf (by omega))) rfl rfl (aU rfl g2 (ai (v:=(.bool (((s.getD 0 0).toNat:Int)==45))) (bH rfl rfl rfl rfl) rfl rfl (ai (v:=(.bool (((s.getD 0 0).toNat:Int)==45))) (aD rfl g2 rfl) rfl rfl (za (.bool (((s.getD 0 0).toNat:Int)==45)) (aH ?_)))));exact ay ⟨rfl,rfl,(by repeat' first|exact Lr|refine Lu rfl ?_),(agC (congrArg Value.bool (show(((s.getD 0 0).toNat:Int)==45)=((decide ((0:Int)<(s.length:Int)))&&(((s.getD 0 0).toNat:Int)==45)) by simp only[↓g2,BT])) agN)⟩
  have c3:=g2;try simp only[BS]at c3
  refine bN rfl g2 rfl (bN rfl g2 rfl (ai (v:=(.bool false)) (aV rfl g2 rfl) rfl rfl (za (.bool false) (aH ?_))));exact ay ⟨rfl,rfl,(by repeat' first|exact Lr|refine Lu rfl ?_),(agC (congrArg Value.bool (show false=((decide ((0:Int)<(s.length:Int)))&&(((s.getD 0 0).toNat:Int)==45)) by simp only[↓g2,BT])) agN)⟩
 skip;rintro g1 H rfl;refine ap (aW (aW (ab (zm (.bool ((decide ((0:Int)<(s.length:Int)))&&(((s.getD 0 0).toNat:Int)==45))) (aH ?_)))));refine ap (dB (v:=((decide ((0:Int)<(s.length:Int)))&&(((s.getD 0 0).toNat:Int)==45))) rfl rfl (fun a1=>?_) (fun a1=>?_))
 ·have c4:=a1;try simp only[BS]at c4
  have pb:=c4;refine ab (zm (tX s) (ai (v:=(tX (s.drop 1))) (ap_slSd (i:=1) rfl rfl (optN (by decide)) (by omega)) rfl rfl (za (tX (s.drop 1)) (aH (ap ?_)))));refine aW (aW (dV 21 41 [] [(41,(.bool (((decide (((s.drop 1).length:Int)<1))||(decide ((19:Int)<((s.drop 1).length:Int))))||(((((s.drop 1).getD 0 0).toNat:Int)==48)&&((decide ((1:Int)<((s.drop 1).length:Int)))||((decide ((0:Int)<(s.length:Int)))&&(((s.getD 0 0).toNat:Int)==45)))))))] (fun H'=>H'=H) ?_ ?_))
  ·refine ab (zm (tX (s.drop 1)) (ai (v:=(iI ((s.drop 1).length:Int))) (fD rfl rfl) rfl rfl (ai (v:=(.bool (decide (((s.drop 1).length:Int)<1)))) (bH rfl rfl rfl rfl) rfl rfl (zm (.bool (decide (((s.drop 1).length:Int)<1))) (dj (v:=(decide (((s.drop 1).length:Int)<1))) rfl rfl (fun g6=>?_) (fun g6=>?_))))))
   ·have c5:=g6;try simp only[BS]at c5
    refine zm (tX (s.drop 1)) (aU rfl g6 (ai (v:=(iI ((s.drop 1).length:Int))) (fD rfl rfl) rfl rfl (aU rfl g6 (ai (v:=(.bool (decide ((19:Int)<((s.drop 1).length:Int))))) (bH rfl rfl rfl rfl) rfl rfl (ai (v:=(.bool (decide ((19:Int)<((s.drop 1).length:Int))))) (aV rfl g6 rfl) rfl rfl ?_)))));refine zm (.bool (decide ((19:Int)<((s.drop 1).length:Int)))) (dj (v:=(decide ((19:Int)<((s.drop 1).length:Int)))) rfl rfl (fun U=>?_) (fun U=>?_))
    ·have c6:=U;try simp only[BS]at c6
     refine zm (tX (s.drop 1)) (aU rfl U ?_);have d9:=fG ((s.drop 1).getD 0 0);refine ai (v:=(.int .u8 (((s.drop 1).getD 0 0).toNat:Int))) (fE (j:=0) rfl rfl rfl (by decide) (bf (by omega))) rfl rfl (aU rfl U (ai (v:=(.bool ((((s.drop 1).getD 0 0).toNat:Int)==48))) (bH rfl rfl rfl rfl) rfl rfl (aU rfl U (zm (.bool ((((s.drop 1).getD 0 0).toNat:Int)==48)) (ic (v:=((((s.drop 1).getD 0 0).toNat:Int)==48)) rfl rfl (fun g9=>?_) (fun g9=>?_))))))
     ·have c7:=g9;try simp only[BS]at c7
      refine zm (tX (s.drop 1)) (aU rfl g9 (ai (v:=(iI ((s.drop 1).length:Int))) (fD rfl rfl) rfl rfl (aU rfl g9 (ai (v:=(.bool (decide ((1:Int)<((s.drop 1).length:Int))))) (bH rfl rfl rfl rfl) rfl rfl (aU rfl g9 ?_)))));refine zm (.bool (decide ((1:Int)<((s.drop 1).length:Int)))) (dj (v:=(decide ((1:Int)<((s.drop 1).length:Int)))) rfl rfl (fun a2=>?_) (fun a2=>?_))
      ·have b3:=a2;try simp only[BS]at b3
       refine zm (.bool ((decide ((0:Int)<(s.length:Int)))&&(((s.getD 0 0).toNat:Int)==45))) (aU rfl g9 (ai (v:=(.bool ((decide ((0:Int)<(s.length:Int)))&&(((s.getD 0 0).toNat:Int)==45)))) (aV rfl a2 rfl) rfl rfl (aU rfl U (ai (v:=(.bool ((decide ((0:Int)<(s.length:Int)))&&(((s.getD 0 0).toNat:Int)==45)))) (aD rfl g9 rfl) rfl rfl (ai (v:=(.bool ((decide ((0:Int)<(s.length:Int)))&&(((s.getD 0 0).toNat:Int)==45)))) (aV rfl U rfl) rfl rfl ?_)))));refine aH ?_;exact ay ⟨rfl,rfl,(by repeat' first|exact Lr|refine Lu rfl ?_),(agC (congrArg Value.bool (show((decide ((0:Int)<(s.length:Int)))&&(((s.getD 0 0).toNat:Int)==45))=(((decide (((s.drop 1).length:Int)<1))||(decide ((19:Int)<((s.drop 1).length:Int))))||(((((s.drop 1).getD 0 0).toNat:Int)==48)&&((decide ((1:Int)<((s.drop 1).length:Int)))||((decide ((0:Int)<(s.length:Int)))&&(((s.getD 0 0).toNat:Int)==45))))) by simp only[↓g6,↓U,↓g9,↓a2,BT])) agN)⟩
      have b3:=a2;try simp only[BS]at b3
      refine aU rfl g9 (ai (v:=(.bool true)) (aD rfl a2 rfl) rfl rfl (aU rfl U (ai (v:=(.bool true)) (aD rfl g9 rfl) rfl rfl (ai (v:=(.bool true)) (aV rfl U rfl) rfl rfl (aH ?_)))));exact ay ⟨rfl,rfl,(by repeat' first|exact Lr|refine Lu rfl ?_),(agC (congrArg Value.bool (show true=(((decide (((s.drop 1).length:Int)<1))||(decide ((19:Int)<((s.drop 1).length:Int))))||(((((s.drop 1).getD 0 0).toNat:Int)==48)&&((decide ((1:Int)<((s.drop 1).length:Int)))||((decide ((0:Int)<(s.length:Int)))&&(((s.getD 0 0).toNat:Int)==45))))) by simp only[↓g6,↓U,↓g9,↓a2,BT])) agN)⟩
     have c7:=g9;try simp only[BS]at c7
     refine bN rfl g9 rfl (bN rfl g9 rfl (bN rfl g9 rfl (cX rfl rfl (bN rfl g9 rfl (aU rfl U ?_)))));refine ai (v:=(.bool false)) (aV rfl g9 rfl) rfl rfl (ai (v:=(.bool false)) (aV rfl U rfl) rfl rfl (aH ?_));exact ay ⟨rfl,rfl,(by repeat' first|exact Lr|refine Lu rfl ?_),(agC (congrArg Value.bool (show false=(((decide (((s.drop 1).length:Int)<1))||(decide ((19:Int)<((s.drop 1).length:Int))))||(((((s.drop 1).getD 0 0).toNat:Int)==48)&&((decide ((1:Int)<((s.drop 1).length:Int)))||((decide ((0:Int)<(s.length:Int)))&&(((s.getD 0 0).toNat:Int)==45))))) by simp only[↓g6,↓U,↓g9,BT])) agN)⟩
    have c6:=U;try simp only[BS]at c6
    refine aw rfl U rfl (aw rfl U rfl (aw rfl U rfl (cX rfl rfl (cX rfl rfl (cX rfl rfl ?_)))));refine cX rfl rfl (cX rfl rfl (cX rfl rfl (aw rfl U rfl (ai (v:=(.bool true)) (aD rfl U rfl) rfl rfl (aH ?_)))));exact ay ⟨rfl,rfl,(by repeat' first|exact Lr|refine Lu rfl ?_),(agC (congrArg Value.bool (show true=(((decide (((s.drop 1).length:Int)<1))||(decide ((19:Int)<((s.drop 1).length:Int))))||(((((s.drop 1).getD 0 0).toNat:Int)==48)&&((decide ((1:Int)<((s.drop 1).length:Int)))||((decide ((0:Int)<(s.length:Int)))&&(((s.getD 0 0).toNat:Int)==45))))) by simp only[↓g6,↓U,BT])) agN)⟩
   have c5:=g6;try simp only[BS]at c5
   refine aw rfl g6 rfl (aw rfl g6 rfl (ai (v:=(.bool true)) (aD rfl g6 rfl) rfl rfl (zm (.bool true) (aw rfl rfl rfl (aw rfl rfl rfl ?_)))));refine aw rfl rfl rfl (aw rfl rfl rfl (cX rfl rfl (cX rfl rfl (cX rfl rfl (cX rfl rfl ?_)))));refine cX rfl rfl (cX rfl rfl (aw rfl rfl rfl (ai (v:=(.bool true)) (aD rfl rfl rfl) rfl rfl (aH ?_))));exact ay ⟨rfl,rfl,(by repeat' first|exact Lr|refine Lu rfl ?_),(agC (congrArg Value.bool (show true=(((decide (((s.drop 1).length:Int)<1))||(decide ((19:Int)<((s.drop 1).length:Int))))||(((((s.drop 1).getD 0 0).toNat:Int)==48)&&((decide ((1:Int)<((s.drop 1).length:Int)))||((decide ((0:Int)<(s.length:Int)))&&(((s.getD 0 0).toNat:Int)==45))))) by simp only[↓g6,BT])) agN)⟩
  skip;rintro g5 H rfl;refine ap (dB (v:=(((decide (((s.drop 1).length:Int)<1))||(decide ((19:Int)<((s.drop 1).length:Int))))||(((((s.drop 1).getD 0 0).toNat:Int)==48)&&((decide ((1:Int)<((s.drop 1).length:Int)))||((decide ((0:Int)<(s.length:Int)))&&(((s.getD 0 0).toNat:Int)==45)))))) rfl rfl (fun a8=>?_) (fun a8=>?_))
  ·try simp only[BS]at a8
   have pc:=a8;refine aW (ab (za (iI 0) (za (.bool false) (aH (ap ?_)))));refine ah ⟨.inr rfl,_,rfl,0,false,rfl,rfl,(by have e:=pb1 pb pc;rw[e];(try rfl)),(by have e:=pb1 pb pc;rw[e];(try rfl))⟩
  try simp only[BS]at a8
  have pc:=a8;refine ap (aW (ab (za (.int .u64 0) (aH (ap ?_)))));refine aW (aW (ab (za (iI 0) (aH (ap ?_)))));refine iS (au (fun(mm:Nat) f H'=> ∃(i:Nat) (m:Nat),H'=H/\aX f [(4,(tX (s.drop 1))),(5,(.bool ((decide ((0:Int)<(s.length:Int)))&&(((s.getD 0 0).toNat:Int)==45)))),(6,(.int .u64 (m:Int))),(7,(iI (i:Int)))]/\mm=(s.drop 1).length-i/\(i<=(s.drop 1).length)/\(m=val ((s.drop 1).take i))/\(((s.drop 1).take i).all eK=true)/\(m<10^i)/\((s.drop 1).length<=19)) _ ⟨0,0,rfl,⟨rfl,rfl,rfl,rfl,trivial⟩,rfl,(by omega),(by rfl),(by rfl),(by decide),(by omega)⟩ ?_);rintro d6 ea H ⟨i,m,rfl,cL,rfl,h1,h2,h3,h4,h5⟩ c8;refine aI _ cL (fun _=>?_);clear cL;refine aW (aW (ab (zm (iI (i:Int)) (zm (tX (s.drop 1)) (ai (v:=(iI ((s.drop 1).length:Int))) (fD rfl rfl) rfl rfl ?_)))));refine ai (v:=(.bool (decide ((i:Int)<((s.drop 1).length:Int))))) (bH rfl rfl rfl rfl) rfl rfl (aH (ap (dB (v:=(decide ((i:Int)<((s.drop 1).length:Int)))) rfl rfl (fun a9=>?_) (fun a9=>?_))))
  ·try simp only[BS]at a9
   have hp:=pow_le (show i<=18 by omega);have pi:=a9;refine ap (aW (iS (aW (aW (dV 48 57 [] [(57,(.bool ((decide ((((s.drop 1).getD i 0).toNat:Int)<48))||(decide ((57:Int)<(((s.drop 1).getD i 0).toNat:Int))))))] (fun H'=>H'=H) ?_ ?_)))))
   ·refine ab (zm (tX (s.drop 1)) (zm (iI (i:Int)) ?_));have dd:=fG ((s.drop 1).getD i 0);refine ai (v:=(.int .u8 (((s.drop 1).getD i 0).toNat:Int))) (fE (j:=(i:Int)) rfl rfl rfl (by omega) (bf (by omega))) rfl rfl (ai (v:=(.bool (decide ((((s.drop 1).getD i 0).toNat:Int)<48)))) (bH rfl rfl rfl rfl) rfl rfl (zm (.bool (decide ((((s.drop 1).getD i 0).toNat:Int)<48))) (dj (v:=(decide ((((s.drop 1).getD i 0).toNat:Int)<48))) rfl rfl (fun Y=>?_) (fun Y=>?_))))
    ·have b4:=Y;try simp only[BS]at b4
     refine zm (tX (s.drop 1)) (aU rfl Y (zm (iI (i:Int)) (aU rfl Y ?_)));have dk:=fG ((s.drop 1).getD i 0);refine ai (v:=(.int .u8 (((s.drop 1).getD i 0).toNat:Int))) (fE (j:=(i:Int)) rfl rfl rfl (by omega) (bf (by omega))) rfl rfl (aU rfl Y (ai (v:=(.bool (decide ((57:Int)<(((s.drop 1).getD i 0).toNat:Int))))) (bH rfl rfl rfl rfl) rfl rfl (ai (v:=(.bool (decide ((57:Int)<(((s.drop 1).getD i 0).toNat:Int))))) (aV rfl Y rfl) rfl rfl (aH ?_))));exact ay ⟨rfl,rfl,(by repeat' first|exact Lr|refine Lu rfl ?_),(agC (congrArg Value.bool (show(decide ((57:Int)<(((s.drop 1).getD i 0).toNat:Int)))=((decide ((((s.drop 1).getD i 0).toNat:Int)<48))||(decide ((57:Int)<(((s.drop 1).getD i 0).toNat:Int)))) by simp only[↓Y,BT])) agN)⟩
    have b4:=Y;try simp only[BS]at b4
    refine aw rfl Y rfl (aw rfl Y rfl (aw rfl Y rfl (ai (v:=(.bool true)) (aD rfl Y rfl) rfl rfl (aH ?_))));exact ay ⟨rfl,rfl,(by repeat' first|exact Lr|refine Lu rfl ?_),(agC (congrArg Value.bool (show true=((decide ((((s.drop 1).getD i 0).toNat:Int)<48))||(decide ((57:Int)<(((s.drop 1).getD i 0).toNat:Int)))) by simp only[↓Y,BT])) agN)⟩
   skip;rintro et H rfl;refine ap (dB (v:=((decide ((((s.drop 1).getD i 0).toNat:Int)<48))||(decide ((57:Int)<(((s.drop 1).getD i 0).toNat:Int))))) rfl rfl (fun ch=>?_) (fun ch=>?_))
   ·try simp only[BS]at ch
    have pd:=ch;refine aW (ab (za (iI 0) (za (.bool false) (aH (ap ?_)))));refine ah ⟨.inr rfl,_,rfl,0,false,rfl,rfl,(by have e:=pb2 pb pi pd;rw[e];(try rfl)),(by have e:=pb2 pb pi pd;rw[e];(try rfl))⟩
   try simp only[BS]at ch
   refine ap (ab (zm (.int .u64 (m:Int)) (ai (v:=(.int .u64 (10 *(m:Int)))) (ap_mul rfl rfl (jr (n:=10 *(m:Int)) (by omega))) rfl rfl (zm (tX (s.drop 1)) (zm (iI (i:Int)) ?_)))));have dn:=fG ((s.drop 1).getD i 0);refine ai (v:=(.int .u8 (((s.drop 1).getD i 0).toNat:Int))) (fE (j:=(i:Int)) rfl rfl rfl (by omega) (bf (by omega))) rfl rfl (ai (v:=(.int .u8 ((((s.drop 1).getD i 0).toNat-48:Nat):Int))) (ap_sub rfl rfl (natsub (a:=((s.drop 1).getD i 0).toNat) (b:=48) (by omega) (w_u8 (by omega)))) rfl rfl (ai (v:=(.int .u64 ((((s.drop 1).getD i 0).toNat-48:Nat):Int))) (ap_cv rfl rfl rfl (jr (n:=((((s.drop 1).getD i 0).toNat-48:Nat):Int)) (by omega))) rfl rfl (ai (v:=(.int .u64 ((10 *(m:Int))+((((s.drop 1).getD i 0).toNat-48:Nat):Int)))) (fQ rfl rfl (jr (n:=(10 *(m:Int))+((((s.drop 1).getD i 0).toNat-48:Nat):Int)) (by omega))) rfl rfl (za (.int .u64 ((10 *(m:Int))+((((s.drop 1).getD i 0).toNat-48:Nat):Int))) (aH ?_)))));refine fU (ap (ab (zm (iI (i:Int)) (ai (v:=(iI ((i:Int)+1))) (fQ rfl rfl (lF (n:=(i:Int)+1) (by omega))) rfl rfl (za (iI ((i:Int)+1)) ?_)))));refine aH (ap ?_);refine c8 _ _ _ ?_ ⟨i+1,(10 *m)+(((s.drop 1).getD i 0).toNat-48),rfl,⟨rfl,rfl,rfl,rfl,trivial⟩,rfl,(by omega),(by(rw[mB (by omega),h2])),(by(rw[jk (by omega),h3,a1l,m6];omega)),(by(rw[a1V];omega)),(by assumption)⟩;omega
  try simp only[BS]at a9
  have pi:=a9;refine eS (eS (fV (ap (aW (ab ?_)))));refine za (.int .u64 9223372036854775807) (aH (ap (aW (aW (ab ?_)))));refine zm (.bool ((decide ((0:Int)<(s.length:Int)))&&(((s.getD 0 0).toNat:Int)==45))) (aH (ap (wk_true (v:=((decide ((0:Int)<(s.length:Int)))&&(((s.getD 0 0).toNat:Int)==45))) rfl a1 rfl (ab (zm (.int .u64 9223372036854775807) ?_)))));refine ai (v:=(.int .u64 9223372036854775808)) (fQ rfl rfl rfl) rfl rfl (za (.int .u64 9223372036854775808) (aH (ap (aW (aW ?_)))));refine ab (zm (.int .u64 (m:Int)) (zm (.int .u64 9223372036854775808) (ai (v:=(.bool (decide ((9223372036854775808:Int)<(m:Int))))) (bH rfl rfl rfl rfl) rfl rfl (aH (ap ?_)))));refine dB (v:=(decide ((9223372036854775808:Int)<(m:Int)))) rfl rfl (fun bb=>?_) (fun bb=>?_)
  ·try simp only[BS]at bb
   have pm:=bb;refine aW (ab (za (iI 0) (za (.bool false) (aH (ap ?_)))));refine ah ⟨.inr rfl,_,rfl,0,false,rfl,rfl,(by have e:=pb3 pb pc (fun h=>h pb.1 pb.2) h1 pi h2 h3;rw[e];(try rfl);split<;>first|rfl|(exfalso;omega)|exact wr1 (by omega)|exact wr2 (by omega)),(by have e:=pb3 pb pc (fun h=>h pb.1 pb.2) h1 pi h2 h3;rw[e];(try rfl);split<;>first|rfl|(exfalso;omega)|exact wr1 (by omega)|exact wr2 (by omega))⟩
  try simp only[BS]at bb
  have pm:=bb;refine ap (aW (aW (ab (zm (.bool ((decide ((0:Int)<(s.length:Int)))&&(((s.getD 0 0).toNat:Int)==45))) (aH ?_)))));refine ap (wk_true (v:=((decide ((0:Int)<(s.length:Int)))&&(((s.getD 0 0).toNat:Int)==45))) rfl a1 rfl (aW (ab (zm (.int .u64 (m:Int)) (ai (v:=(.int .u64 (IntKind.u64.wrap (0-(m:Int))))) (ap_ng rfl rfl) rfl rfl ?_)))));refine ai (v:=(iI (IntKind.i64.wrap (IntKind.u64.wrap (0-(m:Int)))))) (ap_cv rfl rfl rfl rfl) rfl rfl (za (iI (IntKind.i64.wrap (IntKind.u64.wrap (0-(m:Int))))) (za (.bool true) (aH (ap (ah ⟨.inr rfl,_,rfl,IntKind.i64.wrap (IntKind.u64.wrap (0-(m:Int))),true,rfl,rfl,(by have e:=pb3 pb pc (fun h=>h pb.1 pb.2) h1 pi h2 h3;rw[e];(try rfl);split<;>first|rfl|(exfalso;omega)|exact wr1 (by omega)|exact wr2 (by omega)),(by have e:=pb3 pb pc (fun h=>h pb.1 pb.2) h1 pi h2 h3;rw[e];(try rfl);split<;>first|rfl|(exfalso;omega)|exact wr1 (by omega)|exact wr2 (by omega))⟩)))))
 have c4:=a1;try simp only[BS]at c4
 have pb:=c4;refine ap (aW (aW (dV 21 41 [] [(41,(.bool (((decide ((s.length:Int)<1))||(decide ((19:Int)<(s.length:Int))))||((((s.getD 0 0).toNat:Int)==48)&&((decide ((1:Int)<(s.length:Int)))||((decide ((0:Int)<(s.length:Int)))&&(((s.getD 0 0).toNat:Int)==45)))))))] (fun H'=>H'=H) ?_ ?_)))
 ·refine ab (zm (tX s) (ai (v:=(iI (s.length:Int))) (fD rfl rfl) rfl rfl (ai (v:=(.bool (decide ((s.length:Int)<1)))) (bH rfl rfl rfl rfl) rfl rfl (zm (.bool (decide ((s.length:Int)<1))) (dj (v:=(decide ((s.length:Int)<1))) rfl rfl (fun T=>?_) (fun T=>?_))))))
  ·have b5:=T;try simp only[BS]at b5
   refine zm (tX s) (aU rfl T (ai (v:=(iI (s.length:Int))) (fD rfl rfl) rfl rfl (aU rfl T (ai (v:=(.bool (decide ((19:Int)<(s.length:Int))))) (bH rfl rfl rfl rfl) rfl rfl (ai (v:=(.bool (decide ((19:Int)<(s.length:Int))))) (aV rfl T rfl) rfl rfl ?_)))));refine zm (.bool (decide ((19:Int)<(s.length:Int)))) (dj (v:=(decide ((19:Int)<(s.length:Int)))) rfl rfl (fun E=>?_) (fun E=>?_))
   ·have b6:=E;try simp only[BS]at b6
    refine zm (tX s) (aU rfl E ?_);have dt:=fG (s.getD 0 0);refine ai (v:=(.int .u8 ((s.getD 0 0).toNat:Int))) (fE (j:=0) rfl rfl rfl (by decide) (bf (by omega))) rfl rfl (aU rfl E (ai (v:=(.bool (((s.getD 0 0).toNat:Int)==48))) (bH rfl rfl rfl rfl) rfl rfl (aU rfl E (zm (.bool (((s.getD 0 0).toNat:Int)==48)) (ic (v:=(((s.getD 0 0).toNat:Int)==48)) rfl rfl (fun O=>?_) (fun O=>?_))))))
    ·have b7:=O;try simp only[BS]at b7
     refine zm (tX s) (aU rfl O (ai (v:=(iI (s.length:Int))) (fD rfl rfl) rfl rfl (aU rfl O (ai (v:=(.bool (decide ((1:Int)<(s.length:Int))))) (bH rfl rfl rfl rfl) rfl rfl (aU rfl O ?_)))));refine zm (.bool (decide ((1:Int)<(s.length:Int)))) (dj (v:=(decide ((1:Int)<(s.length:Int)))) rfl rfl (fun a4=>?_) (fun a4=>?_))
     ·have b8:=a4;try simp only[BS]at b8
      refine zm (.bool ((decide ((0:Int)<(s.length:Int)))&&(((s.getD 0 0).toNat:Int)==45))) (aU rfl O (ai (v:=(.bool ((decide ((0:Int)<(s.length:Int)))&&(((s.getD 0 0).toNat:Int)==45)))) (aV rfl a4 rfl) rfl rfl (aU rfl E (ai (v:=(.bool ((decide ((0:Int)<(s.length:Int)))&&(((s.getD 0 0).toNat:Int)==45)))) (aD rfl O rfl) rfl rfl (ai (v:=(.bool ((decide ((0:Int)<(s.length:Int)))&&(((s.getD 0 0).toNat:Int)==45)))) (aV rfl E rfl) rfl rfl ?_)))));refine aH ?_;exact ay ⟨rfl,rfl,(by repeat' first|exact Lr|refine Lu rfl ?_),(agC (congrArg Value.bool (show((decide ((0:Int)<(s.length:Int)))&&(((s.getD 0 0).toNat:Int)==45))=(((decide ((s.length:Int)<1))||(decide ((19:Int)<(s.length:Int))))||((((s.getD 0 0).toNat:Int)==48)&&((decide ((1:Int)<(s.length:Int)))||((decide ((0:Int)<(s.length:Int)))&&(((s.getD 0 0).toNat:Int)==45))))) by simp only[↓T,↓E,↓O,↓a4,BT])) agN)⟩
     have b8:=a4;try simp only[BS]at b8
     refine aU rfl O (ai (v:=(.bool true)) (aD rfl a4 rfl) rfl rfl (aU rfl E (ai (v:=(.bool true)) (aD rfl O rfl) rfl rfl (ai (v:=(.bool true)) (aV rfl E rfl) rfl rfl (aH ?_)))));exact ay ⟨rfl,rfl,(by repeat' first|exact Lr|refine Lu rfl ?_),(agC (congrArg Value.bool (show true=(((decide ((s.length:Int)<1))||(decide ((19:Int)<(s.length:Int))))||((((s.getD 0 0).toNat:Int)==48)&&((decide ((1:Int)<(s.length:Int)))||((decide ((0:Int)<(s.length:Int)))&&(((s.getD 0 0).toNat:Int)==45))))) by simp only[↓T,↓E,↓O,↓a4,BT])) agN)⟩
    have b7:=O;try simp only[BS]at b7
    refine bN rfl O rfl (bN rfl O rfl (bN rfl O rfl (cX rfl rfl (bN rfl O rfl (aU rfl E ?_)))));refine ai (v:=(.bool false)) (aV rfl O rfl) rfl rfl (ai (v:=(.bool false)) (aV rfl E rfl) rfl rfl (aH ?_));exact ay ⟨rfl,rfl,(by repeat' first|exact Lr|refine Lu rfl ?_),(agC (congrArg Value.bool (show false=(((decide ((s.length:Int)<1))||(decide ((19:Int)<(s.length:Int))))||((((s.getD 0 0).toNat:Int)==48)&&((decide ((1:Int)<(s.length:Int)))||((decide ((0:Int)<(s.length:Int)))&&(((s.getD 0 0).toNat:Int)==45))))) by simp only[↓T,↓E,↓O,BT])) agN)⟩
   have b6:=E;try simp only[BS]at b6
   refine aw rfl E rfl (aw rfl E rfl (aw rfl E rfl (cX rfl rfl (cX rfl rfl (cX rfl rfl ?_)))));refine cX rfl rfl (cX rfl rfl (cX rfl rfl (aw rfl E rfl (ai (v:=(.bool true)) (aD rfl E rfl) rfl rfl (aH ?_)))));exact ay ⟨rfl,rfl,(by repeat' first|exact Lr|refine Lu rfl ?_),(agC (congrArg Value.bool (show true=(((decide ((s.length:Int)<1))||(decide ((19:Int)<(s.length:Int))))||((((s.getD 0 0).toNat:Int)==48)&&((decide ((1:Int)<(s.length:Int)))||((decide ((0:Int)<(s.length:Int)))&&(((s.getD 0 0).toNat:Int)==45))))) by simp only[↓T,↓E,BT])) agN)⟩
  have b5:=T;try simp only[BS]at b5
  refine aw rfl T rfl (aw rfl T rfl (ai (v:=(.bool true)) (aD rfl T rfl) rfl rfl (zm (.bool true) (aw rfl rfl rfl (aw rfl rfl rfl ?_)))));refine aw rfl rfl rfl (aw rfl rfl rfl (cX rfl rfl (cX rfl rfl (cX rfl rfl (cX rfl rfl ?_)))));refine cX rfl rfl (cX rfl rfl (aw rfl rfl rfl (ai (v:=(.bool true)) (aD rfl rfl rfl) rfl rfl (aH ?_))));exact ay ⟨rfl,rfl,(by repeat' first|exact Lr|refine Lu rfl ?_),(agC (congrArg Value.bool (show true=(((decide ((s.length:Int)<1))||(decide ((19:Int)<(s.length:Int))))||((((s.getD 0 0).toNat:Int)==48)&&((decide ((1:Int)<(s.length:Int)))||((decide ((0:Int)<(s.length:Int)))&&(((s.getD 0 0).toNat:Int)==45))))) by simp only[↓T,BT])) agN)⟩
 skip;rintro ez H rfl;refine ap (dB (v:=(((decide ((s.length:Int)<1))||(decide ((19:Int)<(s.length:Int))))||((((s.getD 0 0).toNat:Int)==48)&&((decide ((1:Int)<(s.length:Int)))||((decide ((0:Int)<(s.length:Int)))&&(((s.getD 0 0).toNat:Int)==45)))))) rfl rfl (fun b0=>?_) (fun b0=>?_))
 ·try simp only[BS]at b0
  have pc:=b0;refine aW (ab (za (iI 0) (za (.bool false) (aH (ap ?_)))));refine ah ⟨.inr rfl,_,rfl,0,false,rfl,rfl,(by have e:=pp1 pb pc;rw[e];(try rfl)),(by have e:=pp1 pb pc;rw[e];(try rfl))⟩
 try simp only[BS]at b0
 have pc:=b0;refine ap (aW (ab (za (.int .u64 0) (aH (ap ?_)))));refine aW (aW (ab (za (iI 0) (aH (ap ?_)))));refine iS (au (fun(mm:Nat) f H'=> ∃(i:Nat) (m:Nat),H'=H/\aX f [(4,(tX s)),(5,(.bool ((decide ((0:Int)<(s.length:Int)))&&(((s.getD 0 0).toNat:Int)==45)))),(6,(.int .u64 (m:Int))),(7,(iI (i:Int)))]/\mm=s.length-i/\(i<=s.length)/\(m=val (s.take i))/\((s.take i).all eK=true)/\(m<10^i)/\(s.length<=19)) _ ⟨0,0,rfl,⟨rfl,rfl,rfl,rfl,trivial⟩,rfl,(by omega),(by rfl),(by rfl),(by decide),(by omega)⟩ ?_);rintro d7 em H ⟨i,m,rfl,c0,rfl,h1,h2,h3,h4,h5⟩ c9;refine aI _ c0 (fun _=>?_);clear c0;refine aW (aW (ab (zm (iI (i:Int)) (zm (tX s) (ai (v:=(iI (s.length:Int))) (fD rfl rfl) rfl rfl ?_)))));refine ai (v:=(.bool (decide ((i:Int)<(s.length:Int))))) (bH rfl rfl rfl rfl) rfl rfl (aH (ap (dB (v:=(decide ((i:Int)<(s.length:Int)))) rfl rfl (fun b1=>?_) (fun b1=>?_))))
 ·try simp only[BS]at b1
  have hp:=pow_le (show i<=18 by omega);have pi:=b1;refine ap (aW (iS (aW (aW (dV 48 57 [] [(57,(.bool ((decide (((s.getD i 0).toNat:Int)<48))||(decide ((57:Int)<((s.getD i 0).toNat:Int))))))] (fun H'=>H'=H) ?_ ?_)))))
  ·refine ab (zm (tX s) (zm (iI (i:Int)) ?_));have d1:=fG (s.getD i 0);refine ai (v:=(.int .u8 ((s.getD i 0).toNat:Int))) (fE (j:=(i:Int)) rfl rfl rfl (by omega) (bf (by omega))) rfl rfl (ai (v:=(.bool (decide (((s.getD i 0).toNat:Int)<48)))) (bH rfl rfl rfl rfl) rfl rfl (zm (.bool (decide (((s.getD i 0).toNat:Int)<48))) (dj (v:=(decide (((s.getD i 0).toNat:Int)<48))) rfl rfl (fun Z=>?_) (fun Z=>?_))))
   ·have b9:=Z;try simp only[BS]at b9
    refine zm (tX s) (aU rfl Z (zm (iI (i:Int)) (aU rfl Z ?_)));have d2:=fG (s.getD i 0);refine ai (v:=(.int .u8 ((s.getD i 0).toNat:Int))) (fE (j:=(i:Int)) rfl rfl rfl (by omega) (bf (by omega))) rfl rfl (aU rfl Z (ai (v:=(.bool (decide ((57:Int)<((s.getD i 0).toNat:Int))))) (bH rfl rfl rfl rfl) rfl rfl (ai (v:=(.bool (decide ((57:Int)<((s.getD i 0).toNat:Int))))) (aV rfl Z rfl) rfl rfl (aH ?_))));exact ay ⟨rfl,rfl,(by repeat' first|exact Lr|refine Lu rfl ?_),(agC (congrArg Value.bool (show(decide ((57:Int)<((s.getD i 0).toNat:Int)))=((decide (((s.getD i 0).toNat:Int)<48))||(decide ((57:Int)<((s.getD i 0).toNat:Int)))) by simp only[↓Z,BT])) agN)⟩
   have b9:=Z;try simp only[BS]at b9
   refine aw rfl Z rfl (aw rfl Z rfl (aw rfl Z rfl (ai (v:=(.bool true)) (aD rfl Z rfl) rfl rfl (aH ?_))));exact ay ⟨rfl,rfl,(by repeat' first|exact Lr|refine Lu rfl ?_),(agC (congrArg Value.bool (show true=((decide (((s.getD i 0).toNat:Int)<48))||(decide ((57:Int)<((s.getD i 0).toNat:Int)))) by simp only[↓Z,BT])) agN)⟩
  skip;rintro e0 H rfl;refine ap (dB (v:=((decide (((s.getD i 0).toNat:Int)<48))||(decide ((57:Int)<((s.getD i 0).toNat:Int))))) rfl rfl (fun ci=>?_) (fun ci=>?_))
  ·try simp only[BS]at ci
   have pd:=ci;refine aW (ab (za (iI 0) (za (.bool false) (aH (ap ?_)))));refine ah ⟨.inr rfl,_,rfl,0,false,rfl,rfl,(by have e:=pp2 pb pi pd;rw[e];(try rfl)),(by have e:=pp2 pb pi pd;rw[e];(try rfl))⟩
  try simp only[BS]at ci
  refine ap (ab (zm (.int .u64 (m:Int)) (ai (v:=(.int .u64 (10 *(m:Int)))) (ap_mul rfl rfl (jr (n:=10 *(m:Int)) (by omega))) rfl rfl (zm (tX s) (zm (iI (i:Int)) ?_)))));have d3:=fG (s.getD i 0);refine ai (v:=(.int .u8 ((s.getD i 0).toNat:Int))) (fE (j:=(i:Int)) rfl rfl rfl (by omega) (bf (by omega))) rfl rfl (ai (v:=(.int .u8 (((s.getD i 0).toNat-48:Nat):Int))) (ap_sub rfl rfl (natsub (a:=(s.getD i 0).toNat) (b:=48) (by omega) (w_u8 (by omega)))) rfl rfl (ai (v:=(.int .u64 (((s.getD i 0).toNat-48:Nat):Int))) (ap_cv rfl rfl rfl (jr (n:=(((s.getD i 0).toNat-48:Nat):Int)) (by omega))) rfl rfl (ai (v:=(.int .u64 ((10 *(m:Int))+(((s.getD i 0).toNat-48:Nat):Int)))) (fQ rfl rfl (jr (n:=(10 *(m:Int))+(((s.getD i 0).toNat-48:Nat):Int)) (by omega))) rfl rfl (za (.int .u64 ((10 *(m:Int))+(((s.getD i 0).toNat-48:Nat):Int))) (aH ?_)))));refine fU (ap (ab (zm (iI (i:Int)) (ai (v:=(iI ((i:Int)+1))) (fQ rfl rfl (lF (n:=(i:Int)+1) (by omega))) rfl rfl (za (iI ((i:Int)+1)) ?_)))));refine aH (ap ?_);refine c9 _ _ _ ?_ ⟨i+1,(10 *m)+((s.getD i 0).toNat-48),rfl,⟨rfl,rfl,rfl,rfl,trivial⟩,rfl,(by omega),(by(rw[mB (by omega),h2])),(by(rw[jk (by omega),h3,a1l,m6];omega)),(by(rw[a1V];omega)),(by assumption)⟩;omega
 try simp only[BS]at b1
 have pi:=b1;refine eS (eS (fV (ap (aW (ab ?_)))));refine za (.int .u64 9223372036854775807) (aH (ap (aW (aW (ab ?_)))));refine zm (.bool ((decide ((0:Int)<(s.length:Int)))&&(((s.getD 0 0).toNat:Int)==45))) (aH (ap (mz (v:=((decide ((0:Int)<(s.length:Int)))&&(((s.getD 0 0).toNat:Int)==45))) rfl a1 rfl (ap (aW ?_)))));refine aW (ab (zm (.int .u64 (m:Int)) (zm (.int .u64 9223372036854775807) (ai (v:=(.bool (decide ((9223372036854775807:Int)<(m:Int))))) (bH rfl rfl rfl rfl) rfl rfl (aH ?_)))));refine ap (dB (v:=(decide ((9223372036854775807:Int)<(m:Int)))) rfl rfl (fun b2=>?_) (fun b2=>?_))
 ·try simp only[BS]at b2
  have pm:=b2;refine aW (ab (za (iI 0) (za (.bool false) (aH (ap ?_)))));refine ah ⟨.inr rfl,_,rfl,0,false,rfl,rfl,(by have e:=pp3 pb pc h1 pi h2 h3;rw[e];(try rfl);split<;>first|rfl|(exfalso;omega)|exact wr1 (by omega)|exact wr2 (by omega)),(by have e:=pp3 pb pc h1 pi h2 h3;rw[e];(try rfl);split<;>first|rfl|(exfalso;omega)|exact wr1 (by omega)|exact wr2 (by omega))⟩
 try simp only[BS]at b2
 have pm:=b2;refine ap (aW (aW (ab (zm (.bool ((decide ((0:Int)<(s.length:Int)))&&(((s.getD 0 0).toNat:Int)==45))) (aH ?_)))));refine ap (mz (v:=((decide ((0:Int)<(s.length:Int)))&&(((s.getD 0 0).toNat:Int)==45))) rfl a1 rfl (ap (aW (ab (zm (.int .u64 (m:Int)) ?_)))));refine ai (v:=(iI (IntKind.i64.wrap (m:Int)))) (ap_cv rfl rfl rfl rfl) rfl rfl (za (iI (IntKind.i64.wrap (m:Int))) (za (.bool true) (aH (ap (ah ⟨.inr rfl,_,rfl,IntKind.i64.wrap (m:Int),true,rfl,rfl,(by have e:=pp3 pb pc h1 pi h2 h3;rw[e];(try rfl);split<;>first|rfl|(exfalso;omega)|exact wr1 (by omega)|exact wr2 (by omega)),(by have e:=pp3 pb pc h1 pi h2 h3;rw[e];(try rfl);split<;>first|rfl|(exfalso;omega)|exact wr1 (by omega)|exact wr2 (by omega))⟩)))))
theorem fmt_c_aux: ∀(fuel:Nat) (n:Int) {F:Fz} {H:Heap} {R:List Fp} (hs:HS (.of H []) F H [] R) (hn:0<=n/\n<18446744073709551616),n.toNat<fuel->kKt ex 43 [(.int .u64 n)] H fun v H'=> ∃(r:List UInt8) (F':Fz),Fz.le F F'/\HS (.of H []) F' H' [] R/\v=tX r/\r=dec n.toNat:=by
 intro fuel;induction fuel with
 |zero=>intros;omega
 |succ fuel ih=>
 intro n F H R hs hn a6;obtain⟨E,rfl⟩:=a0U hn.1;refine aB Try.func43 rfl rfl (aW (ab (za (tX []) (aH (ap ?_)))));refine aW (aW (ab (zm (.int .u64 (E:Int)) (ai (v:=(.bool (decide ((E:Int)<10)))) (bH rfl rfl rfl rfl) rfl rfl (aH ?_)))));refine ap (dB (v:=(decide ((E:Int)<10))) rfl rfl (fun c1=>?_) (fun c1=>?_))
 ·try simp only[BS]at c1
  refine aW (ab (zm (.int .u64 (E:Int)) (ai (v:=(.int .u64 (48+(E:Int)))) (fQ rfl rfl (jr (n:=48+(E:Int)) (by omega))) rfl rfl (ai (v:=(.int .u8 (48+(E:Int)))) (ap_cv rfl rfl rfl (w_u8 (n:=48+(E:Int)) (by omega))) rfl rfl (aJ (be (α:=UInt8) (ps:=[(0,(.int .u8 (48+(E:Int))))]) (cells:=[(.int .u8 (48+(E:Int)))]) ([(UInt8.ofNat (48+E))]:List UInt8) hs rfl rfl rfl (by kernel_rfl) ⟨[(.int .u8 (48+(E:Int)))],[],rfl,(u8r (n:=48+E) (by omega)),rfl⟩ rfl) rfl rfl ?_)))));rintro _ H3 p2 ⟨a2,k2,rfl,ax,(U:HS _ _ _ [p2] _),_⟩;refine ai (v:=(tX ([(UInt8.ofNat (48+E))]:List UInt8))) (ap_cvB rfl rfl rfl rfl (OS.sv ax U (i:=0) rfl)) rfl rfl (za (tX ([(UInt8.ofNat (48+E))]:List UInt8)) (aH (ap (ah ⟨.inr rfl,_,rfl,([(UInt8.ofNat (48+E))]:List UInt8),_,fR,(HS.forget U),rfl,(by show [UInt8.ofNat (48+E)]=dec E;rw[ej (by omega)];rfl)⟩))))
 try simp only[BS]at c1
 refine ap (aW (aK rfl (zfm (.int .u64 (E:Int)) (wfv (v:=(.int .u64 ((E/10:Nat):Int))) (ap_div rfl rfl (by decide) (jr (n:=((E/10:Nat):Int)) (by omega))) (ba (W:=[]) (aR rfl rfl rfl) rfl rfl rfl (ih ((E/10:Nat):Int) (HS.call hs.log0) (by omega) (by omega)) (kb rfl) ?_)))));rintro _ H4 ⟨r4,F4,an,O,rfl,rfl⟩;refine⟨Wr.did O.log,fun a3 Y=>?_⟩;replace O:=HS.back hs.log0 rfl O;replace O:=HS.lg O hs Y;generalize ({H4 with log:=a3}:Heap)=bb at O⊢;have O:HS _ _ _ [] _:=O;refine zfm (.int .u64 (E:Int)) (wfv (v:=(.int .u64 ((E%10:Nat):Int))) (lz rfl rfl (by decide) rfl) (wfv (v:=(.int .u64 (48+((E%10:Nat):Int)))) (fQ rfl rfl (jr (n:=48+((E%10:Nat):Int)) (by omega))) (aN (v:=(.int .u8 (48+((E%10:Nat):Int)))) (id:= .x []) (ap_cv rfl rfl rfl (w_u8 (n:=48+((E%10:Nat):Int)) (by omega))) rfl rfl (cz (W:=[]) rfl rfl fun b hb=>absurd hb a0h) (⟨.inl rfl,⟨.inl rfl,⟨.inl rfl,⟨.inr ⟨trivial,trivial⟩,⟨.inr trivial,⟨.inr trivial,trivial⟩⟩⟩⟩⟩⟩) (cQ (id:= .a) (be (α:=UInt8) (ps:=[(0,(.int .u8 (48+((E%10:Nat):Int))))]) (cells:=[(.int .u8 (48+((E%10:Nat):Int)))]) ([(UInt8.ofNat (48+(E%10)))]:List UInt8) O.log0 rfl rfl rfl (by kernel_rfl) ⟨[(.int .u8 (48+((E%10:Nat):Int)))],[],rfl,(u8r (n:=48+(E%10)) (by omega)),rfl⟩ rfl) rfl rfl (fun _ _ _ _=>jC rfl rfl rfl) (kb rfl) ?_))));rintro _ H6 p5 ⟨a5,k5,rfl,a1,T,_⟩ a4 Z;replace T:=HS.lg T O Z;generalize ({H6 with log:=a4}:Heap)=b0 at T⊢;have T:HS _ _ _ [p5] _:=T;refine aN (v:=(tX ([(UInt8.ofNat (48+(E%10)))]:List UInt8))) (id:= .x []) (ap_cvB rfl rfl rfl rfl (OS.sv a1 T.log0 (i:=0) rfl)) rfl rfl (cz (W:=[]) rfl rfl fun b hb=>absurd hb a0h) (⟨.inl rfl,⟨.inl rfl,⟨.inl rfl,⟨.inl rfl,⟨.inl rfl,⟨.inr ⟨trivial,trivial⟩,⟨.inr trivial,⟨.inr trivial,trivial⟩⟩⟩⟩⟩⟩⟩⟩) (wfv (v:=(tX ((dec ((E/10:Nat):Int).toNat)++([(UInt8.ofNat (48+(E%10)))]:List UInt8)))) (aL rfl rfl (a05 (Nat.add_le_add (dec_le (by omega)) (a07 _)) (by simp))) (fa (tX ((dec ((E/10:Nat):Int).toNat)++([(UInt8.ofNat (48+(E%10)))]:List UInt8))) rfl rfl rfl (bn (ap (ah ⟨.inr rfl,_,rfl,(dec ((E/10:Nat):Int).toNat)++([(UInt8.ofNat (48+(E%10)))]:List UInt8),_,(an),(HS.forget T),rfl,(by show _=dec E;rw[jE (n:=E) (by omega)];rfl)⟩)))))
theorem fmt_c(n:Int)(hs:HS (.of H []) F H [] R)(E:0<=n/\n<18446744073709551616):kKt ex 43 [(.int .u64 n)] H fun v H'=> ∃(r:List UInt8) (F':Fz),Fz.le F F'/\HS (.of H []) F' H' [] R/\v=tX r/\r=dec n.toNat:=
 fmt_c_aux ex (n.toNat+1) n hs E (a0D _)
theorem rtext_c(n:Int)(hs:HS (.of H []) F H [] R)(hn:in64 n):kKt ex 19 [(iI n)] H fun v H'=> ∃(r:List UInt8) (F':Fz),Fz.le F F'/\HS (.of H []) F' H' [] R/\v=tX r/\r=cS n:=by
 refine aB Try.func19 rfl rfl (aW (ab (za (tX []) (aH (ap ?_)))));refine aW (aW (ab (zm (iI n) (ai (v:=(.bool (decide (n<0)))) (bH rfl rfl rfl rfl) rfl rfl (aH ?_)))));refine ap (dB (v:=(decide (n<0))) rfl rfl (fun c1=>?_) (fun c1=>?_))
 ·try simp only[BS]at c1
  refine aW (ab (zm (iI n) (ai (v:=(iI (n+1))) (fQ rfl rfl (lF (n:=n+1) (by omega))) rfl rfl (ai (v:=(iI (0-(n+1)))) (ap_ng rfl (lF (by omega))) rfl rfl (ai (v:=(.int .u64 (0-(n+1)))) (ap_cv rfl rfl rfl (jr (n:=0-(n+1)) (by omega))) rfl rfl ?_)))));refine ai (v:=(.int .u64 ((0-(n+1))+1))) (fQ rfl rfl (jr (n:=(0-(n+1))+1) (by omega))) rfl rfl (zc (fmt_c ex ((0-(n+1))+1) (HS.call hs) (by omega)) ?_);rintro _ H2 ⟨r2,Y,T,E,rfl,rfl⟩;replace E:HS _ _ _ [] _:=HS.back hs rfl E;refine ai (v:=(tX ([45]++(dec ((0-(n+1))+1).toNat)))) (aL rfl rfl (tx0 (dec_le (by omega)))) rfl rfl (za (tX ([45]++(dec ((0-(n+1))+1).toNat))) (aH (ap (ah ⟨.inr rfl,_,rfl,[45]++(dec ((0-(n+1))+1).toNat),_,(T),(HS.forget E),rfl,(by rw[cS,if_pos (by omega),show(0-(n+1)+1).toNat=n.natAbs by omega];rfl)⟩))))
 try simp only[BS]at c1
 refine ap (aW (ab (zm (iI n) (ai (v:=(.int .u64 n)) (ap_cv rfl rfl rfl (jr (n:=n) (by omega))) rfl rfl (zc (fmt_c ex n (HS.call hs) (by omega)) ?_)))));rintro _ H3 ⟨r3,Z,U,O,rfl,rfl⟩;replace O:HS _ _ _ [] _:=HS.back hs rfl O;refine za (tX (dec n.toNat)) (aH (ap (ah ⟨.inr rfl,_,rfl,dec n.toNat,_,(U),(HS.forget O),rfl,(by rw[cS,if_neg (by omega)])⟩)))
theorem kX(s:List UInt8)(H:Heap):kKt ex 57 [(tX s)] H fun v H'=>v= .tuple ⟨[iI ((aO s).getD 0),.bool (aO s).isSome]⟩/\H'=H:=cq (parse_c ex s H) (by rintro _ _ ⟨_,_,rfl,rfl,rfl,rfl⟩;exact⟨rfl,rfl⟩)
end Go.Proofs.Ytapgbjedgcpffaa.w3
