/-
Texts of words: writing and reading them, program and reference. No condition but that numbers are words.
-/
import Derived.Test.YtapgbjedgcpffaaZQL1
import Derived.Test.YtapgbjedgcpffaaZQW1
noncomputable section
namespace Go.Proofs.Ytapgbjedgcpffaa.w3
open Go.R
set_option maxRecDepth 10000
set_option linter.unusedVariables false
set_option linter.unusedSimpArgs false
variable (ex:FuncId) {F:Fz} {H:Heap} {R:List Fp}
open w1
theorem pow_le{i k:Nat}(h:i<=k):10^i<=10^k:=Nat.pow_le_pow_right (by decide) h
theorem w_tail{s:List UInt8}:s.tail=s.drop 1:=by cases s<;>rfl
theorem fY{t:List UInt8}:iC t=true↔1<=t.length/\t.length<=19/\t.all eB=true/\(t.getD 0 0=48->t.length=1):=by
 unfold iC;have e:t.headD 0=t.getD 0 0:=by cases t<;>rfl
 rw[e];simp only[a04,a0O,decide_eq_true_eq,bne_iff_ne,ne_eq,beq_iff_eq,and_assoc];constructor
 ·rintro⟨O,T,U,E⟩;exact⟨O,T,U,fun h=>by rcases E with E|E;exact absurd h E;exact E⟩
 rintro⟨O,T,U,E⟩;exact⟨O,T,U,by by_cases h:t.getD 0 0=48;exact .inr (E h);exact .inl h⟩
theorem l8{c:UInt8}:eB c=true↔48<=c.toNat/\c.toNat<=57:=by simp[eB]
theorem u8eq{c:UInt8}{n:Nat}(h:n<256):(c.toNat:Int)=(n:Int)↔c=UInt8.ofNat n:=by
 constructor
 ·intro E;apply UInt8.toNat_inj.1;rw[UInt8.toNat_ofNat'];omega
 rintro rfl;rw[UInt8.toNat_ofNat'];omega
theorem tx0{l:List UInt8}(h:l.length<=20):([45]:List UInt8).length+l.length<=1099511627776:=by simp;omega
theorem dec_le{n:Int}(h:0<=n/\n<18446744073709551616):(dec n.toNat).length<=20:=ma 19 _ (by omega)
theorem head_getD{t:List UInt8}:t.headD 0=t.getD 0 0:=by cases t<;>rfl
theorem c48{c:UInt8}:(c.toNat:Int)=48↔c=48:=u8eq (n:=48) (by decide)
theorem c45{c:UInt8}:(c.toNat:Int)=45↔c=45:=u8eq (n:=45) (by decide)
def sgn:Option Nat->Option Int
 |some 0=>none
 |some n=>some (-(n:Int))
 |none=>none
theorem parse_b{s:List UInt8}(h:0<(s.length:Int)/\((s.getD 0 0).toNat:Int)=45):aV s=sgn (posS (s.drop 1) 9223372036854775808):=by
 unfold aV;rw[head_getD,if_pos (c45.1 h.2),w_tail];cases posS (s.drop 1) 9223372036854775808 with
 |none=>rfl
 |some n=>cases n<;>rfl
theorem parse_p{s:List UInt8}(h:0<(s.length:Int)->((s.getD 0 0).toNat:Int)≠45):aV s=(posS s 9223372036854775807).map fun n=>(n:Int):=by
 unfold aV;have:s.headD 0≠45:=by
  rw[head_getD];intro e;cases s with
  |nil=>cases e
  |cons a l=>exact h (by simp) (c45.2 e)
 rw[if_neg this];cases posS s 9223372036854775807<;>rfl
theorem ps_len{t:List UInt8}{m:Nat}(h:t.length<1\/19<t.length):posS t m=none:=by unfold posS;rw[if_neg];rintro⟨E,_⟩;obtain⟨O,T,_⟩:=fY.1 E;omega
theorem ps_zero{t:List UInt8}{m:Nat}(h:t.getD 0 0=48):posS t m=if t.length=1 then some 0 else none:=by
 unfold posS;split
 ·rename_i E;obtain⟨O,U,Y,T⟩:=fY.1 E.1;rw[if_pos (T h)];match t,T h with
  | [a],_=>
   have:a=48:=h
   subst this;rfl
 rename_i E;split
 ·rename_i O;exfalso;apply E;match t,O with
  | [a],_=>
   have:a=48:=h
   subst this;exact⟨by decide,by show 0<=m;omega⟩
 rfl
theorem ps_bad{t:List UInt8}{i m:Nat}(hi:i<t.length)(h:((t.getD i 0).toNat:Int)<48\/57<((t.getD i 0).toNat:Int)):posS t m=none:=by unfold posS;rw[if_neg];rintro⟨E,_⟩;obtain⟨_,_,O,_⟩:=fY.1 E;have:=l8.1 (a0l.1 O (t.getD i 0) (a0o (aS hi)));omega
theorem ps_ok{t:List UInt8}{m:Nat}(E:1<=t.length)(O:t.length<=19)(T:t.all eB=true)(U:t.getD 0 0=48->t.length=1):posS t m=if val t<=m then some (val t) else none:=by unfold posS;have:iC t=true:=fY.2 ⟨E,O,T,U⟩;simp only[this,true_and]
theorem wr1{m:Nat}(h:m<=9223372036854775808):IntKind.i64.wrap (IntKind.u64.wrap (0-(m:Int)))= -(m:Int):=by rw[u64_eq,IntKind.wrap_i64];omega
theorem wr2{m:Nat}(h:m<=9223372036854775807):IntKind.i64.wrap (m:Int)=(m:Int):=kC ⟨by omega,by omega⟩
theorem sgn_of{n:Nat}(h:0<n):sgn (some n)=some (-(n:Int)):=by
 cases n with
 |zero=>omega
 |succ n=>rfl
theorem pb1{s:List UInt8}{q:Prop}(h:0<(s.length:Int)/\((s.getD 0 0).toNat:Int)=45)(c:(((s.drop 1).length:Int)<1\/19<((s.drop 1).length:Int))\/(((s.drop 1).getD 0 0).toNat:Int)=48/\q):aV s=none:=by
 rw[parse_b h];rcases c with c|⟨c,_⟩
 ·rw[ps_len (by omega)];rfl
 rw[ps_zero (c48.1 c)];split<;>rfl
theorem pp1{s:List UInt8}(h:0<(s.length:Int)->((s.getD 0 0).toNat:Int)≠45)(c:((s.length:Int)<1\/19<(s.length:Int))\/((s.getD 0 0).toNat:Int)=48/\(1<(s.length:Int)\/0<(s.length:Int)/\((s.getD 0 0).toNat:Int)=45)):aV s=none:=by
 rw[parse_p h];rcases c with c|⟨c,c'⟩
 ·rw[ps_len (by omega)];rfl
 rw[ps_zero (c48.1 c),if_neg (by rcases c' with c'|⟨c1,c2⟩;omega;exact absurd c2 (h c1))];rfl
theorem pb2{s:List UInt8}{i:Nat}(h:0<(s.length:Int)/\((s.getD 0 0).toNat:Int)=45)(hi:(i:Int)<((s.drop 1).length:Int))(c:(((s.drop 1).getD i 0).toNat:Int)<48\/57<(((s.drop 1).getD i 0).toNat:Int)):aV s=none:=by rw[parse_b h,ps_bad (i:=i) (by omega) c];rfl
theorem pp2{s:List UInt8}{i:Nat}(h:0<(s.length:Int)->((s.getD 0 0).toNat:Int)≠45)(hi:(i:Int)<(s.length:Int))(c:((s.getD i 0).toNat:Int)<48\/57<((s.getD i 0).toNat:Int)):aV s=none:=by rw[parse_p h,ps_bad (i:=i) (by omega) c];rfl
theorem fin_len{t:List UInt8}{i m:Nat}(T:i<=t.length)(c: ¬(i:Int)<(t.length:Int))(E:m=val (t.take i))(O:(t.take i).all eB=true):m=val t/\t.all eB=true:=by have:t.take i=t:=a0C (by omega);rw[this]at E O;exact⟨E,O⟩
theorem pb3{s:List UInt8}{i m:Nat}{q:Prop}(h:0<(s.length:Int)/\((s.getD 0 0).toNat:Int)=45)(c:(¬((s.drop 1).length:Int)<1/\¬19<((s.drop 1).length:Int))/\((((s.drop 1).getD 0 0).toNat:Int)=48->¬1<((s.drop 1).length:Int)/\q))(hq: ¬q)
  (U:i<=(s.drop 1).length) (ci: ¬(i:Int)<((s.drop 1).length:Int)) (Y:m=val ((s.drop 1).take i)) (Z:((s.drop 1).take i).all eB=true):aV s=if m<=9223372036854775808 then some (-(m:Int)) else none:=by
 obtain⟨O,T⟩:=fin_len U ci Y Z
 have E:(s.drop 1).getD 0 0≠48:=fun e=>hq (c.2 (c48.2 e)).2
 rw[parse_b h,ps_ok (by omega) (by omega) T (fun e=>absurd e E),←O]
 split
 ·rw[sgn_of];rw[O];have hl:1<=(s.drop 1).length:=by omega
  generalize s.drop 1=t at *
  cases t with
  |nil=>simp at hl
  |cons a l=>
   have ha:a≠48:=E
   have hd:=l8.1 (a0l.1 T a (by simp))
   have a1:a.toNat≠48:=fun e=>ha (UInt8.toNat_inj.1 e)
   have key: ∀(l:List UInt8) (n:Nat),0<n->0<l.foldl valA n:=by
    intro l;induction l with
    |nil=>intro n hn;exact hn
    |cons b l ih=>intro n hn;exact ih _ (by unfold valA;omega)
   exact key l _ (by unfold valA;omega)
 rfl
theorem pp3{s:List UInt8}{i m:Nat}{q:Prop}(h:0<(s.length:Int)->((s.getD 0 0).toNat:Int)≠45)(c:(¬(s.length:Int)<1/\¬19<(s.length:Int))/\(((s.getD 0 0).toNat:Int)=48->¬1<(s.length:Int)/\q))
  (T:i<=s.length) (Z: ¬(i:Int)<(s.length:Int)) (U:m=val (s.take i)) (Y:(s.take i).all eB=true):aV s=if m<=9223372036854775807 then some (m:Int) else none:=by
 obtain⟨E,O⟩:=fin_len T Z U Y
 rw[parse_p h,ps_ok (by omega) (by omega) O (fun e=>by have:=(c.2 (c48.2 e)).1;omega),←E]
 split<;>rfl
theorem parse_c(s:List UInt8)(H:Heap):kKt ex 57 [(tX s)] H fun v H'=> ∃(r:Int) (ok:Bool),H'=H/\v= .tuple ⟨[iI r,.bool ok]⟩/\r=(aV s).getD 0/\ok=(aV s).isSome:=by
 refine aB Try.func57 rfl rfl (aW (ab (za (iI 0) (za (.bool false) (aD ?_)))));refine ap (aW (ab (zm (tX s) (za (tX s) (aD ?_)))));refine ap (aW (cX 10 17 [5] [(5,(.bool ((decide ((0:Int)<(s.length:Int)))&&(((s.getD 0 0).toNat:Int)==45))))] (fun H'=>H'=H) ?_ ?_))
 ·refine ab (zm (tX s) (ag (v:=(iI (s.length:Int))) (eQ rfl rfl) rfl rfl (ag (v:=(.bool (decide ((0:Int)<(s.length:Int))))) (br rfl rfl rfl rfl) rfl rfl (zm (.bool (decide ((0:Int)<(s.length:Int)))) (gH (v:=(decide ((0:Int)<(s.length:Int)))) rfl rfl (fun g2=>?_) (fun g2=>?_))))))
  ·have c0:=g2;try simp only[BS]at c0
   refine zm (tX s) (aC rfl g2 ?_);have d8:=eT (s.getD 0 0);refine ag (v:=(.int .u8 ((s.getD 0 0).toNat:Int))) (eR (j:=0) rfl rfl rfl (by decide) (aS (by omega))) rfl rfl (aC rfl g2 (ag (v:=(.bool (((s.getD 0 0).toNat:Int)==45))) (br rfl rfl rfl rfl) rfl rfl (ag (v:=(.bool (((s.getD 0 0).toNat:Int)==45))) (au rfl g2 rfl) rfl rfl (za (.bool (((s.getD 0 0).toNat:Int)==45)) (aD ?_)))));exact aw ⟨rfl,rfl,(by repeat' first|exact Lr|refine Lu rfl ?_),(agC (congrArg Value.bool (show(((s.getD 0 0).toNat:Int)==45)=((decide ((0:Int)<(s.length:Int)))&&(((s.getD 0 0).toNat:Int)==45)) by simp only[↓g2,BT])) agN)⟩
  have c0:=g2;try simp only[BS]at c0
  refine bI rfl g2 rfl (bI rfl g2 rfl (ag (v:=(.bool false)) (aK rfl g2 rfl) rfl rfl (za (.bool false) (aD ?_))));exact aw ⟨rfl,rfl,(by repeat' first|exact Lr|refine Lu rfl ?_),(agC (congrArg Value.bool (show false=((decide ((0:Int)<(s.length:Int)))&&(((s.getD 0 0).toNat:Int)==45)) by simp only[↓g2,BT])) agN)⟩
 skip;rintro g1 H rfl;refine ap (aW (aW (ab (zm (.bool ((decide ((0:Int)<(s.length:Int)))&&(((s.getD 0 0).toNat:Int)==45))) (aD ?_)))));refine ap (dm (v:=((decide ((0:Int)<(s.length:Int)))&&(((s.getD 0 0).toNat:Int)==45))) rfl rfl (fun ax=>?_) (fun ax=>?_))
 ·have c4:=ax;try simp only[BS]at c4
  have pb:=c4;refine ab (zm (tX s) (ag (v:=(tX (s.drop 1))) (ap_slSd (i:=1) rfl rfl (optN (by decide)) (by omega)) rfl rfl (za (tX (s.drop 1)) (aD (ap ?_)))));refine aW (aW (cX 21 41 [] [(41,(.bool (((decide (((s.drop 1).length:Int)<1))||(decide ((19:Int)<((s.drop 1).length:Int))))||(((((s.drop 1).getD 0 0).toNat:Int)==48)&&((decide ((1:Int)<((s.drop 1).length:Int)))||((decide ((0:Int)<(s.length:Int)))&&(((s.getD 0 0).toNat:Int)==45)))))))] (fun H'=>H'=H) ?_ ?_))
  ·refine ab (zm (tX (s.drop 1)) (ag (v:=(iI ((s.drop 1).length:Int))) (eQ rfl rfl) rfl rfl (ag (v:=(.bool (decide (((s.drop 1).length:Int)<1)))) (br rfl rfl rfl rfl) rfl rfl (zm (.bool (decide (((s.drop 1).length:Int)<1))) (cj (v:=(decide (((s.drop 1).length:Int)<1))) rfl rfl (fun g6=>?_) (fun g6=>?_))))))
   ·have c3:=g6;try simp only[BS]at c3
    refine zm (tX (s.drop 1)) (aC rfl g6 (ag (v:=(iI ((s.drop 1).length:Int))) (eQ rfl rfl) rfl rfl (aC rfl g6 (ag (v:=(.bool (decide ((19:Int)<((s.drop 1).length:Int))))) (br rfl rfl rfl rfl) rfl rfl (ag (v:=(.bool (decide ((19:Int)<((s.drop 1).length:Int))))) (aK rfl g6 rfl) rfl rfl ?_)))));refine zm (.bool (decide ((19:Int)<((s.drop 1).length:Int)))) (cj (v:=(decide ((19:Int)<((s.drop 1).length:Int)))) rfl rfl (fun U=>?_) (fun U=>?_))
    ·have c5:=U;try simp only[BS]at c5
     refine zm (tX (s.drop 1)) (aC rfl U ?_);have d9:=eT ((s.drop 1).getD 0 0);refine ag (v:=(.int .u8 (((s.drop 1).getD 0 0).toNat:Int))) (eR (j:=0) rfl rfl rfl (by decide) (aS (by omega))) rfl rfl (aC rfl U (ag (v:=(.bool ((((s.drop 1).getD 0 0).toNat:Int)==48))) (br rfl rfl rfl rfl) rfl rfl (aC rfl U (zm (.bool ((((s.drop 1).getD 0 0).toNat:Int)==48)) (gH (v:=((((s.drop 1).getD 0 0).toNat:Int)==48)) rfl rfl (fun g9=>?_) (fun g9=>?_))))))
     ·have c6:=g9;try simp only[BS]at c6
      refine zm (tX (s.drop 1)) (aC rfl g9 (ag (v:=(iI ((s.drop 1).length:Int))) (eQ rfl rfl) rfl rfl (aC rfl g9 (ag (v:=(.bool (decide ((1:Int)<((s.drop 1).length:Int))))) (br rfl rfl rfl rfl) rfl rfl (aC rfl g9 ?_)))));refine zm (.bool (decide ((1:Int)<((s.drop 1).length:Int)))) (cj (v:=(decide ((1:Int)<((s.drop 1).length:Int)))) rfl rfl (fun a1=>?_) (fun a1=>?_))
      ·have b2:=a1;try simp only[BS]at b2
       refine zm (.bool ((decide ((0:Int)<(s.length:Int)))&&(((s.getD 0 0).toNat:Int)==45))) (aC rfl g9 (ag (v:=(.bool ((decide ((0:Int)<(s.length:Int)))&&(((s.getD 0 0).toNat:Int)==45)))) (aK rfl a1 rfl) rfl rfl (aC rfl U (ag (v:=(.bool ((decide ((0:Int)<(s.length:Int)))&&(((s.getD 0 0).toNat:Int)==45)))) (au rfl g9 rfl) rfl rfl (ag (v:=(.bool ((decide ((0:Int)<(s.length:Int)))&&(((s.getD 0 0).toNat:Int)==45)))) (aK rfl U rfl) rfl rfl ?_)))));refine aD ?_;exact aw ⟨rfl,rfl,(by repeat' first|exact Lr|refine Lu rfl ?_),(agC (congrArg Value.bool (show((decide ((0:Int)<(s.length:Int)))&&(((s.getD 0 0).toNat:Int)==45))=(((decide (((s.drop 1).length:Int)<1))||(decide ((19:Int)<((s.drop 1).length:Int))))||(((((s.drop 1).getD 0 0).toNat:Int)==48)&&((decide ((1:Int)<((s.drop 1).length:Int)))||((decide ((0:Int)<(s.length:Int)))&&(((s.getD 0 0).toNat:Int)==45))))) by simp only[↓g6,↓U,↓g9,↓a1,BT])) agN)⟩
      have b2:=a1;try simp only[BS]at b2
      refine aC rfl g9 (ag (v:=(.bool true)) (au rfl a1 rfl) rfl rfl (aC rfl U (ag (v:=(.bool true)) (au rfl g9 rfl) rfl rfl (ag (v:=(.bool true)) (aK rfl U rfl) rfl rfl (aD ?_)))));exact aw ⟨rfl,rfl,(by repeat' first|exact Lr|refine Lu rfl ?_),(agC (congrArg Value.bool (show true=(((decide (((s.drop 1).length:Int)<1))||(decide ((19:Int)<((s.drop 1).length:Int))))||(((((s.drop 1).getD 0 0).toNat:Int)==48)&&((decide ((1:Int)<((s.drop 1).length:Int)))||((decide ((0:Int)<(s.length:Int)))&&(((s.getD 0 0).toNat:Int)==45))))) by simp only[↓g6,↓U,↓g9,↓a1,BT])) agN)⟩
     have c6:=g9;try simp only[BS]at c6
     refine bI rfl g9 rfl (bI rfl g9 rfl (bI rfl g9 rfl (cR rfl rfl (bI rfl g9 rfl (aC rfl U ?_)))));refine ag (v:=(.bool false)) (aK rfl g9 rfl) rfl rfl (ag (v:=(.bool false)) (aK rfl U rfl) rfl rfl (aD ?_));exact aw ⟨rfl,rfl,(by repeat' first|exact Lr|refine Lu rfl ?_),(agC (congrArg Value.bool (show false=(((decide (((s.drop 1).length:Int)<1))||(decide ((19:Int)<((s.drop 1).length:Int))))||(((((s.drop 1).getD 0 0).toNat:Int)==48)&&((decide ((1:Int)<((s.drop 1).length:Int)))||((decide ((0:Int)<(s.length:Int)))&&(((s.getD 0 0).toNat:Int)==45))))) by simp only[↓g6,↓U,↓g9,BT])) agN)⟩
    have c5:=U;try simp only[BS]at c5
    refine ah rfl U rfl (ah rfl U rfl (ah rfl U rfl (cR rfl rfl (cR rfl rfl (cR rfl rfl ?_)))));refine cR rfl rfl (cR rfl rfl (cR rfl rfl (ah rfl U rfl (ag (v:=(.bool true)) (au rfl U rfl) rfl rfl (aD ?_)))));exact aw ⟨rfl,rfl,(by repeat' first|exact Lr|refine Lu rfl ?_),(agC (congrArg Value.bool (show true=(((decide (((s.drop 1).length:Int)<1))||(decide ((19:Int)<((s.drop 1).length:Int))))||(((((s.drop 1).getD 0 0).toNat:Int)==48)&&((decide ((1:Int)<((s.drop 1).length:Int)))||((decide ((0:Int)<(s.length:Int)))&&(((s.getD 0 0).toNat:Int)==45))))) by simp only[↓g6,↓U,BT])) agN)⟩
   have c3:=g6;try simp only[BS]at c3
   refine ah rfl g6 rfl (ah rfl g6 rfl (ag (v:=(.bool true)) (au rfl g6 rfl) rfl rfl (zm (.bool true) (ah rfl rfl rfl (ah rfl rfl rfl ?_)))));refine ah rfl rfl rfl (ah rfl rfl rfl (cR rfl rfl (cR rfl rfl (cR rfl rfl (cR rfl rfl ?_)))));refine cR rfl rfl (cR rfl rfl (ah rfl rfl rfl (ag (v:=(.bool true)) (au rfl rfl rfl) rfl rfl (aD ?_))));exact aw ⟨rfl,rfl,(by repeat' first|exact Lr|refine Lu rfl ?_),(agC (congrArg Value.bool (show true=(((decide (((s.drop 1).length:Int)<1))||(decide ((19:Int)<((s.drop 1).length:Int))))||(((((s.drop 1).getD 0 0).toNat:Int)==48)&&((decide ((1:Int)<((s.drop 1).length:Int)))||((decide ((0:Int)<(s.length:Int)))&&(((s.getD 0 0).toNat:Int)==45))))) by simp only[↓g6,BT])) agN)⟩
  skip;rintro g5 H rfl;refine ap (dm (v:=(((decide (((s.drop 1).length:Int)<1))||(decide ((19:Int)<((s.drop 1).length:Int))))||(((((s.drop 1).getD 0 0).toNat:Int)==48)&&((decide ((1:Int)<((s.drop 1).length:Int)))||((decide ((0:Int)<(s.length:Int)))&&(((s.getD 0 0).toNat:Int)==45)))))) rfl rfl (fun a7=>?_) (fun a7=>?_))
  ·try simp only[BS]at a7
   have pc:=a7;refine aW (ab (za (iI 0) (za (.bool false) (aD (ap ?_)))));refine aj ⟨.inr rfl,_,rfl,0,false,rfl,rfl,(by have e:=pb1 pb pc;rw[e];(try rfl)),(by have e:=pb1 pb pc;rw[e];(try rfl))⟩
  try simp only[BS]at a7
  have pc:=a7;refine ap (aW (ab (za (.int .u64 0) (aD (ap ?_)))));refine aW (aW (ab (za (iI 0) (aD (ap ?_)))));refine hP (av (fun(mm:Nat) f H'=> ∃(i:Nat) (m:Nat),H'=H/\aQ f [(4,(tX (s.drop 1))),(5,(.bool ((decide ((0:Int)<(s.length:Int)))&&(((s.getD 0 0).toNat:Int)==45)))),(6,(.int .u64 (m:Int))),(7,(iI (i:Int)))]/\mm=(s.drop 1).length-i/\(i<=(s.drop 1).length)/\(m=val ((s.drop 1).take i))/\(((s.drop 1).take i).all eB=true)/\(m<10^i)/\((s.drop 1).length<=19)) _ ⟨0,0,rfl,⟨rfl,rfl,rfl,rfl,trivial⟩,rfl,(by omega),(by rfl),(by rfl),(by decide),(by omega)⟩ ?_);rintro d6 ea H ⟨i,m,rfl,co,rfl,h1,h2,h3,h4,h5⟩ c7;refine aE _ co (fun _=>?_);clear co;refine aW (aW (ab (zm (iI (i:Int)) (zm (tX (s.drop 1)) (ag (v:=(iI ((s.drop 1).length:Int))) (eQ rfl rfl) rfl rfl ?_)))));refine ag (v:=(.bool (decide ((i:Int)<((s.drop 1).length:Int))))) (br rfl rfl rfl rfl) rfl rfl (aD (ap (dm (v:=(decide ((i:Int)<((s.drop 1).length:Int)))) rfl rfl (fun a8=>?_) (fun a8=>?_))))
  ·try simp only[BS]at a8
   have hp:=pow_le (show i<=18 by omega);have pi:=a8;refine ap (aW (hP (aW (aW (cX 48 57 [] [(57,(.bool ((decide ((((s.drop 1).getD i 0).toNat:Int)<48))||(decide ((57:Int)<(((s.drop 1).getD i 0).toNat:Int))))))] (fun H'=>H'=H) ?_ ?_)))))
   ·refine ab (zm (tX (s.drop 1)) (zm (iI (i:Int)) ?_));have c9:=eT ((s.drop 1).getD i 0);refine ag (v:=(.int .u8 (((s.drop 1).getD i 0).toNat:Int))) (eR (j:=(i:Int)) rfl rfl rfl (by omega) (aS (by omega))) rfl rfl (ag (v:=(.bool (decide ((((s.drop 1).getD i 0).toNat:Int)<48)))) (br rfl rfl rfl rfl) rfl rfl (zm (.bool (decide ((((s.drop 1).getD i 0).toNat:Int)<48))) (cj (v:=(decide ((((s.drop 1).getD i 0).toNat:Int)<48))) rfl rfl (fun Y=>?_) (fun Y=>?_))))
    ·have b3:=Y;try simp only[BS]at b3
     refine zm (tX (s.drop 1)) (aC rfl Y (zm (iI (i:Int)) (aC rfl Y ?_)));have dd:=eT ((s.drop 1).getD i 0);refine ag (v:=(.int .u8 (((s.drop 1).getD i 0).toNat:Int))) (eR (j:=(i:Int)) rfl rfl rfl (by omega) (aS (by omega))) rfl rfl (aC rfl Y (ag (v:=(.bool (decide ((57:Int)<(((s.drop 1).getD i 0).toNat:Int))))) (br rfl rfl rfl rfl) rfl rfl (ag (v:=(.bool (decide ((57:Int)<(((s.drop 1).getD i 0).toNat:Int))))) (aK rfl Y rfl) rfl rfl (aD ?_))));exact aw ⟨rfl,rfl,(by repeat' first|exact Lr|refine Lu rfl ?_),(agC (congrArg Value.bool (show(decide ((57:Int)<(((s.drop 1).getD i 0).toNat:Int)))=((decide ((((s.drop 1).getD i 0).toNat:Int)<48))||(decide ((57:Int)<(((s.drop 1).getD i 0).toNat:Int)))) by simp only[↓Y,BT])) agN)⟩
    have b3:=Y;try simp only[BS]at b3
    refine ah rfl Y rfl (ah rfl Y rfl (ah rfl Y rfl (ag (v:=(.bool true)) (au rfl Y rfl) rfl rfl (aD ?_))));exact aw ⟨rfl,rfl,(by repeat' first|exact Lr|refine Lu rfl ?_),(agC (congrArg Value.bool (show true=((decide ((((s.drop 1).getD i 0).toNat:Int)<48))||(decide ((57:Int)<(((s.drop 1).getD i 0).toNat:Int)))) by simp only[↓Y,BT])) agN)⟩
   skip;rintro et H rfl;refine ap (dm (v:=((decide ((((s.drop 1).getD i 0).toNat:Int)<48))||(decide ((57:Int)<(((s.drop 1).getD i 0).toNat:Int))))) rfl rfl (fun b9=>?_) (fun b9=>?_))
   ·try simp only[BS]at b9
    have pd:=b9;refine aW (ab (za (iI 0) (za (.bool false) (aD (ap ?_)))));refine aj ⟨.inr rfl,_,rfl,0,false,rfl,rfl,(by have e:=pb2 pb pi pd;rw[e];(try rfl)),(by have e:=pb2 pb pi pd;rw[e];(try rfl))⟩
   try simp only[BS]at b9
   refine ap (ab (zm (.int .u64 (m:Int)) (ag (v:=(.int .u64 (10 *(m:Int)))) (ap_mul rfl rfl (iw (n:=10 *(m:Int)) (by omega))) rfl rfl (zm (tX (s.drop 1)) (zm (iI (i:Int)) ?_)))));have dn:=eT ((s.drop 1).getD i 0);refine ag (v:=(.int .u8 (((s.drop 1).getD i 0).toNat:Int))) (eR (j:=(i:Int)) rfl rfl rfl (by omega) (aS (by omega))) rfl rfl (ag (v:=(.int .u8 ((((s.drop 1).getD i 0).toNat-48:Nat):Int))) (ap_sub rfl rfl (natsub (a:=((s.drop 1).getD i 0).toNat) (b:=48) (by omega) (w_u8 (by omega)))) rfl rfl (ag (v:=(.int .u64 ((((s.drop 1).getD i 0).toNat-48:Nat):Int))) (ap_cv rfl rfl rfl (iw (n:=((((s.drop 1).getD i 0).toNat-48:Nat):Int)) (by omega))) rfl rfl (ag (v:=(.int .u64 ((10 *(m:Int))+((((s.drop 1).getD i 0).toNat-48:Nat):Int)))) (fc rfl rfl (iw (n:=(10 *(m:Int))+((((s.drop 1).getD i 0).toNat-48:Nat):Int)) (by omega))) rfl rfl (za (.int .u64 ((10 *(m:Int))+((((s.drop 1).getD i 0).toNat-48:Nat):Int))) (aD ?_)))));refine fh (ap (ab (zm (iI (i:Int)) (ag (v:=(iI ((i:Int)+1))) (fc rfl rfl (kC (n:=(i:Int)+1) (by omega))) rfl rfl (za (iI ((i:Int)+1)) ?_)))));refine aD (ap ?_);refine c7 _ _ _ ?_ ⟨i+1,(10 *m)+(((s.drop 1).getD i 0).toNat-48),rfl,⟨rfl,rfl,rfl,rfl,trivial⟩,rfl,(by omega),(by(rw[lF (by omega),h2])),(by(rw[iq (by omega),h3,a1j,l8];omega)),(by(rw[a1S];omega)),(by assumption)⟩;omega
  try simp only[BS]at a8
  have pi:=a8;refine er (er (fj (ap (aW (ab ?_)))));refine za (.int .u64 9223372036854775807) (aD (ap (aW (aW (ab ?_)))));refine zm (.bool ((decide ((0:Int)<(s.length:Int)))&&(((s.getD 0 0).toNat:Int)==45))) (aD (ap (wk_true (v:=((decide ((0:Int)<(s.length:Int)))&&(((s.getD 0 0).toNat:Int)==45))) rfl ax rfl (ab (zm (.int .u64 9223372036854775807) ?_)))));refine ag (v:=(.int .u64 9223372036854775808)) (fc rfl rfl rfl) rfl rfl (za (.int .u64 9223372036854775808) (aD (ap (aW (aW ?_)))));refine ab (zm (.int .u64 (m:Int)) (zm (.int .u64 9223372036854775808) (ag (v:=(.bool (decide ((9223372036854775808:Int)<(m:Int))))) (br rfl rfl rfl rfl) rfl rfl (aD (ap ?_)))));refine dm (v:=(decide ((9223372036854775808:Int)<(m:Int)))) rfl rfl (fun a9=>?_) (fun a9=>?_)
  ·try simp only[BS]at a9
   have pm:=a9;refine aW (ab (za (iI 0) (za (.bool false) (aD (ap ?_)))));refine aj ⟨.inr rfl,_,rfl,0,false,rfl,rfl,(by have e:=pb3 pb pc (fun h=>h pb.1 pb.2) h1 pi h2 h3;rw[e];(try rfl);split<;>first|rfl|(exfalso;omega)|exact wr1 (by omega)|exact wr2 (by omega)),(by have e:=pb3 pb pc (fun h=>h pb.1 pb.2) h1 pi h2 h3;rw[e];(try rfl);split<;>first|rfl|(exfalso;omega)|exact wr1 (by omega)|exact wr2 (by omega))⟩
  try simp only[BS]at a9
  have pm:=a9;refine ap (aW (aW (ab (zm (.bool ((decide ((0:Int)<(s.length:Int)))&&(((s.getD 0 0).toNat:Int)==45))) (aD ?_)))));refine ap (wk_true (v:=((decide ((0:Int)<(s.length:Int)))&&(((s.getD 0 0).toNat:Int)==45))) rfl ax rfl (aW (ab (zm (.int .u64 (m:Int)) (ag (v:=(.int .u64 (IntKind.u64.wrap (0-(m:Int))))) (ap_ng rfl rfl) rfl rfl ?_)))));refine ag (v:=(iI (IntKind.i64.wrap (IntKind.u64.wrap (0-(m:Int)))))) (ap_cv rfl rfl rfl rfl) rfl rfl (za (iI (IntKind.i64.wrap (IntKind.u64.wrap (0-(m:Int))))) (za (.bool true) (aD (ap (aj ⟨.inr rfl,_,rfl,IntKind.i64.wrap (IntKind.u64.wrap (0-(m:Int))),true,rfl,rfl,(by have e:=pb3 pb pc (fun h=>h pb.1 pb.2) h1 pi h2 h3;rw[e];(try rfl);split<;>first|rfl|(exfalso;omega)|exact wr1 (by omega)|exact wr2 (by omega)),(by have e:=pb3 pb pc (fun h=>h pb.1 pb.2) h1 pi h2 h3;rw[e];(try rfl);split<;>first|rfl|(exfalso;omega)|exact wr1 (by omega)|exact wr2 (by omega))⟩)))))
 have c4:=ax;try simp only[BS]at c4
 have pb:=c4;refine ap (aW (aW (cX 21 41 [] [(41,(.bool (((decide ((s.length:Int)<1))||(decide ((19:Int)<(s.length:Int))))||((((s.getD 0 0).toNat:Int)==48)&&((decide ((1:Int)<(s.length:Int)))||((decide ((0:Int)<(s.length:Int)))&&(((s.getD 0 0).toNat:Int)==45)))))))] (fun H'=>H'=H) ?_ ?_)))
 ·refine ab (zm (tX s) (ag (v:=(iI (s.length:Int))) (eQ rfl rfl) rfl rfl (ag (v:=(.bool (decide ((s.length:Int)<1)))) (br rfl rfl rfl rfl) rfl rfl (zm (.bool (decide ((s.length:Int)<1))) (cj (v:=(decide ((s.length:Int)<1))) rfl rfl (fun T=>?_) (fun T=>?_))))))
  ·have b4:=T;try simp only[BS]at b4
   refine zm (tX s) (aC rfl T (ag (v:=(iI (s.length:Int))) (eQ rfl rfl) rfl rfl (aC rfl T (ag (v:=(.bool (decide ((19:Int)<(s.length:Int))))) (br rfl rfl rfl rfl) rfl rfl (ag (v:=(.bool (decide ((19:Int)<(s.length:Int))))) (aK rfl T rfl) rfl rfl ?_)))));refine zm (.bool (decide ((19:Int)<(s.length:Int)))) (cj (v:=(decide ((19:Int)<(s.length:Int)))) rfl rfl (fun E=>?_) (fun E=>?_))
   ·have b5:=E;try simp only[BS]at b5
    refine zm (tX s) (aC rfl E ?_);have dt:=eT (s.getD 0 0);refine ag (v:=(.int .u8 ((s.getD 0 0).toNat:Int))) (eR (j:=0) rfl rfl rfl (by decide) (aS (by omega))) rfl rfl (aC rfl E (ag (v:=(.bool (((s.getD 0 0).toNat:Int)==48))) (br rfl rfl rfl rfl) rfl rfl (aC rfl E (zm (.bool (((s.getD 0 0).toNat:Int)==48)) (gH (v:=(((s.getD 0 0).toNat:Int)==48)) rfl rfl (fun O=>?_) (fun O=>?_))))))
    ·have b6:=O;try simp only[BS]at b6
     refine zm (tX s) (aC rfl O (ag (v:=(iI (s.length:Int))) (eQ rfl rfl) rfl rfl (aC rfl O (ag (v:=(.bool (decide ((1:Int)<(s.length:Int))))) (br rfl rfl rfl rfl) rfl rfl (aC rfl O ?_)))));refine zm (.bool (decide ((1:Int)<(s.length:Int)))) (cj (v:=(decide ((1:Int)<(s.length:Int)))) rfl rfl (fun a3=>?_) (fun a3=>?_))
     ·have b7:=a3;try simp only[BS]at b7
      refine zm (.bool ((decide ((0:Int)<(s.length:Int)))&&(((s.getD 0 0).toNat:Int)==45))) (aC rfl O (ag (v:=(.bool ((decide ((0:Int)<(s.length:Int)))&&(((s.getD 0 0).toNat:Int)==45)))) (aK rfl a3 rfl) rfl rfl (aC rfl E (ag (v:=(.bool ((decide ((0:Int)<(s.length:Int)))&&(((s.getD 0 0).toNat:Int)==45)))) (au rfl O rfl) rfl rfl (ag (v:=(.bool ((decide ((0:Int)<(s.length:Int)))&&(((s.getD 0 0).toNat:Int)==45)))) (aK rfl E rfl) rfl rfl ?_)))));refine aD ?_;exact aw ⟨rfl,rfl,(by repeat' first|exact Lr|refine Lu rfl ?_),(agC (congrArg Value.bool (show((decide ((0:Int)<(s.length:Int)))&&(((s.getD 0 0).toNat:Int)==45))=(((decide ((s.length:Int)<1))||(decide ((19:Int)<(s.length:Int))))||((((s.getD 0 0).toNat:Int)==48)&&((decide ((1:Int)<(s.length:Int)))||((decide ((0:Int)<(s.length:Int)))&&(((s.getD 0 0).toNat:Int)==45))))) by simp only[↓T,↓E,↓O,↓a3,BT])) agN)⟩
     have b7:=a3;try simp only[BS]at b7
     refine aC rfl O (ag (v:=(.bool true)) (au rfl a3 rfl) rfl rfl (aC rfl E (ag (v:=(.bool true)) (au rfl O rfl) rfl rfl (ag (v:=(.bool true)) (aK rfl E rfl) rfl rfl (aD ?_)))));exact aw ⟨rfl,rfl,(by repeat' first|exact Lr|refine Lu rfl ?_),(agC (congrArg Value.bool (show true=(((decide ((s.length:Int)<1))||(decide ((19:Int)<(s.length:Int))))||((((s.getD 0 0).toNat:Int)==48)&&((decide ((1:Int)<(s.length:Int)))||((decide ((0:Int)<(s.length:Int)))&&(((s.getD 0 0).toNat:Int)==45))))) by simp only[↓T,↓E,↓O,↓a3,BT])) agN)⟩
    have b6:=O;try simp only[BS]at b6
    refine bI rfl O rfl (bI rfl O rfl (bI rfl O rfl (cR rfl rfl (bI rfl O rfl (aC rfl E ?_)))));refine ag (v:=(.bool false)) (aK rfl O rfl) rfl rfl (ag (v:=(.bool false)) (aK rfl E rfl) rfl rfl (aD ?_));exact aw ⟨rfl,rfl,(by repeat' first|exact Lr|refine Lu rfl ?_),(agC (congrArg Value.bool (show false=(((decide ((s.length:Int)<1))||(decide ((19:Int)<(s.length:Int))))||((((s.getD 0 0).toNat:Int)==48)&&((decide ((1:Int)<(s.length:Int)))||((decide ((0:Int)<(s.length:Int)))&&(((s.getD 0 0).toNat:Int)==45))))) by simp only[↓T,↓E,↓O,BT])) agN)⟩
   have b5:=E;try simp only[BS]at b5
   refine ah rfl E rfl (ah rfl E rfl (ah rfl E rfl (cR rfl rfl (cR rfl rfl (cR rfl rfl ?_)))));refine cR rfl rfl (cR rfl rfl (cR rfl rfl (ah rfl E rfl (ag (v:=(.bool true)) (au rfl E rfl) rfl rfl (aD ?_)))));exact aw ⟨rfl,rfl,(by repeat' first|exact Lr|refine Lu rfl ?_),(agC (congrArg Value.bool (show true=(((decide ((s.length:Int)<1))||(decide ((19:Int)<(s.length:Int))))||((((s.getD 0 0).toNat:Int)==48)&&((decide ((1:Int)<(s.length:Int)))||((decide ((0:Int)<(s.length:Int)))&&(((s.getD 0 0).toNat:Int)==45))))) by simp only[↓T,↓E,BT])) agN)⟩
  have b4:=T;try simp only[BS]at b4
  refine ah rfl T rfl (ah rfl T rfl (ag (v:=(.bool true)) (au rfl T rfl) rfl rfl (zm (.bool true) (ah rfl rfl rfl (ah rfl rfl rfl ?_)))));refine ah rfl rfl rfl (ah rfl rfl rfl (cR rfl rfl (cR rfl rfl (cR rfl rfl (cR rfl rfl ?_)))));refine cR rfl rfl (cR rfl rfl (ah rfl rfl rfl (ag (v:=(.bool true)) (au rfl rfl rfl) rfl rfl (aD ?_))));exact aw ⟨rfl,rfl,(by repeat' first|exact Lr|refine Lu rfl ?_),(agC (congrArg Value.bool (show true=(((decide ((s.length:Int)<1))||(decide ((19:Int)<(s.length:Int))))||((((s.getD 0 0).toNat:Int)==48)&&((decide ((1:Int)<(s.length:Int)))||((decide ((0:Int)<(s.length:Int)))&&(((s.getD 0 0).toNat:Int)==45))))) by simp only[↓T,BT])) agN)⟩
 skip;rintro ez H rfl;refine ap (dm (v:=(((decide ((s.length:Int)<1))||(decide ((19:Int)<(s.length:Int))))||((((s.getD 0 0).toNat:Int)==48)&&((decide ((1:Int)<(s.length:Int)))||((decide ((0:Int)<(s.length:Int)))&&(((s.getD 0 0).toNat:Int)==45)))))) rfl rfl (fun bb=>?_) (fun bb=>?_))
 ·try simp only[BS]at bb
  have pc:=bb;refine aW (ab (za (iI 0) (za (.bool false) (aD (ap ?_)))));refine aj ⟨.inr rfl,_,rfl,0,false,rfl,rfl,(by have e:=pp1 pb pc;rw[e];(try rfl)),(by have e:=pp1 pb pc;rw[e];(try rfl))⟩
 try simp only[BS]at bb
 have pc:=bb;refine ap (aW (ab (za (.int .u64 0) (aD (ap ?_)))));refine aW (aW (ab (za (iI 0) (aD (ap ?_)))));refine hP (av (fun(mm:Nat) f H'=> ∃(i:Nat) (m:Nat),H'=H/\aQ f [(4,(tX s)),(5,(.bool ((decide ((0:Int)<(s.length:Int)))&&(((s.getD 0 0).toNat:Int)==45)))),(6,(.int .u64 (m:Int))),(7,(iI (i:Int)))]/\mm=s.length-i/\(i<=s.length)/\(m=val (s.take i))/\((s.take i).all eB=true)/\(m<10^i)/\(s.length<=19)) _ ⟨0,0,rfl,⟨rfl,rfl,rfl,rfl,trivial⟩,rfl,(by omega),(by rfl),(by rfl),(by decide),(by omega)⟩ ?_);rintro d7 em H ⟨i,m,rfl,cL,rfl,h1,h2,h3,h4,h5⟩ c8;refine aE _ cL (fun _=>?_);clear cL;refine aW (aW (ab (zm (iI (i:Int)) (zm (tX s) (ag (v:=(iI (s.length:Int))) (eQ rfl rfl) rfl rfl ?_)))));refine ag (v:=(.bool (decide ((i:Int)<(s.length:Int))))) (br rfl rfl rfl rfl) rfl rfl (aD (ap (dm (v:=(decide ((i:Int)<(s.length:Int)))) rfl rfl (fun b0=>?_) (fun b0=>?_))))
 ·try simp only[BS]at b0
  have hp:=pow_le (show i<=18 by omega);have pi:=b0;refine ap (aW (hP (aW (aW (cX 48 57 [] [(57,(.bool ((decide (((s.getD i 0).toNat:Int)<48))||(decide ((57:Int)<((s.getD i 0).toNat:Int))))))] (fun H'=>H'=H) ?_ ?_)))))
  ·refine ab (zm (tX s) (zm (iI (i:Int)) ?_));have d1:=eT (s.getD i 0);refine ag (v:=(.int .u8 ((s.getD i 0).toNat:Int))) (eR (j:=(i:Int)) rfl rfl rfl (by omega) (aS (by omega))) rfl rfl (ag (v:=(.bool (decide (((s.getD i 0).toNat:Int)<48)))) (br rfl rfl rfl rfl) rfl rfl (zm (.bool (decide (((s.getD i 0).toNat:Int)<48))) (cj (v:=(decide (((s.getD i 0).toNat:Int)<48))) rfl rfl (fun Z=>?_) (fun Z=>?_))))
   ·have b8:=Z;try simp only[BS]at b8
    refine zm (tX s) (aC rfl Z (zm (iI (i:Int)) (aC rfl Z ?_)));have d2:=eT (s.getD i 0);refine ag (v:=(.int .u8 ((s.getD i 0).toNat:Int))) (eR (j:=(i:Int)) rfl rfl rfl (by omega) (aS (by omega))) rfl rfl (aC rfl Z (ag (v:=(.bool (decide ((57:Int)<((s.getD i 0).toNat:Int))))) (br rfl rfl rfl rfl) rfl rfl (ag (v:=(.bool (decide ((57:Int)<((s.getD i 0).toNat:Int))))) (aK rfl Z rfl) rfl rfl (aD ?_))));exact aw ⟨rfl,rfl,(by repeat' first|exact Lr|refine Lu rfl ?_),(agC (congrArg Value.bool (show(decide ((57:Int)<((s.getD i 0).toNat:Int)))=((decide (((s.getD i 0).toNat:Int)<48))||(decide ((57:Int)<((s.getD i 0).toNat:Int)))) by simp only[↓Z,BT])) agN)⟩
   have b8:=Z;try simp only[BS]at b8
   refine ah rfl Z rfl (ah rfl Z rfl (ah rfl Z rfl (ag (v:=(.bool true)) (au rfl Z rfl) rfl rfl (aD ?_))));exact aw ⟨rfl,rfl,(by repeat' first|exact Lr|refine Lu rfl ?_),(agC (congrArg Value.bool (show true=((decide (((s.getD i 0).toNat:Int)<48))||(decide ((57:Int)<((s.getD i 0).toNat:Int)))) by simp only[↓Z,BT])) agN)⟩
  skip;rintro e0 H rfl;refine ap (dm (v:=((decide (((s.getD i 0).toNat:Int)<48))||(decide ((57:Int)<((s.getD i 0).toNat:Int))))) rfl rfl (fun ch=>?_) (fun ch=>?_))
  ·try simp only[BS]at ch
   have pd:=ch;refine aW (ab (za (iI 0) (za (.bool false) (aD (ap ?_)))));refine aj ⟨.inr rfl,_,rfl,0,false,rfl,rfl,(by have e:=pp2 pb pi pd;rw[e];(try rfl)),(by have e:=pp2 pb pi pd;rw[e];(try rfl))⟩
  try simp only[BS]at ch
  refine ap (ab (zm (.int .u64 (m:Int)) (ag (v:=(.int .u64 (10 *(m:Int)))) (ap_mul rfl rfl (iw (n:=10 *(m:Int)) (by omega))) rfl rfl (zm (tX s) (zm (iI (i:Int)) ?_)))));have d3:=eT (s.getD i 0);refine ag (v:=(.int .u8 ((s.getD i 0).toNat:Int))) (eR (j:=(i:Int)) rfl rfl rfl (by omega) (aS (by omega))) rfl rfl (ag (v:=(.int .u8 (((s.getD i 0).toNat-48:Nat):Int))) (ap_sub rfl rfl (natsub (a:=(s.getD i 0).toNat) (b:=48) (by omega) (w_u8 (by omega)))) rfl rfl (ag (v:=(.int .u64 (((s.getD i 0).toNat-48:Nat):Int))) (ap_cv rfl rfl rfl (iw (n:=(((s.getD i 0).toNat-48:Nat):Int)) (by omega))) rfl rfl (ag (v:=(.int .u64 ((10 *(m:Int))+(((s.getD i 0).toNat-48:Nat):Int)))) (fc rfl rfl (iw (n:=(10 *(m:Int))+(((s.getD i 0).toNat-48:Nat):Int)) (by omega))) rfl rfl (za (.int .u64 ((10 *(m:Int))+(((s.getD i 0).toNat-48:Nat):Int))) (aD ?_)))));refine fh (ap (ab (zm (iI (i:Int)) (ag (v:=(iI ((i:Int)+1))) (fc rfl rfl (kC (n:=(i:Int)+1) (by omega))) rfl rfl (za (iI ((i:Int)+1)) ?_)))));refine aD (ap ?_);refine c8 _ _ _ ?_ ⟨i+1,(10 *m)+((s.getD i 0).toNat-48),rfl,⟨rfl,rfl,rfl,rfl,trivial⟩,rfl,(by omega),(by(rw[lF (by omega),h2])),(by(rw[iq (by omega),h3,a1j,l8];omega)),(by(rw[a1S];omega)),(by assumption)⟩;omega
 try simp only[BS]at b0
 have pi:=b0;refine er (er (fj (ap (aW (ab ?_)))));refine za (.int .u64 9223372036854775807) (aD (ap (aW (aW (ab ?_)))));refine zm (.bool ((decide ((0:Int)<(s.length:Int)))&&(((s.getD 0 0).toNat:Int)==45))) (aD (ap (lD (v:=((decide ((0:Int)<(s.length:Int)))&&(((s.getD 0 0).toNat:Int)==45))) rfl ax rfl (ap (aW ?_)))));refine aW (ab (zm (.int .u64 (m:Int)) (zm (.int .u64 9223372036854775807) (ag (v:=(.bool (decide ((9223372036854775807:Int)<(m:Int))))) (br rfl rfl rfl rfl) rfl rfl (aD ?_)))));refine ap (dm (v:=(decide ((9223372036854775807:Int)<(m:Int)))) rfl rfl (fun b1=>?_) (fun b1=>?_))
 ·try simp only[BS]at b1
  have pm:=b1;refine aW (ab (za (iI 0) (za (.bool false) (aD (ap ?_)))));refine aj ⟨.inr rfl,_,rfl,0,false,rfl,rfl,(by have e:=pp3 pb pc h1 pi h2 h3;rw[e];(try rfl);split<;>first|rfl|(exfalso;omega)|exact wr1 (by omega)|exact wr2 (by omega)),(by have e:=pp3 pb pc h1 pi h2 h3;rw[e];(try rfl);split<;>first|rfl|(exfalso;omega)|exact wr1 (by omega)|exact wr2 (by omega))⟩
 try simp only[BS]at b1
 have pm:=b1;refine ap (aW (aW (ab (zm (.bool ((decide ((0:Int)<(s.length:Int)))&&(((s.getD 0 0).toNat:Int)==45))) (aD ?_)))));refine ap (lD (v:=((decide ((0:Int)<(s.length:Int)))&&(((s.getD 0 0).toNat:Int)==45))) rfl ax rfl (ap (aW (ab (zm (.int .u64 (m:Int)) ?_)))));refine ag (v:=(iI (IntKind.i64.wrap (m:Int)))) (ap_cv rfl rfl rfl rfl) rfl rfl (za (iI (IntKind.i64.wrap (m:Int))) (za (.bool true) (aD (ap (aj ⟨.inr rfl,_,rfl,IntKind.i64.wrap (m:Int),true,rfl,rfl,(by have e:=pp3 pb pc h1 pi h2 h3;rw[e];(try rfl);split<;>first|rfl|(exfalso;omega)|exact wr1 (by omega)|exact wr2 (by omega)),(by have e:=pp3 pb pc h1 pi h2 h3;rw[e];(try rfl);split<;>first|rfl|(exfalso;omega)|exact wr1 (by omega)|exact wr2 (by omega))⟩)))))
theorem fmt_c_aux: ∀(fuel:Nat) (n:Int) {F:Fz} {H:Heap} {R:List Fp} (hs:HS (.of H []) F H [] R) (h:0<=n/\n<18446744073709551616),n.toNat<fuel->kKt ex 43 [(.int .u64 n)] H fun v H'=> ∃(r:List UInt8) (F':Fz),Fz.le F F'/\HS (.of H []) F' H' [] R/\v=tX r/\r=dec n.toNat:=by
 intro fuel;induction fuel with
 |zero=>intros;omega
 |succ fuel ih=>
 intro n F H R hs h ar;obtain⟨E,rfl⟩:=a0T h.1;refine aB Try.func43 rfl rfl (aW (ab (za (tX []) (aD (ap ?_)))));refine aW (aW (ab (zm (.int .u64 (E:Int)) (ag (v:=(.bool (decide ((E:Int)<10)))) (br rfl rfl rfl rfl) rfl rfl (aD ?_)))));refine ap (dm (v:=(decide ((E:Int)<10))) rfl rfl (fun c1=>?_) (fun c1=>?_))
 ·try simp only[BS]at c1
  refine aW (ab (zm (.int .u64 (E:Int)) (ag (v:=(.int .u64 (48+(E:Int)))) (fc rfl rfl (iw (n:=48+(E:Int)) (by omega))) rfl rfl (ag (v:=(.int .u8 (48+(E:Int)))) (ap_cv rfl rfl rfl (w_u8 (n:=48+(E:Int)) (by omega))) rfl rfl (aJ (ba (α:=UInt8) (ps:=[(0,(.int .u8 (48+(E:Int))))]) (cells:=[(.int .u8 (48+(E:Int)))]) ([(UInt8.ofNat (48+E))]:List UInt8) hs rfl rfl rfl (by kernel_rfl) ⟨[(.int .u8 (48+(E:Int)))],[],rfl,(u8r (n:=48+E) (by omega)),rfl⟩ rfl) rfl rfl ?_)))));rintro _ H3 p2 ⟨a2,k2,rfl,an,(U:HS _ _ _ [p2] _),_⟩;refine ag (v:=(tX ([(UInt8.ofNat (48+E))]:List UInt8))) (ap_cvB rfl rfl rfl rfl (OS.sv an U (i:=0) rfl)) rfl rfl (za (tX ([(UInt8.ofNat (48+E))]:List UInt8)) (aD (ap (aj ⟨.inr rfl,_,rfl,([(UInt8.ofNat (48+E))]:List UInt8),_,fR,(HS.forget U),rfl,(by show [UInt8.ofNat (48+E)]=dec E;rw[dR (by omega)];rfl)⟩))))
 try simp only[BS]at c1
 refine ap (aW (aI rfl (zfm (.int .u64 (E:Int)) (wfv (v:=(.int .u64 ((E/10:Nat):Int))) (ap_div rfl rfl (by decide) (iw (n:=((E/10:Nat):Int)) (by omega))) (aX (W:=[]) (aU rfl rfl rfl) rfl rfl rfl (ih ((E/10:Nat):Int) (HS.call hs.log0) (by omega) (by omega)) (kb rfl) ?_)))));rintro _ H4 ⟨r4,F4,al,O,rfl,rfl⟩;refine⟨Wr.did O.log,fun a1 Y=>?_⟩;replace O:=HS.back hs.log0 rfl O;replace O:=HS.lg O hs Y;generalize ({H4 with log:=a1}:Heap)=a9 at O⊢;have O:HS _ _ _ [] _:=O;refine zfm (.int .u64 (E:Int)) (wfv (v:=(.int .u64 ((E%10:Nat):Int))) (kp rfl rfl (by decide) rfl) (wfv (v:=(.int .u64 (48+((E%10:Nat):Int)))) (fc rfl rfl (iw (n:=48+((E%10:Nat):Int)) (by omega))) (aL (v:=(.int .u8 (48+((E%10:Nat):Int)))) (id:= .x []) (ap_cv rfl rfl rfl (w_u8 (n:=48+((E%10:Nat):Int)) (by omega))) rfl rfl (bP (W:=[]) rfl rfl fun b hb=>absurd hb a0e) (⟨.inl rfl,⟨.inl rfl,⟨.inl rfl,⟨.inr ⟨trivial,trivial⟩,⟨.inr trivial,⟨.inr trivial,trivial⟩⟩⟩⟩⟩⟩) (cu (id:= .a) (ba (α:=UInt8) (ps:=[(0,(.int .u8 (48+((E%10:Nat):Int))))]) (cells:=[(.int .u8 (48+((E%10:Nat):Int)))]) ([(UInt8.ofNat (48+(E%10)))]:List UInt8) O.log0 rfl rfl rfl (by kernel_rfl) ⟨[(.int .u8 (48+((E%10:Nat):Int)))],[],rfl,(u8r (n:=48+(E%10)) (by omega)),rfl⟩ rfl) rfl rfl (fun _ _ _ _=>gi rfl rfl rfl) (kb rfl) ?_))));rintro _ H6 p5 ⟨a5,k5,rfl,ax,T,_⟩ a3 Z;replace T:=HS.lg T O Z;generalize ({H6 with log:=a3}:Heap)=bb at T⊢;have T:HS _ _ _ [p5] _:=T;refine aL (v:=(tX ([(UInt8.ofNat (48+(E%10)))]:List UInt8))) (id:= .x []) (ap_cvB rfl rfl rfl rfl (OS.sv ax T.log0 (i:=0) rfl)) rfl rfl (bP (W:=[]) rfl rfl fun b hb=>absurd hb a0e) (⟨.inl rfl,⟨.inl rfl,⟨.inl rfl,⟨.inl rfl,⟨.inl rfl,⟨.inr ⟨trivial,trivial⟩,⟨.inr trivial,⟨.inr trivial,trivial⟩⟩⟩⟩⟩⟩⟩⟩) (wfv (v:=(tX ((dec ((E/10:Nat):Int).toNat)++([(UInt8.ofNat (48+(E%10)))]:List UInt8)))) (aN rfl rfl (a0h (Nat.add_le_add (dec_le (by omega)) (a06 _)) (by simp))) (fa (tX ((dec ((E/10:Nat):Int).toNat)++([(UInt8.ofNat (48+(E%10)))]:List UInt8))) rfl rfl rfl (bh (ap (aj ⟨.inr rfl,_,rfl,(dec ((E/10:Nat):Int).toNat)++([(UInt8.ofNat (48+(E%10)))]:List UInt8),_,(al),(HS.forget T),rfl,(by show _=dec E;rw[iJ (n:=E) (by omega)];rfl)⟩)))))
theorem fmt_c(n:Int)(hs:HS (.of H []) F H [] R)(h:0<=n/\n<18446744073709551616):kKt ex 43 [(.int .u64 n)] H fun v H'=> ∃(r:List UInt8) (F':Fz),Fz.le F F'/\HS (.of H []) F' H' [] R/\v=tX r/\r=dec n.toNat:=
 fmt_c_aux ex (n.toNat+1) n hs h (a0y _)
theorem rtext_c(n:Int)(hs:HS (.of H []) F H [] R)(h:in64 n):kKt ex 19 [(iI n)] H fun v H'=> ∃(r:List UInt8) (F':Fz),Fz.le F F'/\HS (.of H []) F' H' [] R/\v=tX r/\r=cS n:=by
 refine aB Try.func19 rfl rfl (aW (ab (za (tX []) (aD (ap ?_)))));refine aW (aW (ab (zm (iI n) (ag (v:=(.bool (decide (n<0)))) (br rfl rfl rfl rfl) rfl rfl (aD ?_)))));refine ap (dm (v:=(decide (n<0))) rfl rfl (fun c1=>?_) (fun c1=>?_))
 ·try simp only[BS]at c1
  refine aW (ab (zm (iI n) (ag (v:=(iI (n+1))) (fc rfl rfl (kC (n:=n+1) (by omega))) rfl rfl (ag (v:=(iI (0-(n+1)))) (ap_ng rfl (kC (by omega))) rfl rfl (ag (v:=(.int .u64 (0-(n+1)))) (ap_cv rfl rfl rfl (iw (n:=0-(n+1)) (by omega))) rfl rfl ?_)))));refine ag (v:=(.int .u64 ((0-(n+1))+1))) (fc rfl rfl (iw (n:=(0-(n+1))+1) (by omega))) rfl rfl (zc (fmt_c ex ((0-(n+1))+1) (HS.call hs) (by omega)) ?_);rintro _ H2 ⟨r2,Y,T,E,rfl,rfl⟩;replace E:HS _ _ _ [] _:=HS.back hs rfl E;refine ag (v:=(tX ([45]++(dec ((0-(n+1))+1).toNat)))) (aN rfl rfl (tx0 (dec_le (by omega)))) rfl rfl (za (tX ([45]++(dec ((0-(n+1))+1).toNat))) (aD (ap (aj ⟨.inr rfl,_,rfl,[45]++(dec ((0-(n+1))+1).toNat),_,(T),(HS.forget E),rfl,(by rw[cS,if_pos (by omega),show(0-(n+1)+1).toNat=n.natAbs by omega];rfl)⟩))))
 try simp only[BS]at c1
 refine ap (aW (ab (zm (iI n) (ag (v:=(.int .u64 n)) (ap_cv rfl rfl rfl (iw (n:=n) (by omega))) rfl rfl (zc (fmt_c ex n (HS.call hs) (by omega)) ?_)))));rintro _ H3 ⟨r3,Z,U,O,rfl,rfl⟩;replace O:HS _ _ _ [] _:=HS.back hs rfl O;refine za (tX (dec n.toNat)) (aD (ap (aj ⟨.inr rfl,_,rfl,dec n.toNat,_,(U),(HS.forget O),rfl,(by rw[cS,if_neg (by omega)])⟩)))
theorem jV(s:List UInt8)(H:Heap):kKt ex 57 [(tX s)] H fun v H'=>v= .tuple ⟨[iI ((aV s).getD 0),.bool (aV s).isSome]⟩/\H'=H:=cq (parse_c ex s H) (by rintro _ _ ⟨_,_,rfl,rfl,rfl,rfl⟩;exact⟨rfl,rfl⟩)
end Go.Proofs.Ytapgbjedgcpffaa.w3
