/-
Texts of words: writing and reading them, program and reference. No condition but that numbers are words.
-/
import Derived.Test.YtapgbjedgcpffaaGreatZRL1
import Derived.Test.YtapgbjedgcpffaaGreatZRW1
noncomputable section
namespace Go.Proofs.YtapgbjedgcpffaaGreat.w3
open Go.R
set_option maxRecDepth 10000
set_option linter.unusedVariables false
set_option linter.unusedSimpArgs false
variable (ex:FuncId) {F:Fz} {H:Heap} {R:List Fp}
open w1
theorem pow_le{i k:Nat}(h:i<=k):10^i<=10^k:=Nat.pow_le_pow_right e_ h
theorem w_tail{s:List UInt8}:s.tail=s.drop 1:=by cases s<;>rfl
theorem jh{t:List UInt8}:iN t=true↔1<=t.length/\t.length<=19/\t.all fy=true/\(t.getD 0 0=48->t.length=1):=by
 unfold iN;have e:t.headD 0=t.getD 0 0:=by cases t<;>rfl
 rw[e];simp only[a03,a0C,decide_eq_true_eq,bne_iff_ne,ne_eq,beq_iff_eq,and_assoc];constructor
 ·rintro⟨O,T,U,E⟩;exact⟨O,T,U,fun h=>by rcases E with E|E;exact absurd h E;exact E⟩
 rintro⟨O,T,U,E⟩;exact⟨O,T,U,by by_cases h:t.getD 0 0=48;exact .inr (E h);exact .inl h⟩
theorem lP{c:UInt8}:fy c=true↔48<=c.toNat/\c.toNat<=57:=by simp[fy]
theorem u8eq{c:UInt8}{n:Nat}(h:n<256):(c.toNat:Int)=(n:Int)↔c=UInt8.ofNat n:=by
 constructor
 ·intro E;apply UInt8.toNat_inj.1;rw[UInt8.toNat_ofNat'];omega
 rintro rfl;rw[UInt8.toNat_ofNat'];omega
theorem tx0{l:List UInt8}(h:l.length<=20):([45]:List UInt8).length+l.length<=1099511627776:=by simp;omega
theorem dec_le{n:Int}(h:0<=n/\n<18446744073709551616):(dec n.toNat).length<=20:=dec_len 19 _ M
theorem head_getD{t:List UInt8}:t.headD 0=t.getD 0 0:=by cases t<;>rfl
theorem c48{c:UInt8}:(c.toNat:Int)=48↔c=48:=u8eq (n:=48) e_
theorem c45{c:UInt8}:(c.toNat:Int)=45↔c=45:=u8eq (n:=45) e_
def sgn:Option Nat->Option Int
 |some 0=>none
 |some n=>some (-(n:Int))
 |none=>none
theorem np{s:List UInt8}(h:0<(s.length:Int)/\((s.getD 0 0).toNat:Int)=45):aQ s=sgn (dF (s.drop 1) 9223372036854775808):=by
 unfold aQ;rw[head_getD,if_pos (c45.1 h.2),w_tail];cases dF (s.drop 1) 9223372036854775808 with
 |none=>rfl
 |some n=>cases n<;>rfl
theorem nk{s:List UInt8}(h:0<(s.length:Int)->((s.getD 0 0).toNat:Int)≠45):aQ s=(dF s 9223372036854775807).map fun n=>(n:Int):=by
 unfold aQ;have:s.headD 0≠45:=by
  rw[head_getD];intro e;cases s with
  |nil=>cases e
  |cons a l=>exact h (by simp) (c45.2 e)
 rw[if_neg this];cases dF s 9223372036854775807<;>rfl
theorem ps_len{t:List UInt8}{m:Nat}(h:t.length<1\/19<t.length):dF t m=none:=by unfold dF;rw[if_neg];rintro⟨E,_⟩;obtain⟨O,T,_⟩:=jh.1 E;omega
theorem ps_zero{t:List UInt8}{m:Nat}(h:t.getD 0 0=48):dF t m=if t.length=1 then some 0 else none:=by
 unfold dF;split
 ·rename_i E;obtain⟨O,U,Y,T⟩:=jh.1 E.1;rw[if_pos (T h)];match t,T h with
  | [a],_=>
   have:a=48:=h
   subst this;rfl
 rename_i E;split
 ·rename_i O;exfalso;apply E;match t,O with
  | [a],_=>
   have:a=48:=h
   subst this;exact⟨by decide,by show 0<=m;omega⟩
 rfl
theorem ps_bad{t:List UInt8}{i m:Nat}(hi:i<t.length)(h:((t.getD i 0).toNat:Int)<48\/57<((t.getD i 0).toNat:Int)):dF t m=none:=by unfold dF;rw[if_neg];rintro⟨E,_⟩;obtain⟨_,_,O,_⟩:=jh.1 E;have:=lP.1 (a0s.1 O (t.getD i 0) (a0n (bj hi)));omega
theorem ps_ok{t:List UInt8}{m:Nat}(E:1<=t.length)(O:t.length<=19)(T:t.all fy=true)(U:t.getD 0 0=48->t.length=1):dF t m=if val t<=m then some (val t) else none:=by unfold dF;have:iN t=true:=jh.2 ⟨E,O,T,U⟩;simp only[this,true_and]
theorem wr1{m:Nat}(h:m<=9223372036854775808):IntKind.i64.wrap (IntKind.u64.wrap (0-(m:Int)))= -(m:Int):=by rw[u64_eq,IntKind.wrap_i64];omega
theorem wr2{m:Nat}(h:m<=9223372036854775807):IntKind.i64.wrap (m:Int)=(m:Int):=gM ⟨by omega,by omega⟩
theorem sgn_of{n:Nat}(h:0<n):sgn (some n)=some (-(n:Int)):=by
 cases n with
 |zero=>omega
 |succ n=>rfl
theorem pb1{s:List UInt8}{q:Prop}(h:0<(s.length:Int)/\((s.getD 0 0).toNat:Int)=45)(c:(((s.drop 1).length:Int)<1\/19<((s.drop 1).length:Int))\/(((s.drop 1).getD 0 0).toNat:Int)=48/\q):aQ s=none:=by
 rw[np h];rcases c with c|⟨c,_⟩
 ·rw[ps_len M];rfl
 rw[ps_zero (c48.1 c)];split<;>rfl
theorem pp1{s:List UInt8}(h:0<(s.length:Int)->((s.getD 0 0).toNat:Int)≠45)(c:((s.length:Int)<1\/19<(s.length:Int))\/((s.getD 0 0).toNat:Int)=48/\(1<(s.length:Int)\/0<(s.length:Int)/\((s.getD 0 0).toNat:Int)=45)):aQ s=none:=by
 rw[nk h];rcases c with c|⟨c,c'⟩
 ·rw[ps_len M];rfl
 rw[ps_zero (c48.1 c),if_neg (by rcases c' with c'|⟨c1,c2⟩;omega;exact absurd c2 (h c1))];rfl
theorem pb2{s:List UInt8}{i:Nat}(h:0<(s.length:Int)/\((s.getD 0 0).toNat:Int)=45)(hi:(i:Int)<((s.drop 1).length:Int))(c:(((s.drop 1).getD i 0).toNat:Int)<48\/57<(((s.drop 1).getD i 0).toNat:Int)):aQ s=none:=by rw[np h,ps_bad (i:=i) M c];rfl
theorem pp2{s:List UInt8}{i:Nat}(h:0<(s.length:Int)->((s.getD 0 0).toNat:Int)≠45)(hi:(i:Int)<(s.length:Int))(c:((s.getD i 0).toNat:Int)<48\/57<((s.getD i 0).toNat:Int)):aQ s=none:=by rw[nk h,ps_bad (i:=i) M c];rfl
theorem fin_len{t:List UInt8}{i m:Nat}(T:i<=t.length)(c: ¬(i:Int)<(t.length:Int))(E:m=val (t.take i))(O:(t.take i).all fy=true):m=val t/\t.all fy=true:=by have:t.take i=t:=a0D M;rw[this]at E O;exact⟨E,O⟩
theorem pb3{s:List UInt8}{i m:Nat}{q:Prop}(h:0<(s.length:Int)/\((s.getD 0 0).toNat:Int)=45)(c:(¬((s.drop 1).length:Int)<1/\¬19<((s.drop 1).length:Int))/\((((s.drop 1).getD 0 0).toNat:Int)=48->¬1<((s.drop 1).length:Int)/\q))(hq: ¬q)
  (U:i<=(s.drop 1).length) (ci: ¬(i:Int)<((s.drop 1).length:Int)) (Y:m=val ((s.drop 1).take i)) (Z:((s.drop 1).take i).all fy=true):aQ s=if m<=9223372036854775808 then some (-(m:Int)) else none:=by
 obtain⟨O,T⟩:=fin_len U ci Y Z
 have E:(s.drop 1).getD 0 0≠48:=fun e=>hq (c.2 (c48.2 e)).2
 rw[np h,ps_ok M M T (fun e=>absurd e E),←O]
 split
 ·rw[sgn_of];rw[O];have hl:1<=(s.drop 1).length:=M
  generalize s.drop 1=t at *
  cases t with
  |nil=>simp at hl
  |cons a l=>
   have ha:a≠48:=E
   have hd:=lP.1 (a0s.1 T a (by simp))
   have a0:a.toNat≠48:=fun e=>ha (UInt8.toNat_inj.1 e)
   have key: ∀(l:List UInt8) (n:Nat),0<n->0<l.foldl valA n:=by
    intro l;induction l with
    |nil=>intro n hn;exact hn
    |cons b l ih=>intro n hn;exact ih _ (by unfold valA;omega)
   exact key l _ (by unfold valA;omega)
 rfl
theorem pp3{s:List UInt8}{i m:Nat}{q:Prop}(h:0<(s.length:Int)->((s.getD 0 0).toNat:Int)≠45)(c:(¬(s.length:Int)<1/\¬19<(s.length:Int))/\(((s.getD 0 0).toNat:Int)=48->¬1<(s.length:Int)/\q))
  (T:i<=s.length) (Z: ¬(i:Int)<(s.length:Int)) (U:m=val (s.take i)) (Y:(s.take i).all fy=true):aQ s=if m<=9223372036854775807 then some (m:Int) else none:=by
 obtain⟨E,O⟩:=fin_len T Z U Y
 rw[nk h,ps_ok M M O (fun e=>by have:=(c.2 (c48.2 e)).1;omega),←E]
 split<;>rfl
theorem parse_c(s:List UInt8)(H:Heap):kKt ex 42 [(tX s)] H fun v H'=> ∃(r:Int) (ok:Bool),H'=H/\v= .tuple ⟨[iI r,.bool ok]⟩/\r=(aQ s).getD 0/\ok=(aQ s).isSome:=by
 refine av Tryz.func42 V V (aI (ab (za (.int _ 0) (za (.bool false) (ay ?_)))));refine aj (aI (ab (zm _ (za (tX s) (ay ?_)))));refine aj (aI (cC 10 17 [5] [(5,(.bool ((decide ((0:Int)<(s.length:Int)))&&(((s.getD 0 0).toNat:Int)==45))))] (fun H'=>H'=H) ?_ ?_))
 ·refine ab (zm _ (ad (fq V V) V V (ad (bd V V V V) V V (zm (.bool (decide ((0:Int)<(s.length:Int)))) (gJ V V (fun g2=>?_) (fun g2=>?_))))))
  ·have ci:=g2;try simp only[BS]at ci
   refine zm (tX s) (aA V g2 ?_);have d1:=dD (s.getD 0 0);refine ad (v:=(.int .u8 ((s.getD 0 0).toNat:Int))) (dI V V V e_ (bj M)) V V (aA V g2 (ad (bd V V V V) V V (ad (v:=(.bool (((s.getD 0 0).toNat:Int)==45))) (au V g2 V) V V (za (.bool (((s.getD 0 0).toNat:Int)==45)) (ay ?_)))));exact ap ⟨V,V,(by repeat' first|exact Lr|refine Lu V ?_),(agC (congrArg _ (show(((s.getD 0 0).toNat:Int)==45)=((decide ((0:Int)<(s.length:Int)))&&(((s.getD 0 0).toNat:Int)==45)) by simp only[↓g2,BT])) agN)⟩
  have ci:=g2;try simp only[BS]at ci
  refine bV V g2 V (bV V g2 V (ad (v:=(.bool false)) (aD V g2 V) V V (za (.bool false) (ay ?_))));exact ap ⟨V,V,(by repeat' first|exact Lr|refine Lu V ?_),(agC (congrArg _ (show false=((decide ((0:Int)<(s.length:Int)))&&(((s.getD 0 0).toNat:Int)==45)) by simp only[↓g2,BT])) agN)⟩
 skip;rintro g1 H rfl;refine aj (aI (aI (ab (zm (.bool ((decide ((0:Int)<(s.length:Int)))&&(((s.getD 0 0).toNat:Int)==45))) (ay ?_)))));refine aj (cN V V (fun ax=>?_) (fun ax=>?_))
 ·have c4:=ax;try simp only[BS]at c4
  have pb:=c4;refine ab (zm _ (ad (v:=(tX (s.drop 1))) (ap_slSd V V (optN e_) M) V V (za (tX (s.drop 1)) (ay (aj ?_)))));refine aI (aI (cC 21 41 [] [(41,(.bool (((decide (((s.drop 1).length:Int)<1))||(decide ((19:Int)<((s.drop 1).length:Int))))||(((((s.drop 1).getD 0 0).toNat:Int)==48)&&((decide ((1:Int)<((s.drop 1).length:Int)))||((decide ((0:Int)<(s.length:Int)))&&(((s.getD 0 0).toNat:Int)==45)))))))] (fun H'=>H'=H) ?_ ?_))
  ·refine ab (zm _ (ad (fq V V) V V (ad (bd V V V V) V V (zm (.bool (decide (((s.drop 1).length:Int)<1))) (bX V V (fun g6=>?_) (fun g6=>?_))))))
   ·have ck:=g6;try simp only[BS]at ck
    refine zm _ (aA V g6 (ad (fq V V) V V (aA V g6 (ad (bd V V V V) V V (ad (v:=(.bool (decide ((19:Int)<((s.drop 1).length:Int))))) (aD V g6 V) V V ?_)))));refine zm (.bool (decide ((19:Int)<((s.drop 1).length:Int)))) (bX V V (fun U=>?_) (fun U=>?_))
    ·have cm:=U;try simp only[BS]at cm
     refine zm (tX (s.drop 1)) (aA V U ?_);have d2:=dD ((s.drop 1).getD 0 0);refine ad (v:=(.int .u8 (((s.drop 1).getD 0 0).toNat:Int))) (dI V V V e_ (bj M)) V V (aA V U (ad (bd V V V V) V V (aA V U (zm (.bool ((((s.drop 1).getD 0 0).toNat:Int)==48)) (gJ V V (fun g9=>?_) (fun g9=>?_))))))
     ·have co:=g9;try simp only[BS]at co
      refine zm _ (aA V g9 (ad (fq V V) V V (aA V g9 (ad (bd V V V V) V V (aA V g9 ?_)))));refine zm (.bool (decide ((1:Int)<((s.drop 1).length:Int)))) (bX V V (fun a0=>?_) (fun a0=>?_))
      ·have bl:=a0;try simp only[BS]at bl
       refine zm _ (aA V g9 (ad (v:=(.bool ((decide ((0:Int)<(s.length:Int)))&&(((s.getD 0 0).toNat:Int)==45)))) (aD V a0 V) V V (aA V U (ad (v:=(.bool ((decide ((0:Int)<(s.length:Int)))&&(((s.getD 0 0).toNat:Int)==45)))) (au V g9 V) V V (ad (v:=(.bool ((decide ((0:Int)<(s.length:Int)))&&(((s.getD 0 0).toNat:Int)==45)))) (aD V U V) V V ?_)))));refine ay ?_;exact ap ⟨V,V,(by repeat' first|exact Lr|refine Lu V ?_),(agC (congrArg _ (show((decide ((0:Int)<(s.length:Int)))&&(((s.getD 0 0).toNat:Int)==45))=(((decide (((s.drop 1).length:Int)<1))||(decide ((19:Int)<((s.drop 1).length:Int))))||(((((s.drop 1).getD 0 0).toNat:Int)==48)&&((decide ((1:Int)<((s.drop 1).length:Int)))||((decide ((0:Int)<(s.length:Int)))&&(((s.getD 0 0).toNat:Int)==45))))) by simp only[↓g6,↓U,↓g9,↓a0,BT])) agN)⟩
      have bl:=a0;try simp only[BS]at bl
      refine aA V g9 (ad (v:=(.bool true)) (au V a0 V) V V (aA V U (ad (v:=(.bool true)) (au V g9 V) V V (ad (v:=(.bool true)) (aD V U V) V V (ay ?_)))));exact ap ⟨V,V,(by repeat' first|exact Lr|refine Lu V ?_),(agC (congrArg _ (show true=(((decide (((s.drop 1).length:Int)<1))||(decide ((19:Int)<((s.drop 1).length:Int))))||(((((s.drop 1).getD 0 0).toNat:Int)==48)&&((decide ((1:Int)<((s.drop 1).length:Int)))||((decide ((0:Int)<(s.length:Int)))&&(((s.getD 0 0).toNat:Int)==45))))) by simp only[↓g6,↓U,↓g9,↓a0,BT])) agN)⟩
     have co:=g9;try simp only[BS]at co
     refine bV V g9 V (bV V g9 V (bV V g9 V (cU V V (bV V g9 V (aA V U ?_)))));refine ad (v:=(.bool false)) (aD V g9 V) V V (ad (v:=(.bool false)) (aD V U V) V V (ay ?_));exact ap ⟨V,V,(by repeat' first|exact Lr|refine Lu V ?_),(agC (congrArg _ (show false=(((decide (((s.drop 1).length:Int)<1))||(decide ((19:Int)<((s.drop 1).length:Int))))||(((((s.drop 1).getD 0 0).toNat:Int)==48)&&((decide ((1:Int)<((s.drop 1).length:Int)))||((decide ((0:Int)<(s.length:Int)))&&(((s.getD 0 0).toNat:Int)==45))))) by simp only[↓g6,↓U,↓g9,BT])) agN)⟩
    have cm:=U;try simp only[BS]at cm
    refine ag V U V (ag V U V (ag V U V (cU V V (cU V V (cU V V ?_)))));refine cU V V (cU V V (cU V V (ag V U V (ad (v:=(.bool true)) (au V U V) V V (ay ?_)))));exact ap ⟨V,V,(by repeat' first|exact Lr|refine Lu V ?_),(agC (congrArg _ (show true=(((decide (((s.drop 1).length:Int)<1))||(decide ((19:Int)<((s.drop 1).length:Int))))||(((((s.drop 1).getD 0 0).toNat:Int)==48)&&((decide ((1:Int)<((s.drop 1).length:Int)))||((decide ((0:Int)<(s.length:Int)))&&(((s.getD 0 0).toNat:Int)==45))))) by simp only[↓g6,↓U,BT])) agN)⟩
   have ck:=g6;try simp only[BS]at ck
   refine ag V g6 V (ag V g6 V (ad (v:=(.bool true)) (au V g6 V) V V (zm (.bool true) (ag V V V (ag V V V ?_)))));refine ag V V V (ag V V V (cU V V (cU V V (cU V V (cU V V ?_)))));refine cU V V (cU V V (ag V V V (ad (v:=(.bool true)) (au V V V) V V (ay ?_))));exact ap ⟨V,V,(by repeat' first|exact Lr|refine Lu V ?_),(agC (congrArg _ (show true=(((decide (((s.drop 1).length:Int)<1))||(decide ((19:Int)<((s.drop 1).length:Int))))||(((((s.drop 1).getD 0 0).toNat:Int)==48)&&((decide ((1:Int)<((s.drop 1).length:Int)))||((decide ((0:Int)<(s.length:Int)))&&(((s.getD 0 0).toNat:Int)==45))))) by simp only[↓g6,BT])) agN)⟩
  skip;rintro g5 H rfl;refine aj (cN V V (fun a6=>?_) (fun a6=>?_))
  ·try simp only[BS]at a6
   have pc:=a6;refine aI (ab (za (.int _ 0) (za (.bool false) (ay (aj ?_)))));refine ae ⟨.inr V,_,V,0,_,V,V,(by have e:=pb1 pb pc;rw[e];(try rfl)),(by have e:=pb1 pb pc;rw[e];(try rfl))⟩
  try simp only[BS]at a6
  have pc:=a6;refine aj (aI (ab (za (.int _ 0) (ay (aj ?_)))));refine aI (aI (ab (za (.int _ 0) (ay (aj ?_)))));refine gf (aq (fun(mm:Nat) f H'=> ∃(i:Nat) (m:Nat),H'=H/\aJ f [(4,(tX (s.drop 1))),(5,(.bool ((decide ((0:Int)<(s.length:Int)))&&(((s.getD 0 0).toNat:Int)==45)))),(6,(.int _ (m:Int))),(7,(.int _ (i:Int)))]/\mm=(s.drop 1).length-i/\(i<=(s.drop 1).length)/\(m=val ((s.drop 1).take i))/\(((s.drop 1).take i).all fy=true)/\(m<10^i)/\((s.drop 1).length<=19)) _ ⟨0,0,V,⟨V,V,V,V,trivial⟩,V,M,k_,k_,e_,M⟩ ?_);rintro dn d3 H ⟨i,m,rfl,b9,rfl,h1,h2,h3,h4,h5⟩ cw;refine az _ b9 (fun _=>?_);clear b9;refine aI (aI (ab (zm (.int _ _) (zm _ (ad (fq V V) V V ?_)))));refine ad (bd V V V V) V V (ay (aj (cN V V (fun a7=>?_) (fun a7=>?_))))
  ·try simp only[BS]at a7
   have hp:=pow_le (show i<=18 by omega);have pi:=a7;refine aj (aI (gf (aI (aI (cC 48 57 [] [(57,(.bool ((decide ((((s.drop 1).getD i 0).toNat:Int)<48))||(decide ((57:Int)<(((s.drop 1).getD i 0).toNat:Int))))))] (fun H'=>H'=H) ?_ ?_)))))
   ·refine ab (zm (tX (s.drop 1)) (zm (.int _ _) ?_));have c0:=dD ((s.drop 1).getD i 0);refine ad (v:=(.int .u8 (((s.drop 1).getD i 0).toNat:Int))) (dI V V V M (bj M)) V V (ad (bd V V V V) V V (zm (.bool (decide ((((s.drop 1).getD i 0).toNat:Int)<48))) (bX V V (fun Y=>?_) (fun Y=>?_))))
    ·have b0:=Y;try simp only[BS]at b0
     refine zm (tX (s.drop 1)) (aA V Y (zm (.int _ _) (aA V Y ?_)));have c3:=dD ((s.drop 1).getD i 0);refine ad (v:=(.int .u8 (((s.drop 1).getD i 0).toNat:Int))) (dI V V V M (bj M)) V V (aA V Y (ad (bd V V V V) V V (ad (v:=(.bool (decide ((57:Int)<(((s.drop 1).getD i 0).toNat:Int))))) (aD V Y V) V V (ay ?_))));exact ap ⟨V,V,(by repeat' first|exact Lr|refine Lu V ?_),(agC (congrArg _ (show(decide ((57:Int)<(((s.drop 1).getD i 0).toNat:Int)))=((decide ((((s.drop 1).getD i 0).toNat:Int)<48))||(decide ((57:Int)<(((s.drop 1).getD i 0).toNat:Int)))) by simp only[↓Y,BT])) agN)⟩
    have b0:=Y;try simp only[BS]at b0
    refine ag V Y V (ag V Y V (ag V Y V (ad (v:=(.bool true)) (au V Y V) V V (ay ?_))));exact ap ⟨V,V,(by repeat' first|exact Lr|refine Lu V ?_),(agC (congrArg _ (show true=((decide ((((s.drop 1).getD i 0).toNat:Int)<48))||(decide ((57:Int)<(((s.drop 1).getD i 0).toNat:Int)))) by simp only[↓Y,BT])) agN)⟩
   skip;rintro et H rfl;refine aj (cN V V (fun b6=>?_) (fun b6=>?_))
   ·try simp only[BS]at b6
    have pd:=b6;refine aI (ab (za (.int _ 0) (za (.bool false) (ay (aj ?_)))));refine ae ⟨.inr V,_,V,0,_,V,V,(by have e:=pb2 pb pi pd;rw[e];(try rfl)),(by have e:=pb2 pb pi pd;rw[e];(try rfl))⟩
   try simp only[BS]at b6
   refine aj (ab (zm _ (ad (ap_mul V V (gL (n:=10 *(m:Int)) M)) V V (zm (tX (s.drop 1)) (zm (.int _ _) ?_)))));have c5:=dD ((s.drop 1).getD i 0);refine ad (v:=(.int .u8 (((s.drop 1).getD i 0).toNat:Int))) (dI V V V M (bj M)) V V (ad (ap_sub V V (natsub (b:=48) M (w_u8 M))) V V (ad (lX V V V (gL M)) V V (ad (eA V V (gL M)) V V (za (.int _ _) (ay ?_)))));refine eM (aj (ab (zm _ (ad (eA V V (gM (n:=(i:Int)+1) M)) V V (za (.int _ _) ?_)))));refine ay (aj ?_);refine cw _ _ _ ?_ ⟨i+1,(10 *m)+(((s.drop 1).getD i 0).toNat-48),V,⟨V,V,V,V,trivial⟩,V,M,(by(rw[kK M,h2])),(by(rw[gB M,h3,a1o,lP];omega)),(by(rw[a1H];omega)),X⟩;omega
  try simp only[BS]at a7
  have pi:=a7;refine dC (dC (eN (aj (aI (ab ?_)))));refine za (.int _ _) (ay (aj (aI (aI (ab ?_)))));refine zm _ (ay (aj (wk_true V ax V (ab (zm (.int _ _) ?_)))));refine ad (v:=(.int _ 9223372036854775808)) (eA V V V) V V (za (.int _ _) (ay (aj (aI (aI ?_)))));refine ab (zm _ (zm _ (ad (bd V V V V) V V (ay (aj ?_)))));refine cN V V (fun a8=>?_) (fun a8=>?_)
  ·try simp only[BS]at a8
   have pm:=a8;refine aI (ab (za (.int _ 0) (za (.bool false) (ay (aj ?_)))));refine ae ⟨.inr V,_,V,0,_,V,V,(by have e:=pb3 pb pc (fun h=>h pb.1 pb.2) h1 pi h2 h3;rw[e];(try rfl);split<;>first|rfl|(exfalso;omega)|exact wr1 M|exact wr2 M),(by have e:=pb3 pb pc (fun h=>h pb.1 pb.2) h1 pi h2 h3;rw[e];(try rfl);split<;>first|rfl|(exfalso;omega)|exact wr1 M|exact wr2 M)⟩
  try simp only[BS]at a8
  have pm:=a8;refine aj (aI (aI (ab (zm (.bool ((decide ((0:Int)<(s.length:Int)))&&(((s.getD 0 0).toNat:Int)==45))) (ay ?_)))));refine aj (wk_true V ax V (aI (ab (zm _ (ad (ap_ng V V) V V ?_)))));refine ad (lX V V V V) V V (za _ (za _ (ay (aj (ae ⟨.inr V,_,V,IntKind.i64.wrap (IntKind.u64.wrap (0-(m:Int))),true,V,V,(by have e:=pb3 pb pc (fun h=>h pb.1 pb.2) h1 pi h2 h3;rw[e];(try rfl);split<;>first|rfl|(exfalso;omega)|exact wr1 M|exact wr2 M),(by have e:=pb3 pb pc (fun h=>h pb.1 pb.2) h1 pi h2 h3;rw[e];(try rfl);split<;>first|rfl|(exfalso;omega)|exact wr1 M|exact wr2 M)⟩)))))
 have c4:=ax;try simp only[BS]at c4
 have pb:=c4;refine aj (aI (aI (cC 21 41 [] [(41,(.bool (((decide ((s.length:Int)<1))||(decide ((19:Int)<(s.length:Int))))||((((s.getD 0 0).toNat:Int)==48)&&((decide ((1:Int)<(s.length:Int)))||((decide ((0:Int)<(s.length:Int)))&&(((s.getD 0 0).toNat:Int)==45)))))))] (fun H'=>H'=H) ?_ ?_)))
 ·refine ab (zm _ (ad (fq V V) V V (ad (bd V V V V) V V (zm (.bool (decide ((s.length:Int)<1))) (bX V V (fun T=>?_) (fun T=>?_))))))
  ·have b1:=T;try simp only[BS]at b1
   refine zm _ (aA V T (ad (fq V V) V V (aA V T (ad (bd V V V V) V V (ad (v:=(.bool (decide ((19:Int)<(s.length:Int))))) (aD V T V) V V ?_)))));refine zm (.bool (decide ((19:Int)<(s.length:Int)))) (bX V V (fun E=>?_) (fun E=>?_))
   ·have b2:=E;try simp only[BS]at b2
    refine zm (tX s) (aA V E ?_);have c6:=dD (s.getD 0 0);refine ad (v:=(.int .u8 ((s.getD 0 0).toNat:Int))) (dI V V V e_ (bj M)) V V (aA V E (ad (bd V V V V) V V (aA V E (zm (.bool (((s.getD 0 0).toNat:Int)==48)) (gJ V V (fun O=>?_) (fun O=>?_))))))
    ·have b3:=O;try simp only[BS]at b3
     refine zm _ (aA V O (ad (fq V V) V V (aA V O (ad (bd V V V V) V V (aA V O ?_)))));refine zm (.bool (decide ((1:Int)<(s.length:Int)))) (bX V V (fun a2=>?_) (fun a2=>?_))
     ·have b4:=a2;try simp only[BS]at b4
      refine zm _ (aA V O (ad (v:=(.bool ((decide ((0:Int)<(s.length:Int)))&&(((s.getD 0 0).toNat:Int)==45)))) (aD V a2 V) V V (aA V E (ad (v:=(.bool ((decide ((0:Int)<(s.length:Int)))&&(((s.getD 0 0).toNat:Int)==45)))) (au V O V) V V (ad (v:=(.bool ((decide ((0:Int)<(s.length:Int)))&&(((s.getD 0 0).toNat:Int)==45)))) (aD V E V) V V ?_)))));refine ay ?_;exact ap ⟨V,V,(by repeat' first|exact Lr|refine Lu V ?_),(agC (congrArg _ (show((decide ((0:Int)<(s.length:Int)))&&(((s.getD 0 0).toNat:Int)==45))=(((decide ((s.length:Int)<1))||(decide ((19:Int)<(s.length:Int))))||((((s.getD 0 0).toNat:Int)==48)&&((decide ((1:Int)<(s.length:Int)))||((decide ((0:Int)<(s.length:Int)))&&(((s.getD 0 0).toNat:Int)==45))))) by simp only[↓T,↓E,↓O,↓a2,BT])) agN)⟩
     have b4:=a2;try simp only[BS]at b4
     refine aA V O (ad (v:=(.bool true)) (au V a2 V) V V (aA V E (ad (v:=(.bool true)) (au V O V) V V (ad (v:=(.bool true)) (aD V E V) V V (ay ?_)))));exact ap ⟨V,V,(by repeat' first|exact Lr|refine Lu V ?_),(agC (congrArg _ (show true=(((decide ((s.length:Int)<1))||(decide ((19:Int)<(s.length:Int))))||((((s.getD 0 0).toNat:Int)==48)&&((decide ((1:Int)<(s.length:Int)))||((decide ((0:Int)<(s.length:Int)))&&(((s.getD 0 0).toNat:Int)==45))))) by simp only[↓T,↓E,↓O,↓a2,BT])) agN)⟩
    have b3:=O;try simp only[BS]at b3
    refine bV V O V (bV V O V (bV V O V (cU V V (bV V O V (aA V E ?_)))));refine ad (v:=(.bool false)) (aD V O V) V V (ad (v:=(.bool false)) (aD V E V) V V (ay ?_));exact ap ⟨V,V,(by repeat' first|exact Lr|refine Lu V ?_),(agC (congrArg _ (show false=(((decide ((s.length:Int)<1))||(decide ((19:Int)<(s.length:Int))))||((((s.getD 0 0).toNat:Int)==48)&&((decide ((1:Int)<(s.length:Int)))||((decide ((0:Int)<(s.length:Int)))&&(((s.getD 0 0).toNat:Int)==45))))) by simp only[↓T,↓E,↓O,BT])) agN)⟩
   have b2:=E;try simp only[BS]at b2
   refine ag V E V (ag V E V (ag V E V (cU V V (cU V V (cU V V ?_)))));refine cU V V (cU V V (cU V V (ag V E V (ad (v:=(.bool true)) (au V E V) V V (ay ?_)))));exact ap ⟨V,V,(by repeat' first|exact Lr|refine Lu V ?_),(agC (congrArg _ (show true=(((decide ((s.length:Int)<1))||(decide ((19:Int)<(s.length:Int))))||((((s.getD 0 0).toNat:Int)==48)&&((decide ((1:Int)<(s.length:Int)))||((decide ((0:Int)<(s.length:Int)))&&(((s.getD 0 0).toNat:Int)==45))))) by simp only[↓T,↓E,BT])) agN)⟩
  have b1:=T;try simp only[BS]at b1
  refine ag V T V (ag V T V (ad (v:=(.bool true)) (au V T V) V V (zm (.bool true) (ag V V V (ag V V V ?_)))));refine ag V V V (ag V V V (cU V V (cU V V (cU V V (cU V V ?_)))));refine cU V V (cU V V (ag V V V (ad (v:=(.bool true)) (au V V V) V V (ay ?_))));exact ap ⟨V,V,(by repeat' first|exact Lr|refine Lu V ?_),(agC (congrArg _ (show true=(((decide ((s.length:Int)<1))||(decide ((19:Int)<(s.length:Int))))||((((s.getD 0 0).toNat:Int)==48)&&((decide ((1:Int)<(s.length:Int)))||((decide ((0:Int)<(s.length:Int)))&&(((s.getD 0 0).toNat:Int)==45))))) by simp only[↓T,BT])) agN)⟩
 skip;rintro ez H rfl;refine aj (cN V V (fun a9=>?_) (fun a9=>?_))
 ·try simp only[BS]at a9
  have pc:=a9;refine aI (ab (za (.int _ 0) (za (.bool false) (ay (aj ?_)))));refine ae ⟨.inr V,_,V,0,_,V,V,(by have e:=pp1 pb pc;rw[e];(try rfl)),(by have e:=pp1 pb pc;rw[e];(try rfl))⟩
 try simp only[BS]at a9
 have pc:=a9;refine aj (aI (ab (za (.int _ 0) (ay (aj ?_)))));refine aI (aI (ab (za (.int _ 0) (ay (aj ?_)))));refine gf (aq (fun(mm:Nat) f H'=> ∃(i:Nat) (m:Nat),H'=H/\aJ f [(4,(tX s)),(5,(.bool ((decide ((0:Int)<(s.length:Int)))&&(((s.getD 0 0).toNat:Int)==45)))),(6,(.int _ (m:Int))),(7,(.int _ (i:Int)))]/\mm=s.length-i/\(i<=s.length)/\(m=val (s.take i))/\((s.take i).all fy=true)/\(m<10^i)/\(s.length<=19)) _ ⟨0,0,V,⟨V,V,V,V,trivial⟩,V,M,k_,k_,e_,M⟩ ?_);rintro dt em H ⟨i,m,rfl,ch,rfl,h1,h2,h3,h4,h5⟩ cL;refine az _ ch (fun _=>?_);clear ch;refine aI (aI (ab (zm (.int _ _) (zm _ (ad (fq V V) V V ?_)))));refine ad (bd V V V V) V V (ay (aj (cN V V (fun ba=>?_) (fun ba=>?_))))
 ·try simp only[BS]at ba
  have hp:=pow_le (show i<=18 by omega);have pi:=ba;refine aj (aI (gf (aI (aI (cC 48 57 [] [(57,(.bool ((decide (((s.getD i 0).toNat:Int)<48))||(decide ((57:Int)<((s.getD i 0).toNat:Int))))))] (fun H'=>H'=H) ?_ ?_)))))
  ·refine ab (zm (tX s) (zm (.int _ _) ?_));have c7:=dD (s.getD i 0);refine ad (v:=(.int .u8 ((s.getD i 0).toNat:Int))) (dI V V V M (bj M)) V V (ad (bd V V V V) V V (zm (.bool (decide (((s.getD i 0).toNat:Int)<48))) (bX V V (fun Z=>?_) (fun Z=>?_))))
   ·have b5:=Z;try simp only[BS]at b5
    refine zm (tX s) (aA V Z (zm (.int _ _) (aA V Z ?_)));have c8:=dD (s.getD i 0);refine ad (v:=(.int .u8 ((s.getD i 0).toNat:Int))) (dI V V V M (bj M)) V V (aA V Z (ad (bd V V V V) V V (ad (v:=(.bool (decide ((57:Int)<((s.getD i 0).toNat:Int))))) (aD V Z V) V V (ay ?_))));exact ap ⟨V,V,(by repeat' first|exact Lr|refine Lu V ?_),(agC (congrArg _ (show(decide ((57:Int)<((s.getD i 0).toNat:Int)))=((decide (((s.getD i 0).toNat:Int)<48))||(decide ((57:Int)<((s.getD i 0).toNat:Int)))) by simp only[↓Z,BT])) agN)⟩
   have b5:=Z;try simp only[BS]at b5
   refine ag V Z V (ag V Z V (ag V Z V (ad (v:=(.bool true)) (au V Z V) V V (ay ?_))));exact ap ⟨V,V,(by repeat' first|exact Lr|refine Lu V ?_),(agC (congrArg _ (show true=((decide (((s.getD i 0).toNat:Int)<48))||(decide ((57:Int)<((s.getD i 0).toNat:Int)))) by simp only[↓Z,BT])) agN)⟩
  skip;rintro e0 H rfl;refine aj (cN V V (fun b7=>?_) (fun b7=>?_))
  ·try simp only[BS]at b7
   have pd:=b7;refine aI (ab (za (.int _ 0) (za (.bool false) (ay (aj ?_)))));refine ae ⟨.inr V,_,V,0,_,V,V,(by have e:=pp2 pb pi pd;rw[e];(try rfl)),(by have e:=pp2 pb pi pd;rw[e];(try rfl))⟩
  try simp only[BS]at b7
  refine aj (ab (zm (.int .u64 (m:Int)) (ad (v:=(.int .u64 (10 *(m:Int)))) (ap_mul V V (gL (n:=10 *(m:Int)) M)) V V (zm (tX s) (zm (iI (i:Int)) ?_)))));have c9:=dD (s.getD i 0);refine ad (v:=(.int .u8 ((s.getD i 0).toNat:Int))) (dI (j:=(i:Int)) V V V M (bj M)) V V (ad (v:=(.int .u8 (((s.getD i 0).toNat-48:Nat):Int))) (ap_sub V V (natsub (a:=(s.getD i 0).toNat) (b:=48) M (w_u8 M))) V V (ad (v:=(.int .u64 (((s.getD i 0).toNat-48:Nat):Int))) (lX V V V (gL (n:=(((s.getD i 0).toNat-48:Nat):Int)) M)) V V (ad (v:=(.int .u64 ((10 *(m:Int))+(((s.getD i 0).toNat-48:Nat):Int)))) (eA V V (gL (n:=(10 *(m:Int))+(((s.getD i 0).toNat-48:Nat):Int)) M)) V V (za (.int .u64 ((10 *(m:Int))+(((s.getD i 0).toNat-48:Nat):Int))) (ay ?_)))));refine eM (aj (ab (zm (iI (i:Int)) (ad (v:=(iI ((i:Int)+1))) (eA V V (gM (n:=(i:Int)+1) M)) V V (za (iI ((i:Int)+1)) ?_)))));refine ay (aj ?_);refine cL _ _ _ ?_ ⟨i+1,(10 *m)+((s.getD i 0).toNat-48),V,⟨V,V,V,V,trivial⟩,V,M,(by(rw[kK M,h2])),(by(rw[gB M,h3,a1o,lP];omega)),(by(rw[a1H];omega)),X⟩;omega
 try simp only[BS]at ba
 have pi:=ba;refine dC (dC (eN (aj (aI (ab ?_)))));refine za (.int .u64 9223372036854775807) (ay (aj (aI (aI (ab ?_)))));refine zm (.bool ((decide ((0:Int)<(s.length:Int)))&&(((s.getD 0 0).toNat:Int)==45))) (ay (aj (mY (v:=((decide ((0:Int)<(s.length:Int)))&&(((s.getD 0 0).toNat:Int)==45))) V ax V (aj (aI ?_)))));refine aI (ab (zm (.int .u64 (m:Int)) (zm (.int .u64 9223372036854775807) (ad (v:=(.bool (decide ((9223372036854775807:Int)<(m:Int))))) (bd V V V V) V V (ay ?_)))));refine aj (cN (v:=(decide ((9223372036854775807:Int)<(m:Int)))) V V (fun bb=>?_) (fun bb=>?_))
 ·try simp only[BS]at bb
  have pm:=bb;refine aI (ab (za (iI 0) (za (.bool false) (ay (aj ?_)))));refine ae ⟨.inr V,_,V,0,false,V,V,(by have e:=pp3 pb pc h1 pi h2 h3;rw[e];(try rfl);split<;>first|rfl|(exfalso;omega)|exact wr1 M|exact wr2 M),(by have e:=pp3 pb pc h1 pi h2 h3;rw[e];(try rfl);split<;>first|rfl|(exfalso;omega)|exact wr1 M|exact wr2 M)⟩
 try simp only[BS]at bb
 have pm:=bb;refine aj (aI (aI (ab (zm (.bool ((decide ((0:Int)<(s.length:Int)))&&(((s.getD 0 0).toNat:Int)==45))) (ay ?_)))));refine aj (mY (v:=((decide ((0:Int)<(s.length:Int)))&&(((s.getD 0 0).toNat:Int)==45))) V ax V (aj (aI (ab (zm (.int .u64 (m:Int)) ?_)))));refine ad (v:=(iI (IntKind.i64.wrap (m:Int)))) (lX V V V V) V V (za (iI (IntKind.i64.wrap (m:Int))) (za (.bool true) (ay (aj (ae ⟨.inr V,_,V,IntKind.i64.wrap (m:Int),true,V,V,(by have e:=pp3 pb pc h1 pi h2 h3;rw[e];(try rfl);split<;>first|rfl|(exfalso;omega)|exact wr1 M|exact wr2 M),(by have e:=pp3 pb pc h1 pi h2 h3;rw[e];(try rfl);split<;>first|rfl|(exfalso;omega)|exact wr1 M|exact wr2 M)⟩)))))
theorem num_bad{s:List UInt8}{i m:Nat}(hi:(i:Int)<(s.length:Int))(c:((((s.getD i 0).toNat:Int)<48\/57<((s.getD i 0).toNat:Int))\/(i:Int)=1/\((s.getD 0 0).toNat:Int)=48)\/18<(i:Int)):dF s m=none:=by
 rcases c with(c|⟨c,c'⟩)|c
 ·exact ps_bad M c
 ·rw[ps_zero (c48.1 c'),if_neg M]
 exact ps_len M
theorem nt{s:List UInt8}{i m most:Nat}(T:i<=s.length)(ci: ¬(i:Int)<(s.length:Int))(U:m=val (s.take i))(Y:(s.take i).all fy=true)(h4:i<=19)(Z:2<=i->((s.getD 0 0).toNat:Int)≠48)(hs:s≠ []):dF s most=if m<=most then some m else none:=by
 obtain⟨E,O⟩:=fin_len T ci U Y;have hl:1<=s.length:=by
  cases s with
  |nil=>exact absurd V hs
  |cons a l=>simp
 rw[ps_ok hl M O (fun e=>by
  rcases a0c i 2 with h|h
  ·omega
  exact absurd (c48.2 e) (Z h)),←E]
theorem ns{most:Nat}:dF [] most=none:=by unfold dF;rw[if_neg];rintro⟨h,_⟩;cases h
theorem fmt_c_aux: ∀(fuel:Nat) (n:Int) {F:Fz} {H:Heap} {R:List Fp} (hs:HS (.of H []) F H [] R) (hn:0<=n/\n<18446744073709551616),n.toNat<fuel->kKt ex 61 [(.int .u64 n)] H fun v H'=> ∃(r:List UInt8) (F':Fz),Fz.le F F'/\HS (.of H []) F' H' [] R/\v=tX r/\r=dec n.toNat:=by
 intro fuel;induction fuel with
 |zero=>intros;omega
 |succ fuel ih=>
 intro n F H R hs hn a3;obtain⟨T,rfl⟩:=a0R hn.1;refine av Tryz.func61 V V (aI (ab (za (tX []) (ay (aj ?_)))));refine aI (aI (ab (zm _ (ad (bd V V V V) V V (ay ?_)))));refine aj (cN V V (fun c1=>?_) (fun c1=>?_))
 ·try simp only[BS]at c1
  refine aI (ab (zm _ (ad (eA V V (gL M)) V V (ad (lX V V V (w_u8 M)) V V (dB (gS ([(UInt8.ofNat (48+T))]:List UInt8) hs V V V V ⟨[(.int .u8 (48+(T:Int)))],[],V,(u8r (n:=48+T) M),V⟩ V) V V ?_)))));rintro _ H3 p2 ⟨a2,k2,rfl,an,(U:HS _ _ _ [p2] _),_⟩;refine ad (ap_cvB V V V V (OS.sv an U (i:=0) V)) V V (za _ (ay (aj (ae ⟨.inr V,_,V,_,_,fR,(HS.forget U),V,(by show [UInt8.ofNat (48+T)]=dec T;rw[lR M];rfl)⟩))))
 try simp only[BS]at c1
 refine aj (aI (aC V (zfm (.int _ (T:Int)) (wfv (ap_div V V e_ (gL (n:=((T/10:Nat):Int)) M)) (bH (W:=[]) (aX V V V) V V V (ih _ (HS.call hs.log0) M M) (kb V) ?_)))));rintro _ H4 ⟨r4,F4,al,E,rfl,rfl⟩;refine⟨Wr.did E.log,fun a0 Y=>?_⟩;replace E:=HS.back hs.log0 V E;replace E:=HS.lg E hs Y;generalize ({H4 with log:=a0}:Heap)=a8 at E⊢;have E:HS _ _ _ [] _:=E;refine zfm _ (wfv (v:=(.int _ ((T%10:Nat):Int))) (ap_mod V V e_ V) (wfv (eA V V (gL M)) (bf (lX V V V (w_u8 M)) V V (fY (W:=[]) V V fun b hb=>absurd hb a0f) (⟨.inl V,⟨.inl V,⟨.inl V,⟨.inr ⟨trivial,trivial⟩,⟨.inr trivial,⟨.inr trivial,trivial⟩⟩⟩⟩⟩⟩) (kz (gS ([(UInt8.ofNat (48+(T%10)))]:List UInt8) E.log0 V V V V ⟨_,[],V,(u8r M),V⟩ V) V V (fun _ _ _ _=>did_a V V V) (kb V) ?_))));rintro _ H6 p5 ⟨a5,k5,rfl,ax,O,_⟩ a1 Z;replace O:=HS.lg O E Z;generalize ({H6 with log:=a1}:Heap)=a9 at O⊢;have O:HS _ _ _ [p5] _:=O;refine bf (ap_cvB V V V V (OS.sv ax O.log0 (i:=0) V)) V V (fY (W:=[]) V V fun b hb=>absurd hb a0f) (⟨.inl V,⟨.inl V,⟨.inl V,⟨.inl V,⟨.inl V,⟨.inr ⟨trivial,trivial⟩,⟨.inr trivial,⟨.inr trivial,trivial⟩⟩⟩⟩⟩⟩⟩⟩) (wfv (ap_addS V V (a0g (Nat.add_le_add (dec_le M) (a07 _)) (by simp))) (fa _ V V V (dT (aj (ae ⟨.inr V,_,V,_,_,(al),(HS.forget O),V,(by show _=dec T;rw[dec_big (n:=T) M];rfl)⟩)))))
theorem fmt_c(n:Int)(hs:HS (.of H []) F H [] R)(E:0<=n/\n<18446744073709551616):kKt ex 61 [(.int .u64 n)] H fun v H'=> ∃(r:List UInt8) (F':Fz),Fz.le F F'/\HS (.of H []) F' H' [] R/\v=tX r/\r=dec n.toNat:=
 fmt_c_aux ex (n.toNat+1) n hs E (a0w _)
theorem rtext_c(n:Int)(hs:HS (.of H []) F H [] R)(hn:in64 n):kKt ex 31 [(iI n)] H fun v H'=> ∃(r:List UInt8) (F':Fz),Fz.le F F'/\HS (.of H []) F' H' [] R/\v=tX r/\r=gI n:=by
 refine av Tryz.func31 V V (aI (ab (za (tX []) (ay (aj ?_)))));refine aI (aI (ab (zm _ (ad (bd V V V V) V V (ay ?_)))));refine aj (cN V V (fun c1=>?_) (fun c1=>?_))
 ·try simp only[BS]at c1
  refine aI (ab (zm _ (ad (eA V V (gM M)) V V (ad (ap_ng V (gM M)) V V (ad (lX V V V (gL (n:=0-(n+1)) M)) V V ?_)))));refine ad (eA V V (gL M)) V V (zc (fmt_c ex ((0-(n+1))+1) (HS.call hs) M) ?_);rintro _ H2 ⟨r2,Y,T,E,rfl,rfl⟩;replace E:HS _ _ _ [] _:=HS.back hs V E;refine ad (ap_addS V V (tx0 (dec_le M))) V V (za _ (ay (aj (ae ⟨.inr V,_,V,[45]++(dec ((0-(n+1))+1).toNat),_,(T),(HS.forget E),V,(by rw[gI,if_pos M,show(0-(n+1)+1).toNat=n.natAbs by omega];rfl)⟩))))
 try simp only[BS]at c1
 refine aj (aI (ab (zm _ (ad (lX V V V (gL (n:=n) M)) V V (zc (fmt_c ex n (HS.call hs) M) ?_)))));rintro _ H3 ⟨r3,Z,U,O,rfl,rfl⟩;replace O:HS _ _ _ [] _:=HS.back hs V O;refine za _ (ay (aj (ae ⟨.inr V,_,V,_,_,(U),(HS.forget O),V,(by rw[gI,if_neg M])⟩)))
theorem nr(s:List UInt8)(most:Nat)(H:Heap)(b5:most<18446744073709551616):kKt ex 50 [(tX s),(.int .u64 (most:Int))] H fun v H'=> ∃(r:Int) (ok:Bool),H'=H/\v= .tuple ⟨[.int .u64 r,.bool ok]⟩/\r=(((dF s most).getD 0:Nat):Int)/\ok=(dF s most).isSome:=by
 refine av Tryz.func50 V V (aI (ab (za (.int _ 0) (za (.bool false) (ay ?_)))));refine aj (aI (ab (za (.int _ 0) (ay (aj ?_)))));refine aI (aI (ab (za (.int _ 0) (ay (aj ?_)))));refine gf (aq (fun(mm:Nat) f H'=> ∃(i:Nat) (m:Nat),H'=H/\aJ f [(0,(tX s)),(1,(.int _ _)),(6,(.int _ (m:Int))),(7,(.int _ (i:Int)))]/\mm=s.length-i/\(i<=s.length)/\(m=val (s.take i))/\((s.take i).all fy=true)/\(m<10^i)/\(2<=i->((s.getD 0 0).toNat:Int)≠48)/\(i<=19)) _ ⟨0,0,V,⟨V,V,V,V,trivial⟩,V,M,k_,k_,e_,(by intro hh;first|omega|(rcases a0c i 2 with h|h;exact pc.1.2 M;exact h5 h)),M⟩ ?_);rintro b2 f1 H ⟨i,m,rfl,a8,rfl,h1,h2,h3,h4,h5,h6⟩ a9;refine az _ a8 (fun _=>?_);clear a8;refine aI (aI (ab (zm (.int _ _) (zm _ (ad (fq V V) V V ?_)))));refine ad (bd V V V V) V V (ay (aj (cN V V (fun c2=>?_) (fun c2=>?_))))
 ·try simp only[BS]at c2
  have pi:=c2;refine aj (aI (gf (aI (aI (cC 14 36 [] [(36,(.bool ((((decide (((s.getD i 0).toNat:Int)<48))||(decide ((57:Int)<((s.getD i 0).toNat:Int))))||(((i:Int)==1)&&(((s.getD 0 0).toNat:Int)==48)))||(decide ((18:Int)<(i:Int))))))] (fun H'=>H'=H) ?_ ?_)))))
  ·refine ab (zm (tX s) (zm (.int _ _) ?_));have bb:=dD (s.getD i 0);refine ad (v:=(.int .u8 ((s.getD i 0).toNat:Int))) (dI V V V M (bj M)) V V (ad (bd V V V V) V V (zm (.bool (decide (((s.getD i 0).toNat:Int)<48))) (bX V V (fun T=>?_) (fun T=>?_))))
   ·have a3:=T;try simp only[BS]at a3
    refine zm (tX s) (aA V T (zm (.int _ _) (aA V T ?_)));have bl:=dD (s.getD i 0);refine ad (v:=(.int .u8 ((s.getD i 0).toNat:Int))) (dI V V V M (bj M)) V V (aA V T (ad (bd V V V V) V V (ad (v:=(.bool (decide ((57:Int)<((s.getD i 0).toNat:Int))))) (aD V T V) V V (zm (.bool (decide ((57:Int)<((s.getD i 0).toNat:Int)))) (bX V V (fun O=>?_) (fun O=>?_))))))
    ·have a4:=O;try simp only[BS]at a4
     refine zm _ (aA V O (ad (bd V V V V) V V (aA V O (zm (.bool ((i:Int)==1)) (gJ V V (fun Y=>?_) (fun Y=>?_))))))
     ·have a5:=Y;try simp only[BS]at a5
      refine zm (tX s) (aA V Y ?_);have b0:=dD (s.getD 0 0);refine ad (v:=(.int .u8 ((s.getD 0 0).toNat:Int))) (dI V V V e_ (bj M)) V V (aA V Y (ad (bd V V V V) V V (aA V O (ad (v:=(.bool (((s.getD 0 0).toNat:Int)==48))) (au V Y V) V V (ad (v:=(.bool (((s.getD 0 0).toNat:Int)==48))) (aD V O V) V V ?_)))));refine zm (.bool (((s.getD 0 0).toNat:Int)==48)) (bX V V (fun U=>?_) (fun U=>?_))
      ·have an:=U;try simp only[BS]at an
       refine zm _ (aA V U (ad (bd V V V V) V V (ad (v:=(.bool (decide ((18:Int)<(i:Int))))) (aD V U V) V V (ay ?_))));exact ap ⟨V,V,(by repeat' first|exact Lr|refine Lu V ?_),(agC (congrArg _ (show(decide ((18:Int)<(i:Int)))=((((decide (((s.getD i 0).toNat:Int)<48))||(decide ((57:Int)<((s.getD i 0).toNat:Int))))||(((i:Int)==1)&&(((s.getD 0 0).toNat:Int)==48)))||(decide ((18:Int)<(i:Int)))) by simp only[↓T,↓O,↓Y,↓U,BT])) agN)⟩
      have an:=U;try simp only[BS]at an
      refine ag V U V (ad (v:=(.bool true)) (au V U V) V V (ay ?_));exact ap ⟨V,V,(by repeat' first|exact Lr|refine Lu V ?_),(agC (congrArg _ (show true=((((decide (((s.getD i 0).toNat:Int)<48))||(decide ((57:Int)<((s.getD i 0).toNat:Int))))||(((i:Int)==1)&&(((s.getD 0 0).toNat:Int)==48)))||(decide ((18:Int)<(i:Int)))) by simp only[↓T,↓O,↓Y,↓U,BT])) agN)⟩
     have a5:=Y;try simp only[BS]at a5
     refine bV V Y V (bV V Y V (aA V O (ad (v:=(.bool false)) (aD V Y V) V V (ad (v:=(.bool false)) (aD V O V) V V (zm (.bool false) ?_)))));refine aA V V (zm _ (aA V V (ad (bd V V V V) V V (ad (v:=(.bool (decide ((18:Int)<(i:Int))))) (aD V V V) V V (ay ?_)))));exact ap ⟨V,V,(by repeat' first|exact Lr|refine Lu V ?_),(agC (congrArg _ (show(decide ((18:Int)<(i:Int)))=((((decide (((s.getD i 0).toNat:Int)<48))||(decide ((57:Int)<((s.getD i 0).toNat:Int))))||(((i:Int)==1)&&(((s.getD 0 0).toNat:Int)==48)))||(decide ((18:Int)<(i:Int)))) by simp only[↓T,↓O,↓Y,BT])) agN)⟩
    have a4:=O;try simp only[BS]at a4
    refine ag V O V (ag V O V (cU V V (cU V V (cU V V (ag V O V ?_)))));refine ad (v:=(.bool true)) (au V O V) V V (zm _ (ag V V V (ag V V V (ad (v:=(.bool true)) (au V V V) V V (ay ?_)))));exact ap ⟨V,V,(by repeat' first|exact Lr|refine Lu V ?_),(agC (congrArg _ (show true=((((decide (((s.getD i 0).toNat:Int)<48))||(decide ((57:Int)<((s.getD i 0).toNat:Int))))||(((i:Int)==1)&&(((s.getD 0 0).toNat:Int)==48)))||(decide ((18:Int)<(i:Int)))) by simp only[↓T,↓O,BT])) agN)⟩
   have a3:=T;try simp only[BS]at a3
   refine ag V T V (ag V T V (ag V T V (ad (v:=(.bool true)) (au V T V) V V (zm (.bool true) (ag V V V ?_)))));refine ag V V V (ag V V V (cU V V (cU V V (cU V V (ag V V V ?_)))));refine ad (v:=(.bool true)) (au V V V) V V (zm _ (ag V V V (ag V V V (ad (v:=(.bool true)) (au V V V) V V (ay ?_)))));exact ap ⟨V,V,(by repeat' first|exact Lr|refine Lu V ?_),(agC (congrArg _ (show true=((((decide (((s.getD i 0).toNat:Int)<48))||(decide ((57:Int)<((s.getD i 0).toNat:Int))))||(((i:Int)==1)&&(((s.getD 0 0).toNat:Int)==48)))||(decide ((18:Int)<(i:Int)))) by simp only[↓T,BT])) agN)⟩
  skip;rintro g3 H rfl;refine aj (cN V V (fun Z=>?_) (fun Z=>?_))
  ·try simp only[BS]at Z
   have pc:=Z;refine aI (ab (za (.int _ 0) (za (.bool false) (ay (aj ?_)))));refine ae ⟨.inr V,_,V,0,_,V,V,(by have e:=num_bad (m:=most) pi pc;rw[e];(try rfl)),(by have e:=num_bad (m:=most) pi pc;rw[e];(try rfl))⟩
  try simp only[BS]at Z
  have pc:=Z;have hp:=pow_le (show i<=18 by omega);refine aj (ab (zm _ (ad (ap_mul V V (gL (n:=10 *(m:Int)) M)) V V (zm (tX s) (zm (.int _ _) ?_)))));have ba:=dD (s.getD i 0);refine ad (v:=(.int .u8 ((s.getD i 0).toNat:Int))) (dI V V V M (bj M)) V V (ad (ap_sub V V (natsub (b:=48) M (w_u8 M))) V V (ad (lX V V V (gL M)) V V (ad (eA V V (gL M)) V V (za (.int _ _) (ay ?_)))));refine eM (aj (ab (zm _ (ad (eA V V (gM (n:=(i:Int)+1) M)) V V (za (.int _ _) ?_)))));refine ay (aj ?_);refine a9 _ _ _ ?_ ⟨i+1,(10 *m)+((s.getD i 0).toNat-48),V,⟨V,V,V,V,trivial⟩,V,M,(by(rw[kK M,h2])),(by(rw[gB M,h3,a1o,lP];omega)),(by(rw[a1H];omega)),(by intro hh;first|omega|(rcases a0c i 2 with h|h;exact pc.1.2 M;exact h5 h)),M⟩;omega
 try simp only[BS]at c2
 have pi:=c2;refine dC (dC (eN (aj (aI (aI ?_)))));refine cC 45 51 [] [(51,(.bool ((s==[])||(decide ((most:Int)<(m:Int))))))] (fun H'=>H'=H) ?_ ?_
 ·refine ab (zm _ (ad (ap_eqS V V) V V (zm (.bool (s==[])) (bX V V (fun E=>?_) (fun E=>?_)))))
  ·have ax:=E;try simp only[BS]at ax
   refine zm _ (aA V E (zm _ (aA V E (ad (bd V V V V) V V (ad (v:=(.bool (decide ((most:Int)<(m:Int))))) (aD V E V) V V ?_)))));refine ay ?_;exact ap ⟨V,V,(by repeat' first|exact Lr|refine Lu V ?_),(agC (congrArg _ (show(decide ((most:Int)<(m:Int)))=((s==[])||(decide ((most:Int)<(m:Int)))) by simp only[↓E,BT])) agN)⟩
  have ax:=E;try simp only[BS]at ax
  refine ag V E V (ag V E V (ad (v:=(.bool true)) (au V E V) V V (ay ?_)));exact ap ⟨V,V,(by repeat' first|exact Lr|refine Lu V ?_),(agC (congrArg _ (show true=((s==[])||(decide ((most:Int)<(m:Int)))) by simp only[↓E,BT])) agN)⟩
 skip;rintro b1 H rfl;refine aj (cN V V (fun al=>?_) (fun al=>?_))
 ·try simp only[BS]at al
  have pm:=al;refine aI (ab (za (.int _ 0) (za (.bool false) (ay (aj ?_)))));refine ae ⟨.inr V,_,V,0,_,V,V,(by rcases pm with pm|pm;(subst pm;rw[ns];rfl);(by_cases hs:s=[];(subst hs;rw[ns];rfl));have e:=nt (most:=most) h1 pi h2 h3 h6 h5 hs;rw[e];(try rfl);split<;>first|rfl|(exfalso;omega)),(by rcases pm with pm|pm;(subst pm;rw[ns];rfl);(by_cases hs:s=[];(subst hs;rw[ns];rfl));have e:=nt (most:=most) h1 pi h2 h3 h6 h5 hs;rw[e];(try rfl);split<;>first|rfl|(exfalso;omega))⟩
 try simp only[BS]at al
 have pm:=al;refine aj (aI (ab (zm _ (za (.int _ _) (za (.bool true) ?_)))));refine ay (aj (ae ⟨.inr V,_,V,_,_,V,V,(by have e:=nt (most:=most) h1 pi h2 h3 h6 h5 pm.1;rw[e];(try rfl);split<;>first|rfl|(exfalso;omega)),(by have e:=nt (most:=most) h1 pi h2 h3 h6 h5 pm.1;rw[e];(try rfl);split<;>first|rfl|(exfalso;omega))⟩))
theorem rp1{s:List UInt8}(c:s=[]\/((s.getD 0 0).toNat:Int)≠45):aQ s=(dF s 9223372036854775807).map fun n=>(n:Int):=by
 apply nk;intro h;rcases c with rfl|c
 ·simp at h
 exact c
theorem rp1'{o:Option Nat}:((o.getD 0:Nat):Int)=(o.map fun n=>(n:Int)).getD 0/\o.isSome=(o.map fun n=>(n:Int)).isSome:=by cases o<;>exact⟨V,V⟩
theorem pos_le{s:List UInt8}{m:Nat}:(dF s m).getD 0<=m:=by
 unfold dF;split
 ·rename_i h;exact h.2
 exact a0l _
theorem rp2{s:List UInt8}(c:s≠ []/\((s.getD 0 0).toNat:Int)=45):aQ s=sgn (dF (s.drop 1) 9223372036854775808):=by
 apply np;refine⟨?_,c.2⟩;cases s with
 |nil=>exact absurd V c.1
 |cons a l=>simp
theorem rp3{o:Option Nat}(c:o.isSome=false\/((o.getD 0:Nat):Int)=0):sgn o=none:=by
 cases o with
 |none=>rfl
 |some n=>
  rcases c with c|c
  ·cases c
  have:n=0:=by simpa using c
  subst this;rfl
theorem rp4{o:Option Nat}(c:o.isSome=true/\((o.getD 0:Nat):Int)≠0):0-((o.getD 0:Nat)-1:Int)-1=(sgn o).getD 0/\true=(sgn o).isSome:=by
 cases o with
 |none=>cases c.1
 |some n=>
  have E:n≠0:=fun e=>c.2 (by rw[e];rfl)
  rw[sgn_of M]
  refine⟨?_,V⟩
  show 0-((n:Int)-1)-1= -(n:Int)
  omega
theorem rparse_c(s:List UInt8)(H:Heap):kKt ex 108 [(tX s)] H fun v H'=> ∃(r:Int) (ok:Bool),H'=H/\v= .tuple ⟨[iI r,.bool ok]⟩/\r=(aQ s).getD 0/\ok=(aQ s).isSome:=by
 refine av Tryz.func108 V V (aI (ab (za (.int _ 0) (za (.bool false) (ay ?_)))));refine aj (aI (aI (cC 8 14 [] [(14,(.bool ((s==[])||(((s.getD 0 0).toNat:Int) !=45))))] (fun H'=>H'=H) ?_ ?_)))
 ·refine ab (zm _ (ad (ap_eqS V V) V V (zm (.bool (s==[])) (bX V V (fun E=>?_) (fun E=>?_)))))
  ·have Y:=E;try simp only[BS]at Y
   refine zm (tX s) (aA V E ?_);have al:=dD (s.getD 0 0);refine ad (v:=(.int .u8 ((s.getD 0 0).toNat:Int))) (dI V V V e_ (bj (by(have:=a1q.2 (by assumption:s≠ []);omega)))) V V (aA V E (ad (bd V V V V) V V (ad (v:=(.bool (((s.getD 0 0).toNat:Int) !=45))) (aD V E V) V V (ay ?_))));exact ap ⟨V,V,(by repeat' first|exact Lr|refine Lu V ?_),(agC (congrArg _ (show(((s.getD 0 0).toNat:Int) !=45)=((s==[])||(((s.getD 0 0).toNat:Int) !=45)) by simp only[↓E,BT])) agN)⟩
  have Y:=E;try simp only[BS]at Y
  refine ag V E V (ag V E V (ad (v:=(.bool true)) (au V E V) V V (ay ?_)));exact ap ⟨V,V,(by repeat' first|exact Lr|refine Lu V ?_),(agC (congrArg _ (show true=((s==[])||(((s.getD 0 0).toNat:Int) !=45)) by simp only[↓E,BT])) agN)⟩
 skip;rintro g1 H rfl;refine aj (cN V V (fun T=>?_) (fun T=>?_))
 ·try simp only[BS]at T
  have pb:=T;refine aI (ab (zm _ (zc (nr ex s 9223372036854775807 _ e_) ?_)));rintro _ H ⟨r5,an,rfl,rfl,rfl,rfl⟩;refine zm (.tuple ⟨[_,_]⟩) (ad (ap_ex V V) V V (ad (ap_ex V V) V V (za (.int _ _) (za (.bool (dF s _).isSome) (ay ?_)))));refine aj (aI (ab (zm _ (ad (lX V V V (gM (n:=(((dF s 9223372036854775807).getD 0:Nat):Int)) (by(have:= @pos_le s 9223372036854775807;omega)))) V V (zm (.bool (dF s _).isSome) ?_)))));refine za _ (za _ (ay (aj (ae ⟨.inr V,_,V,_,_,V,V,((rp1 pb▸rp1'.1)),((rp1 pb▸rp1'.2))⟩))))
 try simp only[BS]at T
 have pb:=T;refine aj (aI (ab (zm _ (ad (v:=(tX (s.drop 1))) (ap_slSd V V (optN e_) (by(obtain⟨pb1,_⟩:=pb;have:=a1q.2 pb1;omega))) V V (zc (nr ex _ 9223372036854775808 _ e_) ?_)))));rintro _ H ⟨r6,ax,rfl,rfl,rfl,rfl⟩;refine zm (.tuple ⟨[_,_]⟩) (ad (ap_ex V V) V V (ad (ap_ex V V) V V (za (.int _ _) (za (.bool (dF _ _).isSome) (ay ?_)))));refine aj (aI (aI (cC 29 34 [] [(34,(.bool ((!(dF (s.drop 1) 9223372036854775808).isSome)||((((dF (s.drop 1) 9223372036854775808).getD 0:Nat):Int)==0))))] (fun H'=>H'=H) ?_ ?_)))
 ·refine ab (zm _ (ad (cg V) V V (zm (.bool (!(dF _ _).isSome)) (bX V V (fun O=>?_) (fun O=>?_)))))
  ·have Z:=O;try simp only[BS]at Z
   refine zm _ (aA V O (ad (bd V V V V) V V (ad (v:=(.bool ((((dF _ _).getD 0:Nat):Int)==0))) (aD V O V) V V (ay ?_))));exact ap ⟨V,V,(by repeat' first|exact Lr|refine Lu V ?_),(agC (congrArg _ (show((((dF _ _).getD 0:Nat):Int)==0)=((!(dF _ _).isSome)||((((dF _ _).getD 0:Nat):Int)==0)) by simp only[↓O,BT])) agN)⟩
  have Z:=O;try simp only[BS]at Z
  refine ag V O V (ad (v:=(.bool true)) (au V O V) V V (ay ?_));exact ap ⟨V,V,(by repeat' first|exact Lr|refine Lu V ?_),(agC (congrArg _ (show true=((!(dF _ _).isSome)||((((dF _ _).getD 0:Nat):Int)==0)) by simp only[↓O,BT])) agN)⟩
 skip;rintro g7 H rfl;refine aj (cN V V (fun U=>?_) (fun U=>?_))
 ·try simp only[BS]at U
  have pc:=U;refine aI (ab (za (.int _ 0) (za (.bool false) (ay (aj ?_)))));refine ae ⟨.inr V,_,V,0,_,V,V,(by rw[rp2 pb,rp3 pc];rfl),(by rw[rp2 pb,rp3 pc];rfl)⟩
 try simp only[BS]at U
 have pc:=U;refine aj (aI (ab (zm _ (ad (ap_sub V V (gL (by(have:= @pos_le (s.drop 1) 9223372036854775808;have:=pc.2;omega)))) V V (ad (lX V V V (gM (n:=(((dF (s.drop 1) 9223372036854775808).getD 0:Nat):Int)-1) (by(have:= @pos_le (s.drop 1) 9223372036854775808;have:=pc.2;omega)))) V V ?_)))));refine ad (ap_ng V (gM (by(have:= @pos_le (s.drop 1) 9223372036854775808;have:=pc.2;omega)))) V V (ad (ap_sub V V (gM (by(have:= @pos_le (s.drop 1) 9223372036854775808;have:=pc.2;omega)))) V V (za (.int _ _) (za (.bool true) (ay (aj ?_)))));refine ae ⟨.inr V,_,V,_,_,V,V,(by rw[rp2 pb];first|exact(rp4 pc).1|exact(rp4 pc).2),(by rw[rp2 pb];first|exact(rp4 pc).1|exact(rp4 pc).2)⟩
theorem lD(s:List UInt8)(H:Heap):kKt ex 42 [(tX s)] H fun v H'=>v= .tuple ⟨[iI ((aQ s).getD 0),.bool (aQ s).isSome]⟩/\H'=H:=cq (parse_c ex s H) (by rintro _ _ ⟨_,_,rfl,rfl,rfl,rfl⟩;exact⟨V,V⟩)
theorem my(s:List UInt8)(most:Nat)(H:Heap)(E:most<18446744073709551616):kKt ex 50 [(tX s),(.int .u64 (most:Int))] H fun v H'=>v= .tuple ⟨[.int .u64 (((dF s most).getD 0:Nat):Int),.bool (dF s most).isSome]⟩/\H'=H:=cq (nr ex s most H E) (by rintro _ _ ⟨_,_,rfl,rfl,rfl,rfl⟩;exact⟨V,V⟩)
theorem mt(s:List UInt8)(H:Heap):kKt ex 108 [(tX s)] H fun v H'=>v= .tuple ⟨[iI ((aQ s).getD 0),.bool (aQ s).isSome]⟩/\H'=H:=cq (rparse_c ex s H) (by rintro _ _ ⟨_,_,rfl,rfl,rfl,rfl⟩;exact⟨V,V⟩)
end Go.Proofs.YtapgbjedgcpffaaGreat.w3
