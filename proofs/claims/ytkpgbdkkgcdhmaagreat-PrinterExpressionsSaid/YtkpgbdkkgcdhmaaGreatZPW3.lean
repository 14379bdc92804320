/-
Texts of words: writing and reading them, program and reference. No condition but that numbers are words.
-/
import Derived.Test.YtkpgbdkkgcdhmaaGreatZPL1
import Derived.Test.YtkpgbdkkgcdhmaaGreatZPW1
noncomputable section
namespace Go.Proofs.YtkpgbdkkgcdhmaaGreat.w3
open Go.R
set_option maxRecDepth 10000
set_option linter.unusedVariables false
set_option linter.unusedSimpArgs false
variable (ex:FuncId) {F:Fz} {H:Heap} {R:List Fp}
open w1
theorem pow_le{i k:Nat}(h:i<=k):10^i<=10^k:=Nat.pow_le_pow_right (by decide) h
theorem w_tail{s:List UInt8}:s.tail=s.drop 1:=by cases s<;>rfl
theorem fX{t:List UInt8}:iJ t=true↔1<=t.length/\t.length<=19/\t.all eD=true/\(t.getD 0 0=48->t.length=1):=by
 unfold iJ;have e:t.headD 0=t.getD 0 0:=by cases t<;>rfl
 rw[e];simp only[a02,a0P,decide_eq_true_eq,bne_iff_ne,ne_eq,beq_iff_eq,and_assoc];constructor
 ·rintro⟨E,O,T,A⟩;exact⟨E,O,T,fun h=>by rcases A with A|A;exact absurd h A;exact A⟩
 rintro⟨E,O,T,A⟩;exact⟨E,O,T,by by_cases h:t.getD 0 0=48;exact .inr (A h);exact .inl h⟩
theorem mc{c:UInt8}:eD c=true↔48<=c.toNat/\c.toNat<=57:=by simp[eD]
theorem u8eq{c:UInt8}{n:Nat}(h:n<256):(c.toNat:Int)=(n:Int)↔c=UInt8.ofNat n:=by
 constructor
 ·intro A;apply UInt8.toNat_inj.1;rw[UInt8.toNat_ofNat'];omega
 rintro rfl;rw[UInt8.toNat_ofNat'];omega
theorem dec_step{m q:Nat}{bs:List UInt8}{d:List UInt8}(hb:bs.length=20)(O:1<=q)(E:q<=20)(h:d=dec m++bs.drop q):
  (0<m/10->d=dec (m/10)++(bs.set (q-1) (UInt8.ofNat (48+m%10))).drop (q-1))/\(m/10=0->d=(bs.set (q-1) (UInt8.ofNat (48+m%10))).drop (q-1)):=by
 have e:(bs.set (q-1) (UInt8.ofNat (48+m%10))).drop (q-1)=UInt8.ofNat (48+m%10)::bs.drop q:=by
  apply a1B;intro i;rw[a0D];cases i with
  |zero=>rw[List.getElem?_cons_zero,Nat.add_zero,List.getElem?_set_self (by omega)]
  |succ i=>rw[a1x,a0D,List.getElem?_set_ne (by omega)];congr 1;omega
 rw[e]
 refine⟨fun A=>?_,fun A=>?_⟩
 ·rw[h,iO (by omega)];simp[decD]
 rw[h,du (by omega)]
 have:m%10=m:=by omega
 rw[this];rfl
theorem tx0{l:List UInt8}(h:l.length<=20):([45]:List UInt8).length+l.length<=1099511627776:=by simp;omega
theorem tx1{n:Int}(O:in64 n):(n<0->[45]++dec (IntKind.u64.wrap (0-IntKind.u64.wrap n)).toNat=bS n)/\(¬n<0->dec (IntKind.u64.wrap n).toNat=bS n):=by
 obtain⟨A,E⟩:=O;rw[jP,jP];refine⟨fun h=>?_,fun h=>?_⟩
 ·rw[bS,if_pos h,show((0-n%18446744073709551616)%18446744073709551616).toNat=n.natAbs by omega];rfl
 rw[bS,if_neg h,show(n%18446744073709551616).toNat=n.toNat by omega]
theorem dec_le{n:Int}(h:0<=n/\n<18446744073709551616):(dec n.toNat).length<=20:=md 19 _ (by omega)
theorem digits_c(n:Int)(hs:HS (.of H []) F H [] R)(hn:0<=n/\n<18446744073709551616):kKt ex 53 [(.int .u64 n)] H fun v H'=> ∃(r:List UInt8) (F':Fz),Fz.le F F'/\HS (.of H []) F' H' [] R/\v= .string ⟨⟨r⟩⟩/\r=dec n.toNat:=by
 obtain⟨m0,rfl⟩:=a0M hn.1;refine av Tryz.func53 rfl rfl (aK (ab (za (.string ⟨⟨[]⟩⟩) (aA (ai ?_)))));refine aK (ab (aw (rs_arr (List.replicate 20 (0:UInt8)) hs rfl (RL.replicate (z:=[(.int .u8 0)]) rfl 20) rfl) rfl rfl ?_));rintro _ H2 p1 ⟨U,rfl,ar,(a7:HS _ _ _ [p1] _),_,a4⟩;have bw:=OS.len' ar;refine aA (ai (aK (ab (za (iI 20) (aA ?_)))));refine ai (fh (aq (fun(mm:Nat) f H'=> ∃(m:Nat) (q:Nat) (bs:List UInt8) (A:Fp) (F':Fz),Fz.le F F'/\HS (Base.of H []) F' H' [A] R/\OS F' (sL (some ⟨U,0,none⟩) 20 20) bs A/\(∃cs,A=[(U,.cells cs none false)])/\aN f [(0,(.int .u64 (m:Int))),(3,(pT U 0)),(4,(iI (q:Int)))]/\mm=q+1/\(q<=20)/\(m<10^q)/\(q=20\/0<m)/\(dec m0=dec m++bs.drop q)/\(m<18446744073709551616)) _ ⟨m0,20,List.replicate 20 (0:UInt8),p1,_,fR,a7,ar,a4,⟨rfl,rfl,rfl,trivial⟩,rfl,(by omega),(by omega),(by omega),(by simp),(by omega)⟩ ?_));rintro b2 f3 H3 ⟨m,q,bs,A,F3,al,a9,T,Z,an,rfl,h1,h2,h3,h4,h5⟩ ba;refine aC _ an (fun _=>?_);clear an;have bl:=OS.len' T;have b0:1<=q:=by
  rcases a1o q with h|h
  ·subst h;omega
  exact h
 obtain⟨q1,a5⟩: ∃q1,q=q1+1:=⟨q-1,by omega⟩
 refine fh (aK (ab (zm (iI (q:Int)) (ak (v:=(iI ((q-1:Nat):Int))) (ap_sub rfl rfl (natsub (a:=q) (b:=1) (by omega) (iD (by omega)))) rfl rfl (za (iI ((q-1:Nat):Int)) ?_)))));refine aA (ai (aK (ab (zm (iI ((q-1:Nat):Int)) (zm (.int .u64 (m:Int)) ?_)))));refine ak (v:=(.int .u64 ((m%10:Nat):Int))) (ap_mod rfl rfl (by decide) rfl) rfl rfl (ak (v:=(.int .u64 (48+((m%10:Nat):Int)))) (fF rfl rfl (lK (n:=48+((m%10:Nat):Int)) (by omega))) rfl rfl (ak (v:=(.int .u8 (48+((m%10:Nat):Int)))) (ap_cv rfl rfl rfl (w_u8 (n:=48+((m%10:Nat):Int)) (by omega))) rfl rfl (ak (v:=(.pointer (some ⟨sB (sL (some ⟨U,0,none⟩) 20 20),sO (sL (some ⟨U,0,none⟩) 20 20)+(q-1) *Rp.sz UInt8,none⟩))) (ap_idxA (α:=UInt8) (j:=((q-1:Nat):Int)) rfl rfl rfl rfl (by omega) (by omega)) rfl rfl (ay (rs_stA (α:=UInt8) (j:=q-1) (off:=0) (q:=0) (UInt8.ofNat (48+(m%10))) T a9 rfl rfl rfl rfl rfl rfl rfl rfl (bo (x:=default) (by omega)) rfl (by rintro cs rfl;exact⟨a0d rfl,u8r (n:=48+(m%10)) (by omega)⟩) Z) rfl ?_))));rintro _ H6 p4 ⟨Y,(O:HS _ _ _ [p4] _),_,V⟩;have bt:=OS.len' Y;refine aA (ai (aK (ab (zm (.int .u64 (m:Int)) (ak (v:=(.int .u64 ((m/10:Nat):Int))) (ap_div rfl rfl (by decide) (lK (n:=((m/10:Nat):Int)) (by omega))) rfl rfl ?_)))));refine za (.int .u64 ((m/10:Nat):Int)) (aA (ai (aK (ab (zm (.int .u64 ((m/10:Nat):Int)) ?_)))));refine ak (v:=(.bool (((m/10:Nat):Int)==0))) (cz rfl rfl rfl rfl) rfl rfl (aA (ai (cY (v:=(((m/10:Nat):Int)==0)) rfl rfl (fun c7=>?_) (fun c7=>?_))))
 ·try simp only[BS]at c7
  refine aK (ab (zm (iI ((q-1:Nat):Int)) (aw (rs_cutA (α:=UInt8) (i:=q-1) (j:=20) Y O (q:=0) rfl rfl rfl rfl optN0 (optN (by omega)) (by omega) (by omega) V) rfl rfl ?_)));rintro _ _ _ ⟨a8,k8,rfl,E,a6⟩;simp only at E;replace E:=E.symm;subst E;refine ak (v:=(.string ⟨⟨((bs.set (q-1) (UInt8.ofNat (48+(m%10)))).take 20).drop (q-1)⟩⟩)) (ap_cvB rfl rfl rfl rfl (OS.sv a6 O (i:=0) rfl)) rfl rfl (za (.string ⟨⟨((bs.set (q-1) (UInt8.ofNat (48+(m%10)))).take 20).drop (q-1)⟩⟩) (aA (ai (ae ⟨.inr rfl,_,rfl,((bs.set (q-1) (UInt8.ofNat (48+(m%10)))).take 20).drop (q-1),_,(al),(HS.forget O),rfl,(by rw[a0o (by omega)];exact((dec_step (by assumption) (by omega) h1 h4).2 (by omega)).symm)⟩))))
 try simp only[BS]at c7
 refine ed (ai ?_);refine ba _ _ _ ?_ ⟨m/10,q-1,bs.set (q-1) (UInt8.ofNat (48+(m%10))),p4,_,(fT al fR),O,Y,V,⟨rfl,rfl,rfl,trivial⟩,rfl,(by omega),(by rw[show q-1=q1 by omega];rw[a5,a1K]at h2;omega),(by omega),((dec_step (by assumption) (by omega) h1 h4).1 (by omega)),(by omega)⟩;omega
theorem text_c(n:Int)(hs:HS (.of H []) F H [] R)(hn:in64 n):kKt ex 23 [(iI n)] H fun v H'=> ∃(r:List UInt8) (F':Fz),Fz.le F F'/\HS (.of H []) F' H' [] R/\v= .string ⟨⟨r⟩⟩/\r=bS n:=by
 refine av Tryz.func23 rfl rfl (aK (ab (za (.string ⟨⟨[]⟩⟩) (aA (ai ?_)))));refine aK (aK (ab (zm (iI n) (ak (v:=(.bool (decide (n<0)))) (cz rfl rfl rfl rfl) rfl rfl (aA ?_)))));refine ai (cY (v:=(decide (n<0))) rfl rfl (fun c1=>?_) (fun c1=>?_))
 ·try simp only[BS]at c1
  refine aK (ab (zm (iI n) (ak (v:=(.int .u64 (IntKind.u64.wrap n))) (ap_cv rfl rfl rfl rfl) rfl rfl (ak (v:=(.int .u64 (IntKind.u64.wrap (0-(IntKind.u64.wrap n))))) (ap_ng rfl rfl) rfl rfl (zc (digits_c ex (IntKind.u64.wrap (0-(IntKind.u64.wrap n))) (HS.call hs) (by(simp only[jP];omega))) ?_)))));rintro _ Y ⟨r2,U,O,A,rfl,rfl⟩;replace A:HS _ _ _ [] _:=HS.back hs rfl A;refine ak (v:=(.string ⟨⟨[45]++(dec (IntKind.u64.wrap (0-(IntKind.u64.wrap n))).toNat)⟩⟩)) (dG rfl rfl (tx0 (dec_le ⟨by simp only[jP];omega,by simp only[jP];omega⟩))) rfl rfl (za (.string ⟨⟨[45]++(dec (IntKind.u64.wrap (0-(IntKind.u64.wrap n))).toNat)⟩⟩) (aA (ai (ae ⟨.inr rfl,_,rfl,[45]++(dec (IntKind.u64.wrap (0-(IntKind.u64.wrap n))).toNat),_,(O),(HS.forget A),rfl,((tx1 hn).1 (by assumption))⟩))))
 try simp only[BS]at c1
 refine ai (aK (ab (zm (iI n) (ak (v:=(.int .u64 (IntKind.u64.wrap n))) (ap_cv rfl rfl rfl rfl) rfl rfl (zc (digits_c ex (IntKind.u64.wrap n) (HS.call hs) (by(simp only[jP];omega))) ?_)))));rintro _ Z ⟨r3,V,T,E,rfl,rfl⟩;replace E:HS _ _ _ [] _:=HS.back hs rfl E;refine za (.string ⟨⟨dec (IntKind.u64.wrap n).toNat⟩⟩) (aA (ai (ae ⟨.inr rfl,_,rfl,dec (IntKind.u64.wrap n).toNat,_,(T),(HS.forget E),rfl,((tx1 hn).2 (by assumption))⟩)))
theorem head_getD{t:List UInt8}:t.headD 0=t.getD 0 0:=by cases t<;>rfl
theorem c48{c:UInt8}:(c.toNat:Int)=48↔c=48:=u8eq (n:=48) (by decide)
theorem c45{c:UInt8}:(c.toNat:Int)=45↔c=45:=u8eq (n:=45) (by decide)
def sgn:Option Nat->Option Int
 |some 0=>none
 |some n=>some (-(n:Int))
 |none=>none
theorem parse_b{s:List UInt8}(h:0<(s.length:Int)/\((s.getD 0 0).toNat:Int)=45):aL s=sgn (posS (s.drop 1) 9223372036854775808):=by
 unfold aL;rw[head_getD,if_pos (c45.1 h.2),w_tail];cases posS (s.drop 1) 9223372036854775808 with
 |none=>rfl
 |some n=>cases n<;>rfl
theorem parse_p{s:List UInt8}(h:0<(s.length:Int)->((s.getD 0 0).toNat:Int)≠45):aL s=(posS s 9223372036854775807).map fun n=>(n:Int):=by
 unfold aL;have:s.headD 0≠45:=by
  rw[head_getD];intro e;cases s with
  |nil=>cases e
  |cons a l=>exact h (by simp) (c45.2 e)
 rw[if_neg this];cases posS s 9223372036854775807<;>rfl
theorem ps_len{t:List UInt8}{m:Nat}(h:t.length<1\/19<t.length):posS t m=none:=by unfold posS;rw[if_neg];rintro⟨A,_⟩;obtain⟨E,O,_⟩:=fX.1 A;omega
theorem ps_zero{t:List UInt8}{m:Nat}(h:t.getD 0 0=48):posS t m=if t.length=1 then some 0 else none:=by
 unfold posS;split
 ·rename_i A;obtain⟨E,T,U,O⟩:=fX.1 A.1;rw[if_pos (O h)];match t,O h with
  | [a],_=>
   have:a=48:=h
   subst this;rfl
 rename_i A;split
 ·rename_i E;exfalso;apply A;match t,E with
  | [a],_=>
   have:a=48:=h
   subst this;exact⟨by decide,by show 0<=m;omega⟩
 rfl
theorem ps_bad{t:List UInt8}{i m:Nat}(hi:i<t.length)(h:((t.getD i 0).toNat:Int)<48\/57<((t.getD i 0).toNat:Int)):posS t m=none:=by unfold posS;rw[if_neg];rintro⟨A,_⟩;obtain⟨_,_,E,_⟩:=fX.1 A;have:=mc.1 (a0j.1 E (t.getD i 0) (a0q (bo hi)));omega
theorem ps_ok{t:List UInt8}{m:Nat}(A:1<=t.length)(E:t.length<=19)(O:t.all eD=true)(T:t.getD 0 0=48->t.length=1):posS t m=if val t<=m then some (val t) else none:=by unfold posS;have:iJ t=true:=fX.2 ⟨A,E,O,T⟩;simp only[this,true_and]
theorem wr1{m:Nat}(h:m<=9223372036854775808):IntKind.i64.wrap (IntKind.u64.wrap (0-(m:Int)))= -(m:Int):=by rw[jP,IntKind.wrap_i64];omega
theorem wr2{m:Nat}(h:m<=9223372036854775807):IntKind.i64.wrap (m:Int)=(m:Int):=iD ⟨by omega,by omega⟩
theorem sgn_of{n:Nat}(h:0<n):sgn (some n)=some (-(n:Int)):=by
 cases n with
 |zero=>omega
 |succ n=>rfl
theorem pb1{s:List UInt8}{q:Prop}(h:0<(s.length:Int)/\((s.getD 0 0).toNat:Int)=45)(c:(((s.drop 1).length:Int)<1\/19<((s.drop 1).length:Int))\/(((s.drop 1).getD 0 0).toNat:Int)=48/\q):aL s=none:=by
 rw[parse_b h];rcases c with c|⟨c,_⟩
 ·rw[ps_len (by omega)];rfl
 rw[ps_zero (c48.1 c)];split<;>rfl
theorem pp1{s:List UInt8}(h:0<(s.length:Int)->((s.getD 0 0).toNat:Int)≠45)(c:((s.length:Int)<1\/19<(s.length:Int))\/((s.getD 0 0).toNat:Int)=48/\(1<(s.length:Int)\/0<(s.length:Int)/\((s.getD 0 0).toNat:Int)=45)):aL s=none:=by
 rw[parse_p h];rcases c with c|⟨c,c'⟩
 ·rw[ps_len (by omega)];rfl
 rw[ps_zero (c48.1 c),if_neg (by rcases c' with c'|⟨c1,c2⟩;omega;exact absurd c2 (h c1))];rfl
theorem pb2{s:List UInt8}{i:Nat}(h:0<(s.length:Int)/\((s.getD 0 0).toNat:Int)=45)(hi:(i:Int)<((s.drop 1).length:Int))(c:(((s.drop 1).getD i 0).toNat:Int)<48\/57<(((s.drop 1).getD i 0).toNat:Int)):aL s=none:=by rw[parse_b h,ps_bad (i:=i) (by omega) c];rfl
theorem pp2{s:List UInt8}{i:Nat}(h:0<(s.length:Int)->((s.getD 0 0).toNat:Int)≠45)(hi:(i:Int)<(s.length:Int))(c:((s.getD i 0).toNat:Int)<48\/57<((s.getD i 0).toNat:Int)):aL s=none:=by rw[parse_p h,ps_bad (i:=i) (by omega) c];rfl
theorem fin_len{t:List UInt8}{i m:Nat}(O:i<=t.length)(c: ¬(i:Int)<(t.length:Int))(A:m=val (t.take i))(E:(t.take i).all eD=true):m=val t/\t.all eD=true:=by have:t.take i=t:=a0o (by omega);rw[this]at A E;exact⟨A,E⟩
theorem pb3{s:List UInt8}{i m:Nat}{q:Prop}(h:0<(s.length:Int)/\((s.getD 0 0).toNat:Int)=45)(c:(¬((s.drop 1).length:Int)<1/\¬19<((s.drop 1).length:Int))/\((((s.drop 1).getD 0 0).toNat:Int)=48->¬1<((s.drop 1).length:Int)/\q))(hq: ¬q)
  (T:i<=(s.drop 1).length) (Z: ¬(i:Int)<((s.drop 1).length:Int)) (U:m=val ((s.drop 1).take i)) (V:((s.drop 1).take i).all eD=true):aL s=if m<=9223372036854775808 then some (-(m:Int)) else none:=by
 obtain⟨E,O⟩:=fin_len T Z U V
 have A:(s.drop 1).getD 0 0≠48:=fun e=>hq (c.2 (c48.2 e)).2
 rw[parse_b h,ps_ok (by omega) (by omega) O (fun e=>absurd e A),←E]
 split
 ·rw[sgn_of];rw[E];have hl:1<=(s.drop 1).length:=by omega
  generalize s.drop 1=t at *
  cases t with
  |nil=>simp at hl
  |cons a l=>
   have ha:a≠48:=A
   have hd:=mc.1 (a0j.1 O a (by simp))
   have ar:a.toNat≠48:=fun e=>ha (UInt8.toNat_inj.1 e)
   have key: ∀(l:List UInt8) (n:Nat),0<n->0<l.foldl valA n:=by
    intro l;induction l with
    |nil=>intro n Y;exact Y
    |cons b l ih=>intro n Y;exact ih _ (by unfold valA;omega)
   exact key l _ (by unfold valA;omega)
 rfl
theorem pp3{s:List UInt8}{i m:Nat}{q:Prop}(h:0<(s.length:Int)->((s.getD 0 0).toNat:Int)≠45)(c:(¬(s.length:Int)<1/\¬19<(s.length:Int))/\(((s.getD 0 0).toNat:Int)=48->¬1<(s.length:Int)/\q))
  (O:i<=s.length) (V: ¬(i:Int)<(s.length:Int)) (T:m=val (s.take i)) (U:(s.take i).all eD=true):aL s=if m<=9223372036854775807 then some (m:Int) else none:=by
 obtain⟨A,E⟩:=fin_len O V T U
 rw[parse_p h,ps_ok (by omega) (by omega) E (fun e=>by have:=(c.2 (c48.2 e)).1;omega),←A]
 split<;>rfl
theorem parse_c(s:List UInt8)(H:Heap):kKt ex 80 [(.string ⟨⟨s⟩⟩)] H fun v H'=> ∃(r:Int) (ok:Bool),H'=H/\v= .tuple ⟨[.int .i64 r,.bool ok]⟩/\r=(aL s).getD 0/\ok=(aL s).isSome:=by
 refine av Tryz.func80 rfl rfl (aK (ab (za (iI 0) (za (.bool false) (aA ?_)))));refine ai (aK (ab (zm (.string ⟨⟨s⟩⟩) (za (.string ⟨⟨s⟩⟩) (aA ?_)))));refine ai (aK (ff 10 17 [5] [(5,(.bool ((decide ((0:Int)<(s.length:Int)))&&(((s.getD 0 0).toNat:Int)==45))))] (fun H'=>H'=H) ?_ ?_))
 ·refine ab (zm (.string ⟨⟨s⟩⟩) (ak (v:=(iI (s.length:Int))) (eT rfl rfl) rfl rfl (ak (v:=(.bool (decide ((0:Int)<(s.length:Int))))) (cz rfl rfl rfl rfl) rfl rfl (zm (.bool (decide ((0:Int)<(s.length:Int)))) (gz (v:=(decide ((0:Int)<(s.length:Int)))) rfl rfl (fun g2=>?_) (fun g2=>?_))))))
  ·have b4:=g2;try simp only[BS]at b4
   refine zm (.string ⟨⟨s⟩⟩) (aX rfl g2 ?_);have dn:=fG (s.getD 0 0);refine ak (v:=(.int .u8 ((s.getD 0 0).toNat:Int))) (eU (j:=0) rfl rfl rfl (by decide) (bo (by omega))) rfl rfl (aX rfl g2 (ak (v:=(.bool (((s.getD 0 0).toNat:Int)==45))) (cz rfl rfl rfl rfl) rfl rfl (ak (v:=(.bool (((s.getD 0 0).toNat:Int)==45))) (aP rfl g2 rfl) rfl rfl (za (.bool (((s.getD 0 0).toNat:Int)==45)) (aA ?_)))));exact az ⟨rfl,rfl,(by repeat' first|exact Lr|refine Lu rfl ?_),(agC (congrArg Value.bool (show(((s.getD 0 0).toNat:Int)==45)=((decide ((0:Int)<(s.length:Int)))&&(((s.getD 0 0).toNat:Int)==45)) by simp only[↓g2,BT])) agN)⟩
  have b4:=g2;try simp only[BS]at b4
  refine bW rfl g2 rfl (bW rfl g2 rfl (ak (v:=(.bool false)) (aO rfl g2 rfl) rfl rfl (za (.bool false) (aA ?_))));exact az ⟨rfl,rfl,(by repeat' first|exact Lr|refine Lu rfl ?_),(agC (congrArg Value.bool (show false=((decide ((0:Int)<(s.length:Int)))&&(((s.getD 0 0).toNat:Int)==45)) by simp only[↓g2,BT])) agN)⟩
 skip;rintro g1 H rfl;refine ai (aK (aK (ab (zm (.bool ((decide ((0:Int)<(s.length:Int)))&&(((s.getD 0 0).toNat:Int)==45))) (aA ?_)))));refine ai (cY (v:=((decide ((0:Int)<(s.length:Int)))&&(((s.getD 0 0).toNat:Int)==45))) rfl rfl (fun al=>?_) (fun al=>?_))
 ·have c4:=al;try simp only[BS]at c4
  have pb:=c4;refine ab (zm (.string ⟨⟨s⟩⟩) (ak (v:=(.string ⟨⟨s.drop 1⟩⟩)) (ap_slSd (i:=1) rfl rfl (optN (by decide)) (by omega)) rfl rfl (za (.string ⟨⟨s.drop 1⟩⟩) (aA (ai ?_)))));refine aK (aK (ff 21 41 [] [(41,(.bool (((decide (((s.drop 1).length:Int)<1))||(decide ((19:Int)<((s.drop 1).length:Int))))||(((((s.drop 1).getD 0 0).toNat:Int)==48)&&((decide ((1:Int)<((s.drop 1).length:Int)))||((decide ((0:Int)<(s.length:Int)))&&(((s.getD 0 0).toNat:Int)==45)))))))] (fun H'=>H'=H) ?_ ?_))
  ·refine ab (zm (.string ⟨⟨s.drop 1⟩⟩) (ak (v:=(iI ((s.drop 1).length:Int))) (eT rfl rfl) rfl rfl (ak (v:=(.bool (decide (((s.drop 1).length:Int)<1)))) (cz rfl rfl rfl rfl) rfl rfl (zm (.bool (decide (((s.drop 1).length:Int)<1))) (fJ (v:=(decide (((s.drop 1).length:Int)<1))) rfl rfl (fun Z=>?_) (fun Z=>?_))))))
   ·have b5:=Z;try simp only[BS]at b5
    refine zm (.string ⟨⟨s.drop 1⟩⟩) (aX rfl Z (ak (v:=(iI ((s.drop 1).length:Int))) (eT rfl rfl) rfl rfl (aX rfl Z (ak (v:=(.bool (decide ((19:Int)<((s.drop 1).length:Int))))) (cz rfl rfl rfl rfl) rfl rfl (ak (v:=(.bool (decide ((19:Int)<((s.drop 1).length:Int))))) (aO rfl Z rfl) rfl rfl ?_)))));refine zm (.bool (decide ((19:Int)<((s.drop 1).length:Int)))) (fJ (v:=(decide ((19:Int)<((s.drop 1).length:Int)))) rfl rfl (fun T=>?_) (fun T=>?_))
    ·have b6:=T;try simp only[BS]at b6
     refine zm (.string ⟨⟨s.drop 1⟩⟩) (aX rfl T ?_);have ds:=fG ((s.drop 1).getD 0 0);refine ak (v:=(.int .u8 (((s.drop 1).getD 0 0).toNat:Int))) (eU (j:=0) rfl rfl rfl (by decide) (bo (by omega))) rfl rfl (aX rfl T (ak (v:=(.bool ((((s.drop 1).getD 0 0).toNat:Int)==48))) (cz rfl rfl rfl rfl) rfl rfl (aX rfl T (zm (.bool ((((s.drop 1).getD 0 0).toNat:Int)==48)) (gz (v:=((((s.drop 1).getD 0 0).toNat:Int)==48)) rfl rfl (fun Y=>?_) (fun Y=>?_))))))
     ·have b7:=Y;try simp only[BS]at b7
      refine zm (.string ⟨⟨s.drop 1⟩⟩) (aX rfl Y (ak (v:=(iI ((s.drop 1).length:Int))) (eT rfl rfl) rfl rfl (aX rfl Y (ak (v:=(.bool (decide ((1:Int)<((s.drop 1).length:Int))))) (cz rfl rfl rfl rfl) rfl rfl (aX rfl Y ?_)))));refine zm (.bool (decide ((1:Int)<((s.drop 1).length:Int)))) (fJ (v:=(decide ((1:Int)<((s.drop 1).length:Int)))) rfl rfl (fun an=>?_) (fun an=>?_))
      ·have ba:=an;try simp only[BS]at ba
       refine zm (.bool ((decide ((0:Int)<(s.length:Int)))&&(((s.getD 0 0).toNat:Int)==45))) (aX rfl Y (ak (v:=(.bool ((decide ((0:Int)<(s.length:Int)))&&(((s.getD 0 0).toNat:Int)==45)))) (aO rfl an rfl) rfl rfl (aX rfl T (ak (v:=(.bool ((decide ((0:Int)<(s.length:Int)))&&(((s.getD 0 0).toNat:Int)==45)))) (aP rfl Y rfl) rfl rfl (ak (v:=(.bool ((decide ((0:Int)<(s.length:Int)))&&(((s.getD 0 0).toNat:Int)==45)))) (aO rfl T rfl) rfl rfl ?_)))));refine aA ?_;exact az ⟨rfl,rfl,(by repeat' first|exact Lr|refine Lu rfl ?_),(agC (congrArg Value.bool (show((decide ((0:Int)<(s.length:Int)))&&(((s.getD 0 0).toNat:Int)==45))=(((decide (((s.drop 1).length:Int)<1))||(decide ((19:Int)<((s.drop 1).length:Int))))||(((((s.drop 1).getD 0 0).toNat:Int)==48)&&((decide ((1:Int)<((s.drop 1).length:Int)))||((decide ((0:Int)<(s.length:Int)))&&(((s.getD 0 0).toNat:Int)==45))))) by simp only[↓Z,↓T,↓Y,↓an,BT])) agN)⟩
      have ba:=an;try simp only[BS]at ba
      refine aX rfl Y (ak (v:=(.bool true)) (aP rfl an rfl) rfl rfl (aX rfl T (ak (v:=(.bool true)) (aP rfl Y rfl) rfl rfl (ak (v:=(.bool true)) (aO rfl T rfl) rfl rfl (aA ?_)))));exact az ⟨rfl,rfl,(by repeat' first|exact Lr|refine Lu rfl ?_),(agC (congrArg Value.bool (show true=(((decide (((s.drop 1).length:Int)<1))||(decide ((19:Int)<((s.drop 1).length:Int))))||(((((s.drop 1).getD 0 0).toNat:Int)==48)&&((decide ((1:Int)<((s.drop 1).length:Int)))||((decide ((0:Int)<(s.length:Int)))&&(((s.getD 0 0).toNat:Int)==45))))) by simp only[↓Z,↓T,↓Y,↓an,BT])) agN)⟩
     have b7:=Y;try simp only[BS]at b7
     refine bW rfl Y rfl (bW rfl Y rfl (bW rfl Y rfl (dA rfl rfl (bW rfl Y rfl (aX rfl T ?_)))));refine ak (v:=(.bool false)) (aO rfl Y rfl) rfl rfl (ak (v:=(.bool false)) (aO rfl T rfl) rfl rfl (aA ?_));exact az ⟨rfl,rfl,(by repeat' first|exact Lr|refine Lu rfl ?_),(agC (congrArg Value.bool (show false=(((decide (((s.drop 1).length:Int)<1))||(decide ((19:Int)<((s.drop 1).length:Int))))||(((((s.drop 1).getD 0 0).toNat:Int)==48)&&((decide ((1:Int)<((s.drop 1).length:Int)))||((decide ((0:Int)<(s.length:Int)))&&(((s.getD 0 0).toNat:Int)==45))))) by simp only[↓Z,↓T,↓Y,BT])) agN)⟩
    have b6:=T;try simp only[BS]at b6
    refine aR rfl T rfl (aR rfl T rfl (aR rfl T rfl (dA rfl rfl (dA rfl rfl (dA rfl rfl ?_)))));refine dA rfl rfl (dA rfl rfl (dA rfl rfl (aR rfl T rfl (ak (v:=(.bool true)) (aP rfl T rfl) rfl rfl (aA ?_)))));exact az ⟨rfl,rfl,(by repeat' first|exact Lr|refine Lu rfl ?_),(agC (congrArg Value.bool (show true=(((decide (((s.drop 1).length:Int)<1))||(decide ((19:Int)<((s.drop 1).length:Int))))||(((((s.drop 1).getD 0 0).toNat:Int)==48)&&((decide ((1:Int)<((s.drop 1).length:Int)))||((decide ((0:Int)<(s.length:Int)))&&(((s.getD 0 0).toNat:Int)==45))))) by simp only[↓Z,↓T,BT])) agN)⟩
   have b5:=Z;try simp only[BS]at b5
   refine aR rfl Z rfl (aR rfl Z rfl (ak (v:=(.bool true)) (aP rfl Z rfl) rfl rfl (zm (.bool true) (aR rfl rfl rfl (aR rfl rfl rfl ?_)))));refine aR rfl rfl rfl (aR rfl rfl rfl (dA rfl rfl (dA rfl rfl (dA rfl rfl (dA rfl rfl ?_)))));refine dA rfl rfl (dA rfl rfl (aR rfl rfl rfl (ak (v:=(.bool true)) (aP rfl rfl rfl) rfl rfl (aA ?_))));exact az ⟨rfl,rfl,(by repeat' first|exact Lr|refine Lu rfl ?_),(agC (congrArg Value.bool (show true=(((decide (((s.drop 1).length:Int)<1))||(decide ((19:Int)<((s.drop 1).length:Int))))||(((((s.drop 1).getD 0 0).toNat:Int)==48)&&((decide ((1:Int)<((s.drop 1).length:Int)))||((decide ((0:Int)<(s.length:Int)))&&(((s.getD 0 0).toNat:Int)==45))))) by simp only[↓Z,BT])) agN)⟩
  skip;rintro g5 H rfl;refine ai (cY (v:=(((decide (((s.drop 1).length:Int)<1))||(decide ((19:Int)<((s.drop 1).length:Int))))||(((((s.drop 1).getD 0 0).toNat:Int)==48)&&((decide ((1:Int)<((s.drop 1).length:Int)))||((decide ((0:Int)<(s.length:Int)))&&(((s.getD 0 0).toNat:Int)==45)))))) rfl rfl (fun a4=>?_) (fun a4=>?_))
  ·try simp only[BS]at a4
   have pc:=a4;refine aK (ab (za (iI 0) (za (.bool false) (aA (ai ?_)))));refine ae ⟨.inr rfl,_,rfl,0,false,rfl,rfl,(by have e:=pb1 pb pc;rw[e];(try rfl)),(by have e:=pb1 pb pc;rw[e];(try rfl))⟩
  try simp only[BS]at a4
  have pc:=a4;refine ai (aK (ab (za (.int .u64 0) (aA (ai ?_)))));refine aK (aK (ab (za (iI 0) (aA (ai ?_)))));refine fh (aq (fun(mm:Nat) f H'=> ∃(i:Nat) (m:Nat),H'=H/\aN f [(4,(.string ⟨⟨s.drop 1⟩⟩)),(5,(.bool ((decide ((0:Int)<(s.length:Int)))&&(((s.getD 0 0).toNat:Int)==45)))),(6,(.int .u64 (m:Int))),(7,(iI (i:Int)))]/\mm=(s.drop 1).length-i/\(i<=(s.drop 1).length)/\(m=val ((s.drop 1).take i))/\(((s.drop 1).take i).all eD=true)/\(m<10^i)/\((s.drop 1).length<=19)) _ ⟨0,0,rfl,⟨rfl,rfl,rfl,rfl,trivial⟩,rfl,(by omega),(by rfl),(by rfl),(by decide),(by omega)⟩ ?_);rintro c9 dt H ⟨i,m,rfl,b2,rfl,h1,h2,h3,h4,h5⟩ b8;refine aC _ b2 (fun _=>?_);clear b2;refine aK (aK (ab (zm (iI (i:Int)) (zm (.string ⟨⟨s.drop 1⟩⟩) (ak (v:=(iI ((s.drop 1).length:Int))) (eT rfl rfl) rfl rfl ?_)))));refine ak (v:=(.bool (decide ((i:Int)<((s.drop 1).length:Int))))) (cz rfl rfl rfl rfl) rfl rfl (aA (ai (cY (v:=(decide ((i:Int)<((s.drop 1).length:Int)))) rfl rfl (fun a5=>?_) (fun a5=>?_))))
  ·try simp only[BS]at a5
   have hp:=pow_le (show i<=18 by omega);have pi:=a5;refine ai (aK (fh (aK (aK (ff 48 57 [] [(57,(.bool ((decide ((((s.drop 1).getD i 0).toNat:Int)<48))||(decide ((57:Int)<(((s.drop 1).getD i 0).toNat:Int))))))] (fun H'=>H'=H) ?_ ?_)))))
   ·refine ab (zm (.string ⟨⟨s.drop 1⟩⟩) (zm (iI (i:Int)) ?_));have ch:=fG ((s.drop 1).getD i 0);refine ak (v:=(.int .u8 (((s.drop 1).getD i 0).toNat:Int))) (eU (j:=(i:Int)) rfl rfl rfl (by omega) (bo (by omega))) rfl rfl (ak (v:=(.bool (decide ((((s.drop 1).getD i 0).toNat:Int)<48)))) (cz rfl rfl rfl rfl) rfl rfl (zm (.bool (decide ((((s.drop 1).getD i 0).toNat:Int)<48))) (fJ (v:=(decide ((((s.drop 1).getD i 0).toNat:Int)<48))) rfl rfl (fun U=>?_) (fun U=>?_))))
    ·have bb:=U;try simp only[BS]at bb
     refine zm (.string ⟨⟨s.drop 1⟩⟩) (aX rfl U (zm (iI (i:Int)) (aX rfl U ?_)));have ci:=fG ((s.drop 1).getD i 0);refine ak (v:=(.int .u8 (((s.drop 1).getD i 0).toNat:Int))) (eU (j:=(i:Int)) rfl rfl rfl (by omega) (bo (by omega))) rfl rfl (aX rfl U (ak (v:=(.bool (decide ((57:Int)<(((s.drop 1).getD i 0).toNat:Int))))) (cz rfl rfl rfl rfl) rfl rfl (ak (v:=(.bool (decide ((57:Int)<(((s.drop 1).getD i 0).toNat:Int))))) (aO rfl U rfl) rfl rfl (aA ?_))));exact az ⟨rfl,rfl,(by repeat' first|exact Lr|refine Lu rfl ?_),(agC (congrArg Value.bool (show(decide ((57:Int)<(((s.drop 1).getD i 0).toNat:Int)))=((decide ((((s.drop 1).getD i 0).toNat:Int)<48))||(decide ((57:Int)<(((s.drop 1).getD i 0).toNat:Int)))) by simp only[↓U,BT])) agN)⟩
    have bb:=U;try simp only[BS]at bb
    refine aR rfl U rfl (aR rfl U rfl (aR rfl U rfl (ak (v:=(.bool true)) (aP rfl U rfl) rfl rfl (aA ?_))));exact az ⟨rfl,rfl,(by repeat' first|exact Lr|refine Lu rfl ?_),(agC (congrArg Value.bool (show true=((decide ((((s.drop 1).getD i 0).toNat:Int)<48))||(decide ((57:Int)<(((s.drop 1).getD i 0).toNat:Int)))) by simp only[↓U,BT])) agN)⟩
   skip;rintro d2 H rfl;refine ai (cY (v:=((decide ((((s.drop 1).getD i 0).toNat:Int)<48))||(decide ((57:Int)<(((s.drop 1).getD i 0).toNat:Int))))) rfl rfl (fun bw=>?_) (fun bw=>?_))
   ·try simp only[BS]at bw
    have pd:=bw;refine aK (ab (za (iI 0) (za (.bool false) (aA (ai ?_)))));refine ae ⟨.inr rfl,_,rfl,0,false,rfl,rfl,(by have e:=pb2 pb pi pd;rw[e];(try rfl)),(by have e:=pb2 pb pi pd;rw[e];(try rfl))⟩
   try simp only[BS]at bw
   refine ai (ab (zm (.int .u64 (m:Int)) (ak (v:=(.int .u64 (10 *(m:Int)))) (ap_mul rfl rfl (lK (n:=10 *(m:Int)) (by omega))) rfl rfl (zm (.string ⟨⟨s.drop 1⟩⟩) (zm (iI (i:Int)) ?_)))));have co:=fG ((s.drop 1).getD i 0);refine ak (v:=(.int .u8 (((s.drop 1).getD i 0).toNat:Int))) (eU (j:=(i:Int)) rfl rfl rfl (by omega) (bo (by omega))) rfl rfl (ak (v:=(.int .u8 ((((s.drop 1).getD i 0).toNat-48:Nat):Int))) (ap_sub rfl rfl (natsub (a:=((s.drop 1).getD i 0).toNat) (b:=48) (by omega) (w_u8 (by omega)))) rfl rfl (ak (v:=(.int .u64 ((((s.drop 1).getD i 0).toNat-48:Nat):Int))) (ap_cv rfl rfl rfl (lK (n:=((((s.drop 1).getD i 0).toNat-48:Nat):Int)) (by omega))) rfl rfl (ak (v:=(.int .u64 ((10 *(m:Int))+((((s.drop 1).getD i 0).toNat-48:Nat):Int)))) (fF rfl rfl (lK (n:=(10 *(m:Int))+((((s.drop 1).getD i 0).toNat-48:Nat):Int)) (by omega))) rfl rfl (za (.int .u64 ((10 *(m:Int))+((((s.drop 1).getD i 0).toNat-48:Nat):Int))) (aA ?_)))));refine ed (ai (ab (zm (iI (i:Int)) (ak (v:=(iI ((i:Int)+1))) (fF rfl rfl (iD (n:=(i:Int)+1) (by omega))) rfl rfl (za (iI ((i:Int)+1)) ?_)))));refine aA (ai ?_);refine b8 _ _ _ ?_ ⟨i+1,(10 *m)+(((s.drop 1).getD i 0).toNat-48),rfl,⟨rfl,rfl,rfl,rfl,trivial⟩,rfl,(by omega),(by(rw[lL (by omega),h2])),(by(rw[iw (by omega),h3,a17,mc];omega)),(by(rw[a1K];omega)),(by assumption)⟩;omega
  try simp only[BS]at a5
  have pi:=a5;refine er (er (fg (ai (aK (ab ?_)))));refine za (.int .u64 9223372036854775807) (aA (ai (aK (aK (ab ?_)))));refine zm (.bool ((decide ((0:Int)<(s.length:Int)))&&(((s.getD 0 0).toNat:Int)==45))) (aA (ai (wk_true (v:=((decide ((0:Int)<(s.length:Int)))&&(((s.getD 0 0).toNat:Int)==45))) rfl al rfl (ab (zm (.int .u64 9223372036854775807) ?_)))));refine ak (v:=(.int .u64 9223372036854775808)) (fF rfl rfl rfl) rfl rfl (za (.int .u64 9223372036854775808) (aA (ai (aK (aK ?_)))));refine ab (zm (.int .u64 (m:Int)) (zm (.int .u64 9223372036854775808) (ak (v:=(.bool (decide ((9223372036854775808:Int)<(m:Int))))) (cz rfl rfl rfl rfl) rfl rfl (aA (ai ?_)))));refine cY (v:=(decide ((9223372036854775808:Int)<(m:Int)))) rfl rfl (fun a6=>?_) (fun a6=>?_)
  ·try simp only[BS]at a6
   have pm:=a6;refine aK (ab (za (iI 0) (za (.bool false) (aA (ai ?_)))));refine ae ⟨.inr rfl,_,rfl,0,false,rfl,rfl,(by have e:=pb3 pb pc (fun h=>h pb.1 pb.2) h1 pi h2 h3;rw[e];(try rfl);split<;>first|rfl|(exfalso;omega)|exact wr1 (by omega)|exact wr2 (by omega)),(by have e:=pb3 pb pc (fun h=>h pb.1 pb.2) h1 pi h2 h3;rw[e];(try rfl);split<;>first|rfl|(exfalso;omega)|exact wr1 (by omega)|exact wr2 (by omega))⟩
  try simp only[BS]at a6
  have pm:=a6;refine ai (aK (aK (ab (zm (.bool ((decide ((0:Int)<(s.length:Int)))&&(((s.getD 0 0).toNat:Int)==45))) (aA ?_)))));refine ai (wk_true (v:=((decide ((0:Int)<(s.length:Int)))&&(((s.getD 0 0).toNat:Int)==45))) rfl al rfl (aK (ab (zm (.int .u64 (m:Int)) (ak (v:=(.int .u64 (IntKind.u64.wrap (0-(m:Int))))) (ap_ng rfl rfl) rfl rfl ?_)))));refine ak (v:=(iI (IntKind.i64.wrap (IntKind.u64.wrap (0-(m:Int)))))) (ap_cv rfl rfl rfl rfl) rfl rfl (za (iI (IntKind.i64.wrap (IntKind.u64.wrap (0-(m:Int))))) (za (.bool true) (aA (ai (ae ⟨.inr rfl,_,rfl,IntKind.i64.wrap (IntKind.u64.wrap (0-(m:Int))),true,rfl,rfl,(by have e:=pb3 pb pc (fun h=>h pb.1 pb.2) h1 pi h2 h3;rw[e];(try rfl);split<;>first|rfl|(exfalso;omega)|exact wr1 (by omega)|exact wr2 (by omega)),(by have e:=pb3 pb pc (fun h=>h pb.1 pb.2) h1 pi h2 h3;rw[e];(try rfl);split<;>first|rfl|(exfalso;omega)|exact wr1 (by omega)|exact wr2 (by omega))⟩)))))
 have c4:=al;try simp only[BS]at c4
 have pb:=c4;refine ai (aK (aK (ff 21 41 [] [(41,(.bool (((decide ((s.length:Int)<1))||(decide ((19:Int)<(s.length:Int))))||((((s.getD 0 0).toNat:Int)==48)&&((decide ((1:Int)<(s.length:Int)))||((decide ((0:Int)<(s.length:Int)))&&(((s.getD 0 0).toNat:Int)==45)))))))] (fun H'=>H'=H) ?_ ?_)))
 ·refine ab (zm (.string ⟨⟨s⟩⟩) (ak (v:=(iI (s.length:Int))) (eT rfl rfl) rfl rfl (ak (v:=(.bool (decide ((s.length:Int)<1)))) (cz rfl rfl rfl rfl) rfl rfl (zm (.bool (decide ((s.length:Int)<1))) (fJ (v:=(decide ((s.length:Int)<1))) rfl rfl (fun O=>?_) (fun O=>?_))))))
  ·have bf:=O;try simp only[BS]at bf
   refine zm (.string ⟨⟨s⟩⟩) (aX rfl O (ak (v:=(iI (s.length:Int))) (eT rfl rfl) rfl rfl (aX rfl O (ak (v:=(.bool (decide ((19:Int)<(s.length:Int))))) (cz rfl rfl rfl rfl) rfl rfl (ak (v:=(.bool (decide ((19:Int)<(s.length:Int))))) (aO rfl O rfl) rfl rfl ?_)))));refine zm (.bool (decide ((19:Int)<(s.length:Int)))) (fJ (v:=(decide ((19:Int)<(s.length:Int)))) rfl rfl (fun A=>?_) (fun A=>?_))
   ·have bk:=A;try simp only[BS]at bk
    refine zm (.string ⟨⟨s⟩⟩) (aX rfl A ?_);have c0:=fG (s.getD 0 0);refine ak (v:=(.int .u8 ((s.getD 0 0).toNat:Int))) (eU (j:=0) rfl rfl rfl (by decide) (bo (by omega))) rfl rfl (aX rfl A (ak (v:=(.bool (((s.getD 0 0).toNat:Int)==48))) (cz rfl rfl rfl rfl) rfl rfl (aX rfl A (zm (.bool (((s.getD 0 0).toNat:Int)==48)) (gz (v:=(((s.getD 0 0).toNat:Int)==48)) rfl rfl (fun E=>?_) (fun E=>?_))))))
    ·have bl:=E;try simp only[BS]at bl
     refine zm (.string ⟨⟨s⟩⟩) (aX rfl E (ak (v:=(iI (s.length:Int))) (eT rfl rfl) rfl rfl (aX rfl E (ak (v:=(.bool (decide ((1:Int)<(s.length:Int))))) (cz rfl rfl rfl rfl) rfl rfl (aX rfl E ?_)))));refine zm (.bool (decide ((1:Int)<(s.length:Int)))) (fJ (v:=(decide ((1:Int)<(s.length:Int)))) rfl rfl (fun ax=>?_) (fun ax=>?_))
     ·have bn:=ax;try simp only[BS]at bn
      refine zm (.bool ((decide ((0:Int)<(s.length:Int)))&&(((s.getD 0 0).toNat:Int)==45))) (aX rfl E (ak (v:=(.bool ((decide ((0:Int)<(s.length:Int)))&&(((s.getD 0 0).toNat:Int)==45)))) (aO rfl ax rfl) rfl rfl (aX rfl A (ak (v:=(.bool ((decide ((0:Int)<(s.length:Int)))&&(((s.getD 0 0).toNat:Int)==45)))) (aP rfl E rfl) rfl rfl (ak (v:=(.bool ((decide ((0:Int)<(s.length:Int)))&&(((s.getD 0 0).toNat:Int)==45)))) (aO rfl A rfl) rfl rfl ?_)))));refine aA ?_;exact az ⟨rfl,rfl,(by repeat' first|exact Lr|refine Lu rfl ?_),(agC (congrArg Value.bool (show((decide ((0:Int)<(s.length:Int)))&&(((s.getD 0 0).toNat:Int)==45))=(((decide ((s.length:Int)<1))||(decide ((19:Int)<(s.length:Int))))||((((s.getD 0 0).toNat:Int)==48)&&((decide ((1:Int)<(s.length:Int)))||((decide ((0:Int)<(s.length:Int)))&&(((s.getD 0 0).toNat:Int)==45))))) by simp only[↓O,↓A,↓E,↓ax,BT])) agN)⟩
     have bn:=ax;try simp only[BS]at bn
     refine aX rfl E (ak (v:=(.bool true)) (aP rfl ax rfl) rfl rfl (aX rfl A (ak (v:=(.bool true)) (aP rfl E rfl) rfl rfl (ak (v:=(.bool true)) (aO rfl A rfl) rfl rfl (aA ?_)))));exact az ⟨rfl,rfl,(by repeat' first|exact Lr|refine Lu rfl ?_),(agC (congrArg Value.bool (show true=(((decide ((s.length:Int)<1))||(decide ((19:Int)<(s.length:Int))))||((((s.getD 0 0).toNat:Int)==48)&&((decide ((1:Int)<(s.length:Int)))||((decide ((0:Int)<(s.length:Int)))&&(((s.getD 0 0).toNat:Int)==45))))) by simp only[↓O,↓A,↓E,↓ax,BT])) agN)⟩
    have bl:=E;try simp only[BS]at bl
    refine bW rfl E rfl (bW rfl E rfl (bW rfl E rfl (dA rfl rfl (bW rfl E rfl (aX rfl A ?_)))));refine ak (v:=(.bool false)) (aO rfl E rfl) rfl rfl (ak (v:=(.bool false)) (aO rfl A rfl) rfl rfl (aA ?_));exact az ⟨rfl,rfl,(by repeat' first|exact Lr|refine Lu rfl ?_),(agC (congrArg Value.bool (show false=(((decide ((s.length:Int)<1))||(decide ((19:Int)<(s.length:Int))))||((((s.getD 0 0).toNat:Int)==48)&&((decide ((1:Int)<(s.length:Int)))||((decide ((0:Int)<(s.length:Int)))&&(((s.getD 0 0).toNat:Int)==45))))) by simp only[↓O,↓A,↓E,BT])) agN)⟩
   have bk:=A;try simp only[BS]at bk
   refine aR rfl A rfl (aR rfl A rfl (aR rfl A rfl (dA rfl rfl (dA rfl rfl (dA rfl rfl ?_)))));refine dA rfl rfl (dA rfl rfl (dA rfl rfl (aR rfl A rfl (ak (v:=(.bool true)) (aP rfl A rfl) rfl rfl (aA ?_)))));exact az ⟨rfl,rfl,(by repeat' first|exact Lr|refine Lu rfl ?_),(agC (congrArg Value.bool (show true=(((decide ((s.length:Int)<1))||(decide ((19:Int)<(s.length:Int))))||((((s.getD 0 0).toNat:Int)==48)&&((decide ((1:Int)<(s.length:Int)))||((decide ((0:Int)<(s.length:Int)))&&(((s.getD 0 0).toNat:Int)==45))))) by simp only[↓O,↓A,BT])) agN)⟩
  have bf:=O;try simp only[BS]at bf
  refine aR rfl O rfl (aR rfl O rfl (ak (v:=(.bool true)) (aP rfl O rfl) rfl rfl (zm (.bool true) (aR rfl rfl rfl (aR rfl rfl rfl ?_)))));refine aR rfl rfl rfl (aR rfl rfl rfl (dA rfl rfl (dA rfl rfl (dA rfl rfl (dA rfl rfl ?_)))));refine dA rfl rfl (dA rfl rfl (aR rfl rfl rfl (ak (v:=(.bool true)) (aP rfl rfl rfl) rfl rfl (aA ?_))));exact az ⟨rfl,rfl,(by repeat' first|exact Lr|refine Lu rfl ?_),(agC (congrArg Value.bool (show true=(((decide ((s.length:Int)<1))||(decide ((19:Int)<(s.length:Int))))||((((s.getD 0 0).toNat:Int)==48)&&((decide ((1:Int)<(s.length:Int)))||((decide ((0:Int)<(s.length:Int)))&&(((s.getD 0 0).toNat:Int)==45))))) by simp only[↓O,BT])) agN)⟩
 skip;rintro d3 H rfl;refine ai (cY (v:=(((decide ((s.length:Int)<1))||(decide ((19:Int)<(s.length:Int))))||((((s.getD 0 0).toNat:Int)==48)&&((decide ((1:Int)<(s.length:Int)))||((decide ((0:Int)<(s.length:Int)))&&(((s.getD 0 0).toNat:Int)==45)))))) rfl rfl (fun a7=>?_) (fun a7=>?_))
 ·try simp only[BS]at a7
  have pc:=a7;refine aK (ab (za (iI 0) (za (.bool false) (aA (ai ?_)))));refine ae ⟨.inr rfl,_,rfl,0,false,rfl,rfl,(by have e:=pp1 pb pc;rw[e];(try rfl)),(by have e:=pp1 pb pc;rw[e];(try rfl))⟩
 try simp only[BS]at a7
 have pc:=a7;refine ai (aK (ab (za (.int .u64 0) (aA (ai ?_)))));refine aK (aK (ab (za (iI 0) (aA (ai ?_)))));refine fh (aq (fun(mm:Nat) f H'=> ∃(i:Nat) (m:Nat),H'=H/\aN f [(4,(.string ⟨⟨s⟩⟩)),(5,(.bool ((decide ((0:Int)<(s.length:Int)))&&(((s.getD 0 0).toNat:Int)==45)))),(6,(.int .u64 (m:Int))),(7,(iI (i:Int)))]/\mm=s.length-i/\(i<=s.length)/\(m=val (s.take i))/\((s.take i).all eD=true)/\(m<10^i)/\(s.length<=19)) _ ⟨0,0,rfl,⟨rfl,rfl,rfl,rfl,trivial⟩,rfl,(by omega),(by rfl),(by rfl),(by decide),(by omega)⟩ ?_);rintro dk d1 H ⟨i,m,rfl,b3,rfl,h1,h2,h3,h4,h5⟩ b9;refine aC _ b3 (fun _=>?_);clear b3;refine aK (aK (ab (zm (iI (i:Int)) (zm (.string ⟨⟨s⟩⟩) (ak (v:=(iI (s.length:Int))) (eT rfl rfl) rfl rfl ?_)))));refine ak (v:=(.bool (decide ((i:Int)<(s.length:Int))))) (cz rfl rfl rfl rfl) rfl rfl (aA (ai (cY (v:=(decide ((i:Int)<(s.length:Int)))) rfl rfl (fun a8=>?_) (fun a8=>?_))))
 ·try simp only[BS]at a8
  have hp:=pow_le (show i<=18 by omega);have pi:=a8;refine ai (aK (fh (aK (aK (ff 48 57 [] [(57,(.bool ((decide (((s.getD i 0).toNat:Int)<48))||(decide ((57:Int)<((s.getD i 0).toNat:Int))))))] (fun H'=>H'=H) ?_ ?_)))))
  ·refine ab (zm (.string ⟨⟨s⟩⟩) (zm (iI (i:Int)) ?_));have c3:=fG (s.getD i 0);refine ak (v:=(.int .u8 ((s.getD i 0).toNat:Int))) (eU (j:=(i:Int)) rfl rfl rfl (by omega) (bo (by omega))) rfl rfl (ak (v:=(.bool (decide (((s.getD i 0).toNat:Int)<48)))) (cz rfl rfl rfl rfl) rfl rfl (zm (.bool (decide (((s.getD i 0).toNat:Int)<48))) (fJ (v:=(decide (((s.getD i 0).toNat:Int)<48))) rfl rfl (fun V=>?_) (fun V=>?_))))
   ·have bt:=V;try simp only[BS]at bt
    refine zm (.string ⟨⟨s⟩⟩) (aX rfl V (zm (iI (i:Int)) (aX rfl V ?_)));have c5:=fG (s.getD i 0);refine ak (v:=(.int .u8 ((s.getD i 0).toNat:Int))) (eU (j:=(i:Int)) rfl rfl rfl (by omega) (bo (by omega))) rfl rfl (aX rfl V (ak (v:=(.bool (decide ((57:Int)<((s.getD i 0).toNat:Int))))) (cz rfl rfl rfl rfl) rfl rfl (ak (v:=(.bool (decide ((57:Int)<((s.getD i 0).toNat:Int))))) (aO rfl V rfl) rfl rfl (aA ?_))));exact az ⟨rfl,rfl,(by repeat' first|exact Lr|refine Lu rfl ?_),(agC (congrArg Value.bool (show(decide ((57:Int)<((s.getD i 0).toNat:Int)))=((decide (((s.getD i 0).toNat:Int)<48))||(decide ((57:Int)<((s.getD i 0).toNat:Int)))) by simp only[↓V,BT])) agN)⟩
   have bt:=V;try simp only[BS]at bt
   refine aR rfl V rfl (aR rfl V rfl (aR rfl V rfl (ak (v:=(.bool true)) (aP rfl V rfl) rfl rfl (aA ?_))));exact az ⟨rfl,rfl,(by repeat' first|exact Lr|refine Lu rfl ?_),(agC (congrArg Value.bool (show true=((decide (((s.getD i 0).toNat:Int)<48))||(decide ((57:Int)<((s.getD i 0).toNat:Int)))) by simp only[↓V,BT])) agN)⟩
  skip;rintro d4 H rfl;refine ai (cY (v:=((decide (((s.getD i 0).toNat:Int)<48))||(decide ((57:Int)<((s.getD i 0).toNat:Int))))) rfl rfl (fun b0=>?_) (fun b0=>?_))
  ·try simp only[BS]at b0
   have pd:=b0;refine aK (ab (za (iI 0) (za (.bool false) (aA (ai ?_)))));refine ae ⟨.inr rfl,_,rfl,0,false,rfl,rfl,(by have e:=pp2 pb pi pd;rw[e];(try rfl)),(by have e:=pp2 pb pi pd;rw[e];(try rfl))⟩
  try simp only[BS]at b0
  refine ai (ab (zm (.int .u64 (m:Int)) (ak (v:=(.int .u64 (10 *(m:Int)))) (ap_mul rfl rfl (lK (n:=10 *(m:Int)) (by omega))) rfl rfl (zm (.string ⟨⟨s⟩⟩) (zm (iI (i:Int)) ?_)))));have c6:=fG (s.getD i 0);refine ak (v:=(.int .u8 ((s.getD i 0).toNat:Int))) (eU (j:=(i:Int)) rfl rfl rfl (by omega) (bo (by omega))) rfl rfl (ak (v:=(.int .u8 (((s.getD i 0).toNat-48:Nat):Int))) (ap_sub rfl rfl (natsub (a:=(s.getD i 0).toNat) (b:=48) (by omega) (w_u8 (by omega)))) rfl rfl (ak (v:=(.int .u64 (((s.getD i 0).toNat-48:Nat):Int))) (ap_cv rfl rfl rfl (lK (n:=(((s.getD i 0).toNat-48:Nat):Int)) (by omega))) rfl rfl (ak (v:=(.int .u64 ((10 *(m:Int))+(((s.getD i 0).toNat-48:Nat):Int)))) (fF rfl rfl (lK (n:=(10 *(m:Int))+(((s.getD i 0).toNat-48:Nat):Int)) (by omega))) rfl rfl (za (.int .u64 ((10 *(m:Int))+(((s.getD i 0).toNat-48:Nat):Int))) (aA ?_)))));refine ed (ai (ab (zm (iI (i:Int)) (ak (v:=(iI ((i:Int)+1))) (fF rfl rfl (iD (n:=(i:Int)+1) (by omega))) rfl rfl (za (iI ((i:Int)+1)) ?_)))));refine aA (ai ?_);refine b9 _ _ _ ?_ ⟨i+1,(10 *m)+((s.getD i 0).toNat-48),rfl,⟨rfl,rfl,rfl,rfl,trivial⟩,rfl,(by omega),(by(rw[lL (by omega),h2])),(by(rw[iw (by omega),h3,a17,mc];omega)),(by(rw[a1K];omega)),(by assumption)⟩;omega
 try simp only[BS]at a8
 have pi:=a8;refine er (er (fg (ai (aK (ab ?_)))));refine za (.int .u64 9223372036854775807) (aA (ai (aK (aK (ab ?_)))));refine zm (.bool ((decide ((0:Int)<(s.length:Int)))&&(((s.getD 0 0).toNat:Int)==45))) (aA (ai (lH (v:=((decide ((0:Int)<(s.length:Int)))&&(((s.getD 0 0).toNat:Int)==45))) rfl al rfl (ai (aK ?_)))));refine aK (ab (zm (.int .u64 (m:Int)) (zm (.int .u64 9223372036854775807) (ak (v:=(.bool (decide ((9223372036854775807:Int)<(m:Int))))) (cz rfl rfl rfl rfl) rfl rfl (aA ?_)))));refine ai (cY (v:=(decide ((9223372036854775807:Int)<(m:Int)))) rfl rfl (fun a9=>?_) (fun a9=>?_))
 ·try simp only[BS]at a9
  have pm:=a9;refine aK (ab (za (iI 0) (za (.bool false) (aA (ai ?_)))));refine ae ⟨.inr rfl,_,rfl,0,false,rfl,rfl,(by have e:=pp3 pb pc h1 pi h2 h3;rw[e];(try rfl);split<;>first|rfl|(exfalso;omega)|exact wr1 (by omega)|exact wr2 (by omega)),(by have e:=pp3 pb pc h1 pi h2 h3;rw[e];(try rfl);split<;>first|rfl|(exfalso;omega)|exact wr1 (by omega)|exact wr2 (by omega))⟩
 try simp only[BS]at a9
 have pm:=a9;refine ai (aK (aK (ab (zm (.bool ((decide ((0:Int)<(s.length:Int)))&&(((s.getD 0 0).toNat:Int)==45))) (aA ?_)))));refine ai (lH (v:=((decide ((0:Int)<(s.length:Int)))&&(((s.getD 0 0).toNat:Int)==45))) rfl al rfl (ai (aK (ab (zm (.int .u64 (m:Int)) ?_)))));refine ak (v:=(iI (IntKind.i64.wrap (m:Int)))) (ap_cv rfl rfl rfl rfl) rfl rfl (za (iI (IntKind.i64.wrap (m:Int))) (za (.bool true) (aA (ai (ae ⟨.inr rfl,_,rfl,IntKind.i64.wrap (m:Int),true,rfl,rfl,(by have e:=pp3 pb pc h1 pi h2 h3;rw[e];(try rfl);split<;>first|rfl|(exfalso;omega)|exact wr1 (by omega)|exact wr2 (by omega)),(by have e:=pp3 pb pc h1 pi h2 h3;rw[e];(try rfl);split<;>first|rfl|(exfalso;omega)|exact wr1 (by omega)|exact wr2 (by omega))⟩)))))
theorem jY(s:List UInt8)(H:Heap):kKt ex 80 [(.string ⟨⟨s⟩⟩)] H fun v H'=>v= .tuple ⟨[.int .i64 ((aL s).getD 0),.bool (aL s).isSome]⟩/\H'=H:=cq (parse_c ex s H) (by rintro _ _ ⟨_,_,rfl,rfl,rfl,rfl⟩;exact⟨rfl,rfl⟩)
end Go.Proofs.YtkpgbdkkgcdhmaaGreat.w3
