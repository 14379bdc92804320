/-
Which virtual code is valid: the program and the reference. No condition but that the table lies as laid.
-/
import Derived.Test.YtgdggmlghemecaaDoorZAM2
noncomputable section
namespace Go.Proofs.YtgdggmlghemecaaDoor.m3
open Go.R
set_option maxRecDepth 10000
set_option maxHeartbeats 1000000
set_option linter.unusedVariables false
set_option linter.unusedSimpArgs false
variable (ex:FuncId) {F:Fz} {H:Heap} {R:List Fp}
open m1 m2
theorem cBlk_c(n:Int){A:Option Addr}{E:Nat}{z:Nat}(c:VFnT)(H:Heap)(Z:in64 n)(U:HC H.get z 0 [(iI c.params),(iI c.regs),(sL A c.blocks.length E)])(N:in64 c.params)(T:in64 c.regs):kKt ex 52 [(iI n),(pT z 0)] H fun v H'=> ∃(r:Bool),H'=H/\v= .bool r/\r=aY (c.blocks.length:Int) n:=by
 refine aC Tryd.func52 V V ?_;refine aj 1 V ?_;refine wT 2 [] 3 3 [] [(3,(.bool false))] V fun _=>?_
 refine wrp 1 3 12 [] [(3,(.bool ((decide ((0:Int)<=n))&&(decide (n<(c.blocks.length:Int))))))] (bt 5 (fun _=>(ql 27 2 U V V)) Hn_) V V fun _=>?_
 refine am ⟨.inr V,_,V,((decide ((0:Int)<=n))&&(decide (n<(c.blocks.length:Int)))),V,V,(by rw[a0o,ba];simp)⟩
theorem mH(n:Int){A:Option Addr}{T:Nat}{z:Nat}(c:VFnT)(H:Heap)(Z:in64 n)(U:HC H.get z 0 [(iI c.params),(iI c.regs),(sL A c.blocks.length T)])(E:in64 c.params)(N:in64 c.regs):kKt ex 52 [(iI n),(pT z 0)] H fun v H'=>v=(.bool (aY (c.blocks.length:Int) n))/\H'=H:=
 cq (cBlk_c ex n c H Z U E N) (by rintro _ _ ⟨_,rfl,rfl,rfl⟩;exact⟨V,V⟩)
theorem cReg_c(n:Int){A:Option Addr}{E:Nat}{z:Nat}(c:VFnT)(H:Heap)(Z:in64 n)(U:HC H.get z 0 [(iI c.params),(iI c.regs),(sL A c.blocks.length E)])(N:in64 c.params)(T:in64 c.regs):kKt ex 53 [(iI n),(pT z 0)] H fun v H'=> ∃(r:Bool),H'=H/\v= .bool r/\r=aY c.regs n:=by
 refine aC Tryd.func53 V V ?_;refine aj 1 V ?_;refine wT 2 [] 3 3 [] [(3,(.bool false))] V fun _=>?_
 refine wrp 1 3 11 [] [(3,(.bool ((decide ((0:Int)<=n))&&(decide (n<c.regs)))))] (bt 5 (fun _=>(ql 3 1 U V V)) Hn_) V V fun _=>?_
 refine am ⟨.inr V,_,V,((decide ((0:Int)<=n))&&(decide (n<c.regs))),V,V,(by rw[a0o,ba];simp)⟩
theorem cReg_c_q(n:Int){A:Option Addr}{T:Nat}{z:Nat}(c:VFnT)(H:Heap)(Z:in64 n)(U:HC H.get z 0 [(iI c.params),(iI c.regs),(sL A c.blocks.length T)])(E:in64 c.params)(N:in64 c.regs):kKt ex 53 [(iI n),(pT z 0)] H fun v H'=>v=(.bool (aY c.regs n))/\H'=H:=
 cq (cReg_c ex n c H Z U E N) (by rintro _ _ ⟨_,rfl,rfl,rfl⟩;exact⟨V,V⟩)
theorem cRegI_c(n:Int){A:Option Addr}{E:Nat}{z:Nat}(c:VFnT)(H:Heap)(Z:in64 n)(U:HC H.get z 0 [(iI c.params),(iI c.regs),(sL A c.blocks.length E)])(N:in64 c.params)(T:in64 c.regs):kKt ex 76 [(iI n),(pT z 0)] H fun v H'=> ∃(r:Bool),H'=H/\v= .bool r/\r=aY c.regs n:=by
 refine aC Tryd.func76 V V ?_;refine aj 1 V ?_;refine wT 2 [] 3 3 [] [(3,(.bool false))] V fun _=>?_
 refine wrp 1 3 11 [] [(3,(.bool ((decide ((0:Int)<=n))&&(decide (n<c.regs)))))] (bt 5 (fun _=>(ql 3 1 U V V)) Hn_) V V fun _=>?_
 refine am ⟨.inr V,_,V,((decide ((0:Int)<=n))&&(decide (n<c.regs))),V,V,(by rw[a0o,ba];simp)⟩
theorem iu(n:Int){A:Option Addr}{T:Nat}{z:Nat}(c:VFnT)(H:Heap)(Z:in64 n)(U:HC H.get z 0 [(iI c.params),(iI c.regs),(sL A c.blocks.length T)])(E:in64 c.params)(N:in64 c.regs):kKt ex 76 [(iI n),(pT z 0)] H fun v H'=>v=(.bool (aY c.regs n))/\H'=H:=
 cq (cRegI_c ex n c H Z U E N) (by rintro _ _ ⟨_,rfl,rfl,rfl⟩;exact⟨V,V⟩)
theorem vform_c(op:Int)(hs:HS (.of H []) F H [] R)(ag:in64 op)(z:TB 37 tabC F):kKt ex 77 [(iI op)] H fun v H'=> ∃(r:Int) (F':Fz),Fz.le F F'/\HS (.of H []) F' H' [] R/\v=iI r/\r=aE op:=by
 refine aC Tryd.func77 V V ?_;refine aj 1 V ?_;refine wT 3 [] 2 2 [] [(2,(iI 0))] V fun _=>?_
 refine wT 1 [] 5 6 [] [(6,(.bool (op==38)))] V fun _=>?_
 refine az 1 2 (v:=(op==38)) V V V V (fun N=>?_) (fun N=>?_)
 ·try simp only[BS]at N
  refine wT 1 [] 2 2 [] [(2,(iI 5))] V fun _=>?_
  refine am ⟨.inr V,_,V,5,_,fR,(HS.forget hs),V,(by unfold aE;split<;>first|rfl|omega)⟩
 try simp only[BS]at N
 refine aa ?_;refine wm (iI op) V V V ?_;refine aH (aq V V V) V V (m1.mInfo_c ex op (HS.call hs) M z) ?_;rintro _ H5 ⟨x5,o5,F5,T,A,rfl,U,a_,rfl,rfl⟩;replace A:=HS.back hs V A;refine cj 3 2 10 11 [7] [(10,(aG [(tX (aW op).name.b),(iI (aW op).form),(.bool (aW op).ra),(.bool (aW op).wa),(.bool (aW op).rb),(.bool (aW op).mt),(iI (aW op).words)])),(11,(.bool (infO op)))] Hn_ (by kernel_rfl) V fun _=>?_
 refine zn A V fun b7 H8 Z=>?_
 refine sgo 2 6 1 0 [4] [] (Hr_ 6 0 Hn_) Z V V fun ad H9 E=>?_
 refine ae 2 V ?_;refine bF 1 12 13 [2] [(2,(iI (aW op).form))] (Hr_ 1 0 Hn_) E V V fun _=>?_
 refine am ⟨.inr V,_,V,(aW op).form,_,(T),(HS.forget E),V,(by unfold aE;split<;>first|rfl|omega)⟩
theorem rinfo_c(op:Int)(hs:HS (.of H []) F H [] R)(ao:in64 op)(hT:TB 37 tabC F):kKt ex 73 [(iI op)] H fun v H'=> ∃(x:InfT) (F':Fz),Fz.le F F'/\HS (.of H []) F' H' [] R/\v= .agg ⟨[tX x.name.b,iI x.form,.bool x.ra,.bool x.wa,.bool x.rb,.bool x.mt,iI x.words]⟩/\in64 x.form/\in64 x.words/\x=aR op:=by
 refine aC Tryd.func73 V V ?_;refine aj 1 V ?_;refine aa ?_;refine zn hs V fun b1 H2 E=>?_
 refine ae 3 V ?_;refine wT 1 [] 5 6 [] [(6,(.bool (op==38)))] V fun _=>?_
 refine az 1 2 (v:=(op==38)) V V V V (fun U=>?_) (fun U=>?_)
 ·try simp only[BS]at U
  refine sgr 1 7 7 [] [] (Hr_ 1 0 Hn_) E V V fun ax H5 T=>?_
  refine am ⟨.inr V,_,(rC V (ldVN V V (g_ T V) V) rN),(⟨⟨[]⟩,5,false,true,false,false,0⟩:InfT),_,fR,(HS.forget T),V,M,M,(by unfold aR;split<;>first|rfl|omega)⟩
 try simp only[BS]at U
 refine aa ?_;refine wm (iI op) V V V ?_;refine aH (aq V V V) V V (m1.rInfo_c ex op (HS.call E) M hT) ?_;rintro _ H6 ⟨x6,o6,F6,Z,N,rfl,ad,ag,rfl,rfl⟩;replace N:=HS.back E V N;refine cj 3 2 11 12 [8] [(11,(aG [(tX (aW op).name.b),(iI (aW op).form),(.bool (aW op).ra),(.bool (aW op).wa),(.bool (aW op).rb),(.bool (aW op).mt),(iI (aW op).words)])),(12,(.bool (infO op)))] Hn_ (by kernel_rfl) V fun _=>?_
 refine zn N V fun b8 H9 z=>?_
 refine sgo 2 6 1 0 [4] [] (Hr_ 6 1 Hn_) z V V fun an av a_=>?_
 refine ae 2 V ?_;refine sgr 1 13 13 [] [] (Hr_ 0 1 (Hr_ 1 0 Hn_)) a_ V V fun ar aw A=>?_
 refine am ⟨.inr V,_,(rC V (ldVN V V (g_ A V) V) rN),(⟨⟨(aW op).name.b⟩,(aW op).form,(aW op).ra,(aW op).wa,(aW op).rb,(aW op).mt,(aW op).words⟩:InfT),_,(Z),(HS.forget A),V,M,M,(by unfold aR;split<;>first|rfl|omega)⟩
theorem rOperand_c(z:Bool)(n:Int)(regs:Int)(H:Heap)(T:in64 n)(N:in64 regs):kKt ex 74 [(.bool z),(iI n),(iI regs)] H fun v H'=> ∃(r:Bool),H'=H/\v= .bool r/\r=e8 z n regs:=by
 refine aC Tryd.func74 V V ?_;refine aj 1 V ?_;refine wT 3 [] 6 6 [] [(6,(.bool false))] V fun _=>?_
 refine wT 1 [] 7 7 [] [(7,(.bool z))] V fun _=>?_
 refine az 1 2 (v:=z) V V V V (fun A=>?_) (fun A=>?_)
 ·have E:=A;try simp only[BS]at E
  refine wT 1 [] 8 14 [6] [(6,(.bool ((decide ((0:Int)<=n))&&(decide (n<regs)))))] V fun _=>?_
  refine am ⟨.inr V,_,V,((decide ((0:Int)<=n))&&(decide (n<regs))),V,V,(by rw[a0o];unfold e8;simp[ba,A])⟩
 have E:=A;try simp only[BS]at E
 refine wT 1 [] 15 16 [6] [(6,(.bool (n==0)))] V fun _=>?_
 refine am ⟨.inr V,_,V,(n==0),V,V,(by rw[a0o];unfold e8;simp[ba,A])⟩
theorem fZ(z:Bool)(n:Int)(regs:Int)(H:Heap)(E:in64 n)(A:in64 regs):kKt ex 74 [(.bool z),(iI n),(iI regs)] H fun v H'=>v=(.bool (e8 z n regs))/\H'=H:=
 cq (rOperand_c ex z n regs H E A) (by rintro _ _ ⟨_,rfl,rfl,rfl⟩;exact⟨V,V⟩)
theorem vinstr_c{ay:Option Addr}{a1:Nat}(c:VFnT){U:Option Addr}{a_:Nat}(z:VInT)(hs:HS (.of H []) F H [] R)(ds:in64 c.params)(dt:in64 c.regs)(d1:SR F (sL ay c.blocks.length a1) c.blocks)(c6:in64 z.i.op)(c7:in64 z.i.a)(c8:in64 z.i.b)(c9:in64 z.i.c)(dd:in64 z.i.n)(ad:SR F (sL U z.args.length a_) z.args)(hT:TB 37 tabC F):kKt ex 54 [(aG [(iI c.params),(iI c.regs),(sL ay c.blocks.length a1)]),(aG [(iI z.i.op),(iI z.i.a),(iI z.i.b),(iI z.i.c),(iI z.i.n),(sL U z.args.length a_)])] H fun v H'=> ∃(r:Bool) (F':Fz),Fz.le F F'/\HS (.of H []) F' H' [] R/\v= .bool r/\r=fO c.params c.regs z:=by
 refine aC Tryd.func54 V V ?_;refine aj 1 V ?_;refine aa ?_;refine aV (aO hs V V) V V ?_;rintro _ H2 _ ⟨b1,rfl,c4,_⟩;refine aV (aO c4 V V) V V ?_;rintro _ H4 _ ⟨b3,rfl,b9,_⟩;refine wa (.bool false) V V V ?_;refine ae 2 V ?_;refine aa ?_;refine bn 2 0 13 14 [] [(14,(aG [(iI z.i.op),(iI z.i.a),(iI z.i.b),(iI z.i.c),(iI z.i.n)]))] (Hr_ 1 1 Hn_) b9 V V fun _=>?_
 refine zn b9 V fun b6 H7 c5=>?_
 refine sgo 1 3 1 0 [] [] (Hr_ 3 2 Hn_) c5 V V fun ez H8 an=>?_
 refine ae 3 V ?_;refine bF 1 15 35 [] [(35,(.bool (((!(alV z.i.op))||(decide ((6:Int)<(z.args.length:Int))))||((z.i.op !=6)&&(decide ((0:Int)<(z.args.length:Int)))))))] (Hr_ 1 2 (Hc_ 2 (m1.lV ex z.i.op H8) (bt 6 (fun _=>(ql 22 5 (h_ an V) V V)) (bt 12 (fun _=>(ql 3 0 (i_ an V) V V)) (Hl2_ 16 (fun _ _=>(ql 22 5 (h_ an V) V V)) Hn_))))) an V V fun _=>?_
 refine az 1 2 (v:=(((!(alV z.i.op))||(decide ((6:Int)<(z.args.length:Int))))||((z.i.op !=6)&&(decide ((0:Int)<(z.args.length:Int)))))) V V V V (fun ax=>?_) (fun ax=>?_)
 ·try simp only[BS]at ax
  have gb:=ax;refine wT 1 [] 4 4 [] [(4,(.bool false))] V fun _=>?_
  refine am ⟨.inr V,_,V,false,_,fR,(HS.forget an),V,(by exact vin_bad gb)⟩
 try simp only[BS]at ax
 have ai:alV z.i.op=true:=(ax).1.1;have h6:z.i.op=6\/z.args.length=0:=M
 have b8:z.args.length<=6:=M
 refine wT 3 [] 36 36 [6] [(6,(.func (.func 76) #[] #[(pT b1 0)]))] V fun _=>?_
 refine bF 2 37 40 [] [(38,(sL U z.args.length a_)),(39,(iI (z.args.length:Int))),(40,(iI 0))] (Hr_ 1 1 Hn_) an V V fun _=>?_
 refine ah (fun(mm:Nat) f H'=> ∃(k:Nat) (F':Fz),Fz.le F F'/\HS (Base.of H []) F' H' [(fP b1 [(iI c.params),(iI c.regs),(sL ay c.blocks.length a1)]),(fP b3 [(iI z.i.op),(iI z.i.a),(iI z.i.b),(iI z.i.c),(iI z.i.n),(sL U z.args.length a_)]),(fP b6 [(iI z.i.op),(iI z.i.a),(iI z.i.b),(iI z.i.c),(iI z.i.n)])] R/\aA f [(2,(pT b1 0)),(5,(pT b6 0)),(6,(.func (.func 76) #[] #[(pT b1 0)])),(38,(sL U z.args.length a_)),(39,(iI (z.args.length:Int))),(40,(iI (k:Int)))]/\mm=z.args.length-k/\(k<=z.args.length)/\(∀j,j<k->aY c.regs (z.args.getD j default)=true)) _ ⟨0,_,fR,an,(agC V (agC V (agC V (agC V (agC V (agC V agN)))))),V,(by first|assumption|omega|(simp at *;omega)),(by exact fb)⟩ ?_;rintro d2 ea ci ⟨k,d3,E,N,b4,rfl,hk,ha⟩ ch;refine ap _ b4 (fun _=>?_);clear b4;replace hT:=hT.mono E;replace ad:=ad.mono E;refine aj 1 V ?_;refine wT 2 [] 41 41 [] [(41,(.bool (decide ((k:Int)<(z.args.length:Int)))))] V fun _=>?_
 refine az 4 5 (v:=(decide ((k:Int)<(z.args.length:Int)))) V V V V (fun a3=>?_) (fun a3=>?_)
 ·try simp only[BS]at a3
  obtain⟨dn,b7⟩:=Sv.view (SR.sv ad N);have et:=fI (b7 k);refine wrp 2 42 43 [8] [(8,(iI (z.args.getD k 0)))] (Ha_ (Sv.ix (j:=(k:Int)) (SR.sv ad N) M M) (Hl_ 1 (ql 3 0 (vI (b7 k) M) V V) Hn_)) (by kernel_rfl) V fun _=>?_
  refine wU 1 [(2,.o (.bool (aY (⟨c.params,c.regs,c.blocks⟩:VFnT).regs (z.args.getD k 0))))] 44 47 [] [(47,(.bool (!(aY (⟨c.params,c.regs,c.blocks⟩:VFnT).regs (z.args.getD k 0)))))] (iu ex (z.args.getD k 0) (⟨c.params,c.regs,c.blocks⟩:VFnT) ci M (g_ N V) M M) V fun _=>?_
  refine az 1 2 (v:=(!(aY (⟨c.params,c.regs,c.blocks⟩:VFnT).regs (z.args.getD k 0)))) V V V V (fun a2=>?_) (fun a2=>?_)
  ·try simp only[BS]at a2
   have c0:=a2;refine wT 1 [] 4 4 [] [(4,(.bool false))] V fun _=>?_
   refine am ⟨.inr V,_,V,false,_,(E),(HS.forget N),V,(by exact vin_no (ej M c0))⟩
  try simp only[BS]at a2
  refine wU 1 [] 40 40 [48] [(40,(iI ((k:Int)+1)))] (vi (n:=(k:Int)+1) M) V fun _=>?_
  refine ch _ _ _ ?_ ⟨k+1,_,(E),N,(agC V (agC V (agC V (agC V (agC V (agC V agN)))))),V,(by first|assumption|omega|(simp at *;omega)),(by exact dz ha X)⟩;omega
 try simp only[BS]at a3
 have dl:=gm ha M;refine wT 3 [] 1 0 [9,10,11,12] [(9,(.bool false)),(10,(.bool false)),(11,(.bool false)),(12,(.bool false))] V fun _=>?_
 refine aa ?_;refine bn 2 0 49 50 [] [(50,(iI z.i.op))] (Hr_ 1 2 Hn_) N V V fun _=>?_
 refine aH (aq V V V) V V (vform_c ex z.i.op (HS.call N) M hT) ?_;rintro _ aw ⟨e0,d4,T,A,rfl,rfl⟩;replace A:=HS.back N V A;refine ae 3 V ?_;refine wT 1 [] 52 53 [] [(52,(.bool (aE z.i.op==2)))] V fun _=>?_
 refine bH (fun f H'=> ∃(av:Bool) (bv:Bool) (dv:Bool) (nv:Bool),H'=aw/\aA f [(2,(pT b1 0)),(5,(pT b6 0)),(6,(.func (.func 76) #[] #[(pT b1 0)])),(9,(.bool av)),(10,(.bool bv)),(11,(.bool dv)),(12,(.bool nv))]/\(av=decide (aE z.i.op≠1))/\(bv=decide (aE z.i.op=3\/aE z.i.op=4\/aE z.i.op=7))/\(dv=decide (aE z.i.op=4))/\(nv=decide (aE z.i.op=5\/aE z.i.op=7))) (fun Z=>?_) ?_
 ·refine az 0 1 (v:=(aE z.i.op==2)) V V V V (fun a4=>?_) (fun a4=>?_)
  ·try simp only[BS]at a4
   refine wT 0 [] 1 0 [9] [(9,(.bool true))] V fun _=>?_
   exact Z _ _ ⟨true,false,false,false,V,(agC V (agC V (agC V (agC V (agC V (agC V (agC V agN))))))),(by first|(symm;apply decide_eq_true;omega)|(symm;apply decide_eq_false;have hf:=aL ai;omega)),(by first|(symm;apply decide_eq_true;omega)|(symm;apply decide_eq_false;have hf:=aL ai;omega)),(by first|(symm;apply decide_eq_true;omega)|(symm;apply decide_eq_false;have hf:=aL ai;omega)),(by first|(symm;apply decide_eq_true;omega)|(symm;apply decide_eq_false;have hf:=aL ai;omega))⟩
  try simp only[BS]at a4
  refine wT 1 [] 54 55 [] [(54,(.bool (aE z.i.op==3)))] V fun _=>?_
  refine az 0 1 (v:=(aE z.i.op==3)) V V V V (fun a5=>?_) (fun a5=>?_)
  ·try simp only[BS]at a5
   refine wT 0 [] 1 0 [9,10] [(9,(.bool true)),(10,(.bool true))] V fun _=>?_
   exact Z _ _ ⟨true,true,false,false,V,(agC V (agC V (agC V (agC V (agC V (agC V (agC V agN))))))),(by first|(symm;apply decide_eq_true;omega)|(symm;apply decide_eq_false;have hf:=aL ai;omega)),(by first|(symm;apply decide_eq_true;omega)|(symm;apply decide_eq_false;have hf:=aL ai;omega)),(by first|(symm;apply decide_eq_true;omega)|(symm;apply decide_eq_false;have hf:=aL ai;omega)),(by first|(symm;apply decide_eq_true;omega)|(symm;apply decide_eq_false;have hf:=aL ai;omega))⟩
  try simp only[BS]at a5
  refine wT 1 [] 56 57 [] [(56,(.bool (aE z.i.op==4)))] V fun _=>?_
  refine az 0 1 (v:=(aE z.i.op==4)) V V V V (fun a6=>?_) (fun a6=>?_)
  ·try simp only[BS]at a6
   refine wT 0 [] 1 0 [9,10,11] [(9,(.bool true)),(10,(.bool true)),(11,(.bool true))] V fun _=>?_
   exact Z _ _ ⟨true,true,true,false,V,(agC V (agC V (agC V (agC V (agC V (agC V (agC V agN))))))),(by first|(symm;apply decide_eq_true;omega)|(symm;apply decide_eq_false;have hf:=aL ai;omega)),(by first|(symm;apply decide_eq_true;omega)|(symm;apply decide_eq_false;have hf:=aL ai;omega)),(by first|(symm;apply decide_eq_true;omega)|(symm;apply decide_eq_false;have hf:=aL ai;omega)),(by first|(symm;apply decide_eq_true;omega)|(symm;apply decide_eq_false;have hf:=aL ai;omega))⟩
  try simp only[BS]at a6
  refine wT 1 [] 58 59 [] [(58,(.bool (aE z.i.op==5)))] V fun _=>?_
  refine az 0 1 (v:=(aE z.i.op==5)) V V V V (fun a7=>?_) (fun a7=>?_)
  ·try simp only[BS]at a7
   refine wT 0 [] 1 0 [9,12] [(9,(.bool true)),(12,(.bool true))] V fun _=>?_
   exact Z _ _ ⟨true,false,false,true,V,(agC V (agC V (agC V (agC V (agC V (agC V (agC V agN))))))),(by first|(symm;apply decide_eq_true;omega)|(symm;apply decide_eq_false;have hf:=aL ai;omega)),(by first|(symm;apply decide_eq_true;omega)|(symm;apply decide_eq_false;have hf:=aL ai;omega)),(by first|(symm;apply decide_eq_true;omega)|(symm;apply decide_eq_false;have hf:=aL ai;omega)),(by first|(symm;apply decide_eq_true;omega)|(symm;apply decide_eq_false;have hf:=aL ai;omega))⟩
  try simp only[BS]at a7
  refine wT 1 [] 60 61 [] [(60,(.bool (aE z.i.op==7)))] V fun _=>?_
  refine az 0 0 (v:=(aE z.i.op==7)) V V V V (fun a8=>?_) (fun a8=>?_)
  ·try simp only[BS]at a8
   refine wT 0 [] 1 0 [9,10,12] [(9,(.bool true)),(10,(.bool true)),(12,(.bool true))] V fun _=>?_
   exact Z _ _ ⟨true,true,false,true,V,(agC V (agC V (agC V (agC V (agC V (agC V (agC V agN))))))),(by first|(symm;apply decide_eq_true;omega)|(symm;apply decide_eq_false;have hf:=aL ai;omega)),(by first|(symm;apply decide_eq_true;omega)|(symm;apply decide_eq_false;have hf:=aL ai;omega)),(by first|(symm;apply decide_eq_true;omega)|(symm;apply decide_eq_false;have hf:=aL ai;omega)),(by first|(symm;apply decide_eq_true;omega)|(symm;apply decide_eq_false;have hf:=aL ai;omega))⟩
  try simp only[BS]at a8
  exact Z _ _ ⟨false,false,false,false,V,(agC V (agC V (agC V (agC V (agC V (agC V (agC V agN))))))),(by first|(symm;apply decide_eq_true;omega)|(symm;apply decide_eq_false;have hf:=aL ai;omega)),(by first|(symm;apply decide_eq_true;omega)|(symm;apply decide_eq_false;have hf:=aL ai;omega)),(by first|(symm;apply decide_eq_true;omega)|(symm;apply decide_eq_false;have hf:=aL ai;omega)),(by first|(symm;apply decide_eq_true;omega)|(symm;apply decide_eq_false;have hf:=aL ai;omega))⟩
 skip;rintro em aw ⟨av,bv,dv,nv,rfl,b5,hav,hbv,hdv,hnv⟩;refine ap _ b5 (fun _=>?_);clear b5;refine aj 4 V ?_;refine wrp 1 62 125 [] [(125,(.bool (((((((av&&(!(aY (⟨c.params,c.regs,c.blocks⟩:VFnT).regs z.i.a)))||(bv&&(!(aY (⟨c.params,c.regs,c.blocks⟩:VFnT).regs z.i.b))))||(dv&&(!(aY (⟨c.params,c.regs,c.blocks⟩:VFnT).regs z.i.c))))||((!av)&&(z.i.a !=0)))||((!bv)&&(z.i.b !=0)))||((!dv)&&(z.i.c !=0)))||((!nv)&&(z.i.n !=0)))))] (bt 4 (fun _=>(ql 3 1 (i_ A V) V V)) (Hc1_ 5 (fun g1=>(iu ex z.i.a (⟨c.params,c.regs,c.blocks⟩:VFnT) aw (by(try simp only[BS]at g1);omega) (g_ A V) (by(try simp only[BS]at g1);omega) (by(try simp only[BS]at g1);omega))) (Hl2_ 13 (fun _ _=>(ql 3 2 (i_ A V) V V)) (Hc2_ 14 (fun g1 g2=>(iu ex z.i.b (⟨c.params,c.regs,c.blocks⟩:VFnT) aw (by(try simp only[BS]at g1 g2);omega) (g_ A V) (by(try simp only[BS]at g1 g2);omega) (by(try simp only[BS]at g1 g2);omega))) (Hl2_ 23 (fun _ _=>(ql 3 3 (i_ A V) V V)) (Hc2_ 24 (fun g1 g2=>(iu ex z.i.c (⟨c.params,c.regs,c.blocks⟩:VFnT) aw (by(try simp only[BS]at g1 g2);omega) (g_ A V) (by(try simp only[BS]at g1 g2);omega) (by(try simp only[BS]at g1 g2);omega))) (Hl2_ 33 (fun _ _=>(ql 3 1 (i_ A V) V V)) (Hl2_ 42 (fun _ _=>(ql 3 2 (i_ A V) V V)) (Hl2_ 51 (fun _ _=>(ql 3 3 (i_ A V) V V)) (Hl2_ 60 (fun _ _=>(ql 2 4 (i_ A V) V V)) Hn_)))))))))) V V fun _=>?_
 refine az 1 3 (v:=(((((((av&&(!(aY (⟨c.params,c.regs,c.blocks⟩:VFnT).regs z.i.a)))||(bv&&(!(aY (⟨c.params,c.regs,c.blocks⟩:VFnT).regs z.i.b))))||(dv&&(!(aY (⟨c.params,c.regs,c.blocks⟩:VFnT).regs z.i.c))))||((!av)&&(z.i.a !=0)))||((!bv)&&(z.i.b !=0)))||((!dv)&&(z.i.c !=0)))||((!nv)&&(z.i.n !=0)))) V V V V (fun ag=>?_) (fun ag=>?_)
 ·have a9:=ag;try simp only[BS]at a9
  have c3:=ag;refine wT 1 [] 4 4 [] [(4,(.bool false))] V fun _=>?_
  refine am ⟨.inr V,_,V,false,_,(fT (E) T),(HS.forget A),V,(by exact vin_bad3v ai h6 b8 dl hav hbv hdv hnv c3)⟩
 have a9:=ag;try simp only[BS]at a9
 have al:=vin_good3v (params:=c.params) ai h6 b8 dl hav hbv hdv hnv ag;refine bF 3 126 127 [] [(127,(iI z.i.op))] (Hr_ 1 2 Hn_) A V V fun _=>?_
 refine wT 1 [] 128 129 [] [(128,(.bool (z.i.op==33)))] V fun _=>?_
 refine az 1 1 (v:=(z.i.op==33)) V V V V (fun bb=>?_) (fun bb=>?_)
 ·try simp only[BS]at bb
  refine bF 1 130 137 [4] [(4,(.bool ((decide ((-4194304:Int)<=z.i.n))&&(decide (z.i.n<4194304)))))] (Hr_ 1 2 (bt 5 (fun _=>(ql 2 4 (i_ A V) V V)) Hn_)) A V V fun _=>?_
  refine am ⟨.inr V,_,V,((decide ((-4194304:Int)<=z.i.n))&&(decide (z.i.n<4194304))),_,(fT (E) T),(HS.forget A),V,(by rw[al.1];first|exact(dS ai al.2 M M M M).symm|(unfold iP;(repeat' split)<;>first|omega|rfl|(rw[a0o]<;>simp)))⟩
 try simp only[BS]at bb
 refine wT 1 [] 138 139 [] [(138,(.bool (z.i.op==6)))] V fun _=>?_
 refine az 1 2 (v:=(z.i.op==6)) V V V V (fun bk=>?_) (fun bk=>?_)
 ·try simp only[BS]at bk
  refine bF 1 140 147 [4] [(4,(.bool ((decide ((0:Int)<=z.i.n))&&(decide (z.i.n<8)))))] (Hr_ 1 2 (bt 5 (fun _=>(ql 2 4 (i_ A V) V V)) Hn_)) A V V fun _=>?_
  refine am ⟨.inr V,_,V,((decide ((0:Int)<=z.i.n))&&(decide (z.i.n<8))),_,(fT (E) T),(HS.forget A),V,(by rw[al.1];first|exact(dS ai al.2 M M M M).symm|(unfold iP;(repeat' split)<;>first|omega|rfl|(rw[a0o]<;>simp)))⟩
 try simp only[BS]at bk
 refine wT 1 [] 148 149 [] [(148,(.bool (z.i.op==34)))] V fun _=>?_
 refine az 1 0 (v:=(z.i.op==34)) V V V V (fun ar=>?_) (fun ar=>?_)
 ·have bl:=ar;try simp only[BS]at bl
  refine bm 1 (v:=(z.i.op==34)) V ar V V ?_;refine bF 1 151 158 [4] [(4,(.bool ((decide ((0:Int)<=z.i.n))&&(decide (z.i.n<4)))))] (Hr_ 1 2 (bt 5 (fun _=>(ql 2 4 (i_ A V) V V)) Hn_)) A V V fun _=>?_
  refine am ⟨.inr V,_,V,((decide ((0:Int)<=z.i.n))&&(decide (z.i.n<4))),_,(fT (E) T),(HS.forget A),V,(by rw[al.1];first|exact(dS ai al.2 M M M M).symm|(unfold iP;(repeat' split)<;>first|omega|rfl|(rw[a0o]<;>simp)))⟩
 have bl:=ar;try simp only[BS]at bl
 refine wT 1 [] 148 150 [] [(148,(.bool (z.i.op==35)))] V fun _=>?_
 refine az 1 1 (v:=(z.i.op==35)) V V V V (fun bz=>?_) (fun bz=>?_)
 ·try simp only[BS]at bz
  refine bF 1 151 158 [4] [(4,(.bool ((decide ((0:Int)<=z.i.n))&&(decide (z.i.n<4)))))] (Hr_ 1 2 (bt 5 (fun _=>(ql 2 4 (i_ A V) V V)) Hn_)) A V V fun _=>?_
  refine am ⟨.inr V,_,V,((decide ((0:Int)<=z.i.n))&&(decide (z.i.n<4))),_,(fT (E) T),(HS.forget A),V,(by rw[al.1];first|exact(dS ai al.2 M M M M).symm|(unfold iP;(repeat' split)<;>first|omega|rfl|(rw[a0o]<;>simp)))⟩
 try simp only[BS]at bz
 refine wT 1 [] 159 160 [] [(159,(.bool (z.i.op==38)))] V fun _=>?_
 refine az 1 3 (v:=(z.i.op==38)) V V V V (fun b2=>?_) (fun b2=>?_)
 ·try simp only[BS]at b2
  refine bF 1 161 170 [4] [(4,(.bool ((decide ((0:Int)<=z.i.n))&&(decide (z.i.n<c.params)))))] (Hr_ 1 2 (bt 5 (fun _=>(ql 2 4 (i_ A V) V V)) (bt 7 (fun _=>(ql 3 0 (g_ A V) V V)) Hn_))) A V V fun _=>?_
  refine am ⟨.inr V,_,V,((decide ((0:Int)<=z.i.n))&&(decide (z.i.n<c.params))),_,(fT (E) T),(HS.forget A),V,(by rw[al.1];first|exact(dS ai al.2 M M M M).symm|(unfold iP;(repeat' split)<;>first|omega|rfl|(rw[a0o]<;>simp)))⟩
 try simp only[BS]at b2
 refine wT 1 [] 4 4 [] [(4,(.bool true))] V fun _=>?_
 refine am ⟨.inr V,_,V,true,_,(fT (E) T),(HS.forget A),V,(by rw[al.1];first|exact(dS ai al.2 M M M M).symm|(unfold iP;(repeat' split)<;>first|omega|rfl|(rw[a0o]<;>simp)))⟩
theorem rinstr_c{ag:Option Addr}{an:Nat}(z:VInT){av:Option Addr}{ax:Nat}(c:VFnT)(hs:HS (.of H []) F H [] R)(ch:in64 z.i.op)(ci:in64 z.i.a)(co:in64 z.i.b)(c0:in64 z.i.c)(c3:in64 z.i.n)(U:SR F (sL ag z.args.length an) z.args)(c6:in64 c.params)(c7:in64 c.regs)(c8:SR F (sL av c.blocks.length ax) c.blocks)(hT:TB 37 tabC F):kKt ex 38 [(aG [(iI z.i.op),(iI z.i.a),(iI z.i.b),(iI z.i.c),(iI z.i.n),(sL ag z.args.length an)]),(aG [(iI c.params),(iI c.regs),(sL av c.blocks.length ax)])] H fun v H'=> ∃(r:Bool) (F':Fz),Fz.le F F'/\HS (.of H []) F' H' [] R/\v= .bool r/\r=fO c.params c.regs z:=by
 refine aC Tryd.func38 V V ?_;refine aj 1 V ?_;refine aa ?_;refine aV (aO hs V V) V V ?_;rintro _ H2 _ ⟨b1,rfl,b9,_⟩;refine aV (aO b9 V V) V V ?_;rintro _ H4 _ ⟨b3,rfl,bk,_⟩;refine wa (.bool false) V V V ?_;refine ae 2 V ?_;refine aa ?_;refine bn 2 0 10 11 [] [(11,(aG [(iI z.i.op),(iI z.i.a),(iI z.i.b),(iI z.i.c),(iI z.i.n)]))] (Hr_ 1 0 Hn_) bk V V fun _=>?_
 refine zn bk V fun b6 H7 cc=>?_
 refine sgo 1 3 1 0 [] [] (Hr_ 3 2 Hn_) cc V V fun dt H8 ad=>?_
 refine ae 3 V ?_;refine bF 1 12 32 [] [(32,(.bool (((!(alV z.i.op))||((z.i.op !=6)&&(decide ((0:Int)<(z.args.length:Int)))))||(decide ((6:Int)<(z.args.length:Int))))))] (Hr_ 1 2 (Hc_ 2 (m1.ralw_c_q ex z.i.op H8) (bt 6 (fun _=>(ql 3 0 (i_ ad V) V V)) (Hl2_ 10 (fun _ _=>(ql 22 5 (g_ ad V) V V)) (bt 17 (fun _=>(ql 22 5 (g_ ad V) V V)) Hn_))))) ad V V fun _=>?_
 refine az 1 3 (v:=(((!(alV z.i.op))||((z.i.op !=6)&&(decide ((0:Int)<(z.args.length:Int)))))||(decide ((6:Int)<(z.args.length:Int))))) V V V V (fun ar=>?_) (fun ar=>?_)
 ·try simp only[BS]at ar
  have e4:=ar;refine wT 1 [] 4 4 [] [(4,(.bool false))] V fun _=>?_
  refine am ⟨.inr V,_,V,false,_,fR,(HS.forget ad),V,(by exact vin_bad2 e4)⟩
 try simp only[BS]at ar
 have ao:alV z.i.op=true:=(ar).1.1;have h6:z.i.op=6\/z.args.length=0:=M
 have bb:z.args.length<=6:=M
 refine wT 2 [] 1 0 [6] [(6,(iI 0))] V fun _=>?_
 refine ah (fun(mm:Nat) f H'=> ∃(k:Nat) (F':Fz),Fz.le F F'/\HS (Base.of H []) F' H' [(fP b1 [(iI z.i.op),(iI z.i.a),(iI z.i.b),(iI z.i.c),(iI z.i.n),(sL ag z.args.length an)]),(fP b3 [(iI c.params),(iI c.regs),(sL av c.blocks.length ax)]),(fP b6 [(iI z.i.op),(iI z.i.a),(iI z.i.b),(iI z.i.c),(iI z.i.n)])] R/\aA f [(2,(pT b1 0)),(3,(pT b3 0)),(5,(pT b6 0)),(6,(iI (k:Int)))]/\mm=z.args.length-k/\(k<=z.args.length)/\(∀j,j<k->aY c.regs (z.args.getD j default)=true)) _ ⟨0,_,fR,ad,(agC V (agC V (agC V (agC V agN)))),V,(by first|assumption|omega|(simp at *;omega)),(by exact fb)⟩ ?_;rintro c9 dn dl ⟨k,dd,E,N,a9,rfl,hk,ha⟩ bl;refine ap _ a9 (fun _=>?_);clear a9;replace hT:=hT.mono E;replace U:=U.mono E;refine aj 2 V ?_;refine bF 1 33 37 [] [(37,(.bool (decide ((k:Int)<(z.args.length:Int)))))] (Hr_ 2 0 Hn_) N V V fun _=>?_
 refine az 4 5 (v:=(decide ((k:Int)<(z.args.length:Int)))) V V V V (fun a0=>?_) (fun a0=>?_)
 ·try simp only[BS]at a0
  obtain⟨c5,aw⟩:=Sv.view (SR.sv U N);have ds:=fI (aw k);refine sdr0 1 40 55 [] [(55,(.bool ((decide ((z.args.getD k 0)<0))||(decide (c.regs<=(z.args.getD k 0))))))] (Hr_ 1 0 (Ha_ (Sv.ix (j:=(k:Int)) (SR.sv U N) M M) (Hl_ 4 (ql 3 0 (hc0 (vI (aw k) M)) V V) (bt 8 (fun _=>(ql 22 5 (hc0 (g_ N V)) V V)) (Ha_ (fun(Z:(decide ((z.args.getD k 0)<0))=false)=>(Sv.ix (j:=(k:Int)) (SR.sv U N) (by(try simp only[BS]at Z);omega) (by(try simp only[BS]at Z);omega))) (bt 11 (fun Z=>(ql 3 0 (hc0 (vI (aw k) (by(try simp only[BS]at Z);omega))) V V)) (bt 13 (fun _=>(ql 3 1 (hc0 (h_ N V)) V V)) Hn_))))))) N V V V fun _=>?_
  refine az 1 2 (v:=((decide ((z.args.getD k 0)<0))||(decide (c.regs<=(z.args.getD k 0))))) V V V V (fun a1=>?_) (fun a1=>?_)
  ·try simp only[BS]at a1
   refine wT 1 [] 4 4 [] [(4,(.bool false))] V fun _=>?_
   refine am ⟨.inr V,_,V,false,_,(E),(HS.forget N),V,(by exact vin_no (ej (k:=k) M (dE.2 (show ¬(0<=z.args.getD k 0/\z.args.getD k 0<c.regs) by omega))))⟩
  try simp only[BS]at a1
  refine wU 1 [] 38 39 [6] [(6,(iI ((k:Int)+1)))] (vi (n:=(k:Int)+1) M) V fun _=>?_
  refine bl _ _ _ ?_ ⟨k+1,_,(E),N,(agC V (agC V (agC V (agC V agN)))),V,(by first|assumption|omega|(simp at *;omega)),(by exact dz ha (ba.2 (show 0<=z.args.getD k 0/\z.args.getD k 0<c.regs by omega)))⟩;omega
 try simp only[BS]at a0
 have b5:=gm ha M;refine aa ?_;refine bn 2 0 56 57 [] [(57,(iI z.i.op))] (Hr_ 1 2 Hn_) N V V fun _=>?_
 refine aH (aq V V V) V V (rinfo_c ex z.i.op (HS.call N) M hT) ?_;rintro _ ay ⟨dv,dk,T,A,rfl,bz,b2,rfl⟩;replace A:=HS.back N V A;refine cj 2 3 59 59 [7] [(7,(iI (aR z.i.op).form))] Hn_ (by kernel_rfl) V fun _=>?_
 refine ae 2 V ?_;refine wT 2 [] 60 61 [8] [(8,(.bool ((aR z.i.op).form !=1)))] V fun _=>?_
 refine wT 3 [] 62 71 [9] [(9,(.bool ((((aR z.i.op).form==3)||((aR z.i.op).form==4))||((aR z.i.op).form==7))))] V fun _=>?_
 refine bF 1 72 97 [] [(97,(.bool (((!(e8 ((aR z.i.op).form !=1) z.i.a c.regs))||(!(e8 ((((aR z.i.op).form==3)||((aR z.i.op).form==4))||((aR z.i.op).form==7)) z.i.b c.regs)))||(!(e8 ((aR z.i.op).form==4) z.i.c c.regs)))))] (Hr_ 2 2 (Hr_ 4 1 (Hc_ 5 (fZ ex ((aR z.i.op).form !=1) z.i.a c.regs ay M M) (bt 10 (fun _=>(ql 3 2 (i_ A V) V V)) (bt 12 (fun _=>(ql 3 1 (h_ A V) V V)) (Hc1_ 13 (fun Z=>(fZ ex ((((aR z.i.op).form==3)||((aR z.i.op).form==4))||((aR z.i.op).form==7)) z.i.b c.regs ay (by(try simp only[BS]at Z);omega) (by(try simp only[BS]at Z);omega))) (bt 20 (fun _=>(ql 3 3 (i_ A V) V V)) (bt 22 (fun _=>(ql 3 1 (h_ A V) V V)) (Hc1_ 23 (fun Z=>(fZ ex ((aR z.i.op).form==4) z.i.c c.regs ay (by(try simp only[BS]at Z);omega) (by(try simp only[BS]at Z);omega))) Hn_))))))))) A V V fun _=>?_
 refine az 1 3 (v:=(((!(e8 ((aR z.i.op).form !=1) z.i.a c.regs))||(!(e8 ((((aR z.i.op).form==3)||((aR z.i.op).form==4))||((aR z.i.op).form==7)) z.i.b c.regs)))||(!(e8 ((aR z.i.op).form==4) z.i.c c.regs)))) V V V V (fun a_=>?_) (fun a_=>?_)
 ·have a2:=a_;try simp only[BS]at a2
  have b8:=a_;refine wT 1 [] 4 4 [] [(4,(.bool false))] V fun _=>?_
  refine am ⟨.inr V,_,V,false,_,(fT (E) T),(HS.forget A),V,(by exact vin_rbad ao h6 bb b5 b8)⟩
 have a2:=a_;try simp only[BS]at a2
 have ai:=vin_rgood (params:=c.params) ao h6 bb b5 a_;refine bF 3 98 99 [] [(99,(iI z.i.op))] (Hr_ 1 2 Hn_) A V V fun _=>?_
 refine wT 1 [] 100 101 [] [(100,(.bool (z.i.op==13)))] V fun _=>?_
 refine az 1 1 (v:=(z.i.op==13)) V V V V (fun a3=>?_) (fun a3=>?_)
 ·try simp only[BS]at a3
  refine wT 1 [] 4 4 [] [(4,(.bool true))] V fun _=>?_
  refine am ⟨.inr V,_,V,true,_,(fT (E) T),(HS.forget A),V,(by rw[ai]<;>(first|exact(dS ao ai.2 M M M M).symm|(unfold iP;(repeat' split)<;>first|omega|rfl|(rw[a0o]<;>simp))))⟩
 try simp only[BS]at a3
 refine wT 1 [] 102 103 [] [(102,(.bool (z.i.op==33)))] V fun _=>?_
 refine az 1 1 (v:=(z.i.op==33)) V V V V (fun a4=>?_) (fun a4=>?_)
 ·try simp only[BS]at a4
  refine bF 1 104 111 [4] [(4,(.bool ((decide ((-4194304:Int)<=z.i.n))&&(decide (z.i.n<4194304)))))] (Hr_ 1 2 (bt 5 (fun _=>(ql 2 4 (i_ A V) V V)) Hn_)) A V V fun _=>?_
  refine am ⟨.inr V,_,V,((decide ((-4194304:Int)<=z.i.n))&&(decide (z.i.n<4194304))),_,(fT (E) T),(HS.forget A),V,(by rw[ai]<;>(first|exact(dS ao ai.2 M M M M).symm|(unfold iP;(repeat' split)<;>first|omega|rfl|(rw[a0o]<;>simp))))⟩
 try simp only[BS]at a4
 refine wT 1 [] 112 113 [] [(112,(.bool (z.i.op==6)))] V fun _=>?_
 refine az 1 2 (v:=(z.i.op==6)) V V V V (fun a5=>?_) (fun a5=>?_)
 ·try simp only[BS]at a5
  refine bF 1 114 121 [4] [(4,(.bool ((decide ((0:Int)<=z.i.n))&&(decide (z.i.n<8)))))] (Hr_ 1 2 (bt 5 (fun _=>(ql 2 4 (i_ A V) V V)) Hn_)) A V V fun _=>?_
  refine am ⟨.inr V,_,V,((decide ((0:Int)<=z.i.n))&&(decide (z.i.n<8))),_,(fT (E) T),(HS.forget A),V,(by rw[ai]<;>(first|exact(dS ao ai.2 M M M M).symm|(unfold iP;(repeat' split)<;>first|omega|rfl|(rw[a0o]<;>simp))))⟩
 try simp only[BS]at a5
 refine wT 1 [] 122 123 [] [(122,(.bool (z.i.op==34)))] V fun _=>?_
 refine az 1 0 (v:=(z.i.op==34)) V V V V (fun al=>?_) (fun al=>?_)
 ·have a6:=al;try simp only[BS]at a6
  refine bm 1 (v:=(z.i.op==34)) V al V V ?_;refine bF 1 125 132 [4] [(4,(.bool ((decide ((0:Int)<=z.i.n))&&(decide (z.i.n<4)))))] (Hr_ 1 2 (bt 5 (fun _=>(ql 2 4 (i_ A V) V V)) Hn_)) A V V fun _=>?_
  refine am ⟨.inr V,_,V,((decide ((0:Int)<=z.i.n))&&(decide (z.i.n<4))),_,(fT (E) T),(HS.forget A),V,(by rw[ai]<;>(first|exact(dS ao ai.2 M M M M).symm|(unfold iP;(repeat' split)<;>first|omega|rfl|(rw[a0o]<;>simp))))⟩
 have a6:=al;try simp only[BS]at a6
 refine wT 1 [] 122 124 [] [(122,(.bool (z.i.op==35)))] V fun _=>?_
 refine az 1 1 (v:=(z.i.op==35)) V V V V (fun a7=>?_) (fun a7=>?_)
 ·try simp only[BS]at a7
  refine bF 1 125 132 [4] [(4,(.bool ((decide ((0:Int)<=z.i.n))&&(decide (z.i.n<4)))))] (Hr_ 1 2 (bt 5 (fun _=>(ql 2 4 (i_ A V) V V)) Hn_)) A V V fun _=>?_
  refine am ⟨.inr V,_,V,((decide ((0:Int)<=z.i.n))&&(decide (z.i.n<4))),_,(fT (E) T),(HS.forget A),V,(by rw[ai]<;>(first|exact(dS ao ai.2 M M M M).symm|(unfold iP;(repeat' split)<;>first|omega|rfl|(rw[a0o]<;>simp))))⟩
 try simp only[BS]at a7
 refine wT 1 [] 133 134 [] [(133,(.bool (z.i.op==38)))] V fun _=>?_
 refine az 1 3 (v:=(z.i.op==38)) V V V V (fun a8=>?_) (fun a8=>?_)
 ·try simp only[BS]at a8
  refine bF 1 135 144 [4] [(4,(.bool ((decide ((0:Int)<=z.i.n))&&(decide (z.i.n<c.params)))))] (Hr_ 1 2 (bt 5 (fun _=>(ql 2 4 (i_ A V) V V)) (bt 7 (fun _=>(ql 3 0 (h_ A V) V V)) Hn_))) A V V fun _=>?_
  refine am ⟨.inr V,_,V,((decide ((0:Int)<=z.i.n))&&(decide (z.i.n<c.params))),_,(fT (E) T),(HS.forget A),V,(by rw[ai]<;>(first|exact(dS ao ai.2 M M M M).symm|(unfold iP;(repeat' split)<;>first|omega|rfl|(rw[a0o]<;>simp))))⟩
 try simp only[BS]at a8
 refine bF 1 145 147 [4] [(4,(.bool (z.i.n==0)))] (Hr_ 1 2 Hn_) A V V fun _=>?_
 refine am ⟨.inr V,_,V,(z.i.n==0),_,(fT (E) T),(HS.forget A),V,(by rw[ai]<;>(first|exact(dS ao ai.2 M M M M).symm|(unfold iP;(repeat' split)<;>first|omega|rfl|(rw[a0o]<;>simp))))⟩
theorem rEnd_c{E:Option Addr}{Z:Nat}(b:BlkT){N:Option Addr}{ad:Nat}(c:VFnT)(hs:HS (.of H []) F H [] R)(an:SR F (sL E b.ins.length Z) b.ins)(ar:in64 b.fin)(av:in64 b.reg)(aw:in64 b.tgt)(ax:in64 b.els)(ay:in64 c.params)(a0:in64 c.regs)(a1:SR F (sL N c.blocks.length ad) c.blocks)(hT:TB 37 tabC F):kKt ex 37 [(aG [(sL E b.ins.length Z),(iI b.fin),(iI b.reg),(iI b.tgt),(iI b.els)]),(aG [(iI c.params),(iI c.regs),(sL N c.blocks.length ad)])] H fun v H'=> ∃(r:Bool) (F':Fz),Fz.le F F'/\HS (.of H []) F' H' [] R/\v= .bool r/\r=vendV (c.blocks.length:Int) c.regs b:=by
 refine aC Tryd.func37 V V ?_;refine aj 1 V ?_;refine aa ?_;refine aV (aO hs V V) V V ?_;rintro _ H2 _ ⟨b1,rfl,al,_⟩;refine aV (aO al V V) V V ?_;rintro _ H4 _ ⟨b3,rfl,A,_⟩;refine wa (.bool false) V V V ?_;refine ae 2 V ?_;refine bF 2 9 11 [5] [(5,(iI (c.blocks.length:Int)))] (Hr_ 1 1 Hn_) A V V fun _=>?_
 refine sdr0 3 12 39 [6,7,8] [(6,(.bool ((decide ((0:Int)<=b.tgt))&&(decide (b.tgt<(c.blocks.length:Int)))))),(7,(.bool ((decide ((0:Int)<=b.els))&&(decide (b.els<(c.blocks.length:Int)))))),(8,(.bool ((decide ((0:Int)<=b.reg))&&(decide (b.reg<c.regs)))))] (Hr_ 1 0 (bt 5 (fun _=>(ql 3 3 (hc0 (g_ A V)) V V)) (Hr_ 10 0 (bt 14 (fun _=>(ql 3 4 (hc0 (g_ A V)) V V)) (Hr_ 19 0 (bt 23 (fun _=>(ql 3 2 (hc0 (g_ A V)) V V)) (bt 25 (fun _=>(ql 3 1 (hc0 (h_ A V)) V V)) Hn_))))))) A V V V fun _=>?_
 refine bF 3 40 41 [] [(41,(iI b.fin))] (Hr_ 1 0 Hn_) A V V fun _=>?_
 refine wT 1 [] 42 43 [] [(42,(.bool (b.fin==1)))] V fun _=>?_
 refine az 1 1 (v:=(b.fin==1)) V V V V (fun z=>?_) (fun z=>?_)
 ·try simp only[BS]at z
  refine wrp 1 44 54 [4] [(4,(.bool ((((decide ((0:Int)<=b.tgt))&&(decide (b.tgt<(c.blocks.length:Int))))&&(b.els==0))&&(b.reg==0))))] (bt 3 (fun _=>(ql 3 4 (g_ A V) V V)) (bt 8 (fun _=>(ql 3 2 (g_ A V) V V)) Hn_)) V V fun _=>?_
  refine am ⟨.inr V,_,V,((((decide ((0:Int)<=b.tgt))&&(decide (b.tgt<(c.blocks.length:Int))))&&(b.els==0))&&(b.reg==0)),_,fR,(HS.forget A),V,(by refine a0o.2 (Iff.trans ?_ cd.symm);first|omega|(simp[ba]<;>omega))⟩
 try simp only[BS]at z
 refine wT 1 [] 55 56 [] [(55,(.bool (b.fin==2)))] V fun _=>?_
 refine az 1 1 (v:=(b.fin==2)) V V V V (fun T=>?_) (fun T=>?_)
 ·try simp only[BS]at T
  refine wT 1 [] 57 63 [4] [(4,(.bool ((((decide ((0:Int)<=b.tgt))&&(decide (b.tgt<(c.blocks.length:Int))))&&((decide ((0:Int)<=b.els))&&(decide (b.els<(c.blocks.length:Int)))))&&((decide ((0:Int)<=b.reg))&&(decide (b.reg<c.regs))))))] V fun _=>?_
  refine am ⟨.inr V,_,V,((((decide ((0:Int)<=b.tgt))&&(decide (b.tgt<(c.blocks.length:Int))))&&((decide ((0:Int)<=b.els))&&(decide (b.els<(c.blocks.length:Int)))))&&((decide ((0:Int)<=b.reg))&&(decide (b.reg<c.regs)))),_,fR,(HS.forget A),V,(by refine a0o.2 (Iff.trans ?_ cd.symm);first|omega|(simp[ba]<;>omega))⟩
 try simp only[BS]at T
 refine wT 1 [] 64 65 [] [(64,(.bool (b.fin==3)))] V fun _=>?_
 refine az 1 1 (v:=(b.fin==3)) V V V V (fun U=>?_) (fun U=>?_)
 ·try simp only[BS]at U
  refine wrp 1 66 76 [4] [(4,(.bool ((((decide ((0:Int)<=b.reg))&&(decide (b.reg<c.regs)))&&(b.tgt==0))&&(b.els==0))))] (bt 3 (fun _=>(ql 3 3 (g_ A V) V V)) (bt 8 (fun _=>(ql 3 4 (g_ A V) V V)) Hn_)) V V fun _=>?_
  refine am ⟨.inr V,_,V,((((decide ((0:Int)<=b.reg))&&(decide (b.reg<c.regs)))&&(b.tgt==0))&&(b.els==0)),_,fR,(HS.forget A),V,(by refine a0o.2 (Iff.trans ?_ cd.symm);first|omega|(simp[ba]<;>omega))⟩
 try simp only[BS]at U
 refine wT 1 [] 77 78 [] [(77,(.bool (b.fin==4)))] V fun _=>?_
 refine az 1 3 (v:=(b.fin==4)) V V V V (fun a_=>?_) (fun a_=>?_)
 ·try simp only[BS]at a_
  refine bF 1 79 96 [4] [(4,(.bool ((((decide ((1:Int)<=b.tgt))&&(decide (b.tgt<33554432)))&&(b.els==0))&&(b.reg==0))))] (Hr_ 1 0 (bt 5 (fun _=>(ql 3 3 (g_ A V) V V)) (bt 10 (fun _=>(ql 3 4 (g_ A V) V V)) (bt 15 (fun _=>(ql 3 2 (g_ A V) V V)) Hn_)))) A V V fun _=>?_
  refine am ⟨.inr V,_,V,((((decide ((1:Int)<=b.tgt))&&(decide (b.tgt<33554432)))&&(b.els==0))&&(b.reg==0)),_,fR,(HS.forget A),V,(by refine a0o.2 (Iff.trans ?_ cd.symm);first|omega|(simp[ba]<;>omega))⟩
 try simp only[BS]at a_
 refine wT 1 [] 4 4 [] [(4,(.bool false))] V fun _=>?_
 refine am ⟨.inr V,_,V,false,_,fR,(HS.forget A),V,(by refine a0o.2 (Iff.trans ?_ cd.symm);first|omega|(simp[ba]<;>omega))⟩
theorem iE{U:Option Addr}{ad:Nat}(c:VFnT)(hs:HS (.of H []) F H [] R)(dv:in64 c.params)(d1:in64 c.regs)(Z:SR F (sL U c.blocks.length ad) c.blocks)(hT:TB 37 tabC F)(z: ∀j,(c.blocks.getD j default).ins.length<=9223372036854775807):kKt ex 26 [(aG [(iI c.params),(iI c.regs),(sL U c.blocks.length ad)])] H fun v H'=> ∃(r:Bool) (F':Fz),Fz.le F F'/\HS (.of H []) F' H' [] R/\v= .bool r/\r=bT c:=by
 refine aC Tryd.func26 V V ?_;refine aj 1 V ?_;refine aa ?_;refine aV (aO hs V V) V V ?_;rintro _ H2 _ ⟨b1,rfl,ag,_⟩;refine wa (.bool false) V V V ?_;refine ae 3 V ?_;refine bF 1 10 39 [] [(39,(.bool ((((((decide (c.params<0))||(decide ((6:Int)<c.params)))||(decide (c.regs<0)))||(decide ((3000:Int)<c.regs)))||(decide ((c.blocks.length:Int)<1)))||(decide ((1000:Int)<(c.blocks.length:Int))))))] (Hr_ 1 0 (bt 5 (fun _=>(ql 3 0 (g_ ag V) V V)) (bt 10 (fun _=>(ql 3 1 (g_ ag V) V V)) (bt 15 (fun _=>(ql 3 1 (g_ ag V) V V)) (bt 20 (fun _=>(ql 27 2 (g_ ag V) V V)) (bt 26 (fun _=>(ql 27 2 (g_ ag V) V V)) Hn_)))))) ag V V fun _=>?_
 refine az 1 2 (v:=((((((decide (c.params<0))||(decide ((6:Int)<c.params)))||(decide (c.regs<0)))||(decide ((3000:Int)<c.regs)))||(decide ((c.blocks.length:Int)<1)))||(decide ((1000:Int)<(c.blocks.length:Int))))) V V V V (fun c4=>?_) (fun c4=>?_)
 ·try simp only[BS]at c4
  refine wT 1 [] 2 2 [] [(2,(.bool false))] V fun _=>?_
  refine am ⟨.inr V,_,V,false,_,fR,(HS.forget ag),V,(by exact val_lim M)⟩
 try simp only[BS]at c4
 have f4:0<=c.params/\c.params<=6/\0<=c.regs/\c.regs<=3000/\1<=c.blocks.length/\c.blocks.length<=1000:=M
 refine wT 2 [] 40 40 [3] [(3,(.func (.func 52) #[] #[(pT b1 0)]))] V fun _=>?_
 refine wT 3 [] 41 41 [4] [(4,(.func (.func 53) #[] #[(pT b1 0)]))] V fun _=>?_
 refine bF 2 42 45 [] [(43,(sL U c.blocks.length ad)),(44,(iI (c.blocks.length:Int))),(45,(iI 0))] (Hr_ 1 0 Hn_) ag V V fun _=>?_
 let b8:Fp:=(fP b1 [(iI c.params),(iI c.regs),(sL U c.blocks.length ad)])
 refine ah (fun(mm:Nat) f H'=> ∃(k:Nat) (F':Fz),Fz.le F F'/\HS (Base.of H []) F' H' [b8] R/\aA f [(1,(pT b1 0)),(3,(.func (.func 52) #[] #[(pT b1 0)])),(4,(.func (.func 53) #[] #[(pT b1 0)])),(43,(sL U c.blocks.length ad)),(44,(iI (c.blocks.length:Int))),(45,(iI (k:Int)))]/\mm=c.blocks.length-k/\(k<=c.blocks.length)/\(∀j,j<k->blkV c.params c.regs (c.blocks.length:Int) (c.blocks.getD j default)=true)) _ ⟨0,_,fR,ag,(agC V (agC V (agC V (agC V (agC V (agC V agN)))))),V,(by first|assumption|omega|(simp at *;omega)),(by exact fb)⟩ ?_;rintro e3 f9 H9 ⟨k,F9,N,a3,b7,rfl,hk,ha⟩ a4;refine ap _ b7 (fun _=>?_);clear b7;replace hT:=hT.mono N;replace Z:=Z.mono N;have g4:=z k;refine aj 1 V ?_;refine wT 2 [] 46 46 [] [(46,(.bool (decide ((k:Int)<(c.blocks.length:Int)))))] V fun _=>?_
 refine az 4 5 (v:=(decide ((k:Int)<(c.blocks.length:Int)))) V V V V (fun a5=>?_) (fun a5=>?_)
 ·try simp only[BS]at a5
  refine aa ?_;obtain⟨T,b3⟩:=Sv.view (SR.sv Z a3);obtain⟨c0,c3,c5,c6,al⟩:=BlkT.fx (b3 k);refine cj 2 0 47 48 [] [(48,(aG [(sL (cA (T k) 0) (c.blocks.getD k default).ins.length (cK (T k) 0)),(iI (c.blocks.getD k default).fin),(iI (c.blocks.getD k default).reg),(iI (c.blocks.getD k default).tgt),(iI (c.blocks.getD k default).els)]))] (Ha_ (Sv.ix (j:=(k:Int)) (SR.sv Z a3) M M) (Hl_ 1 (qn 43 0 5 (BlkT.vw (b3 k) M) V V V V) Hn_)) (by kernel_rfl) V fun _=>?_
  refine zn a3 V fun b6 ea ch=>?_
  refine sgo 1 3 1 0 [] [] (Hr_ 3 1 Hn_) ch V V fun dn em b2=>?_
  refine ae 3 V ?_;refine bF 2 49 52 [] [(50,(sL (cA (T k) 0) (c.blocks.getD k default).ins.length (cK (T k) 0))),(51,(iI ((c.blocks.getD k default).ins.length:Int))),(52,(iI 0))] (Hr_ 1 1 Hn_) b2 V V fun _=>?_
  refine ah (fun(mm:Nat) f H'=> ∃(i:Nat) (F':Fz),Fz.le F9 F'/\HS (Base.of H []) F' H' [b8,(fP b6 [(sL (cA (T k) 0) (c.blocks.getD k default).ins.length (cK (T k) 0)),(iI (c.blocks.getD k default).fin),(iI (c.blocks.getD k default).reg),(iI (c.blocks.getD k default).tgt),(iI (c.blocks.getD k default).els)])] R/\aA f [(1,(pT b1 0)),(3,(.func (.func 52) #[] #[(pT b1 0)])),(4,(.func (.func 53) #[] #[(pT b1 0)])),(6,(pT b6 0)),(43,(sL U c.blocks.length ad)),(44,(iI (c.blocks.length:Int))),(45,(iI (k:Int))),(50,(sL (cA (T k) 0) (c.blocks.getD k default).ins.length (cK (T k) 0))),(51,(iI ((c.blocks.getD k default).ins.length:Int))),(52,(iI (i:Int)))]/\mm=(c.blocks.getD k default).ins.length-i/\(i<=(c.blocks.getD k default).ins.length)/\(∀j,j<i->fO c.params c.regs ((c.blocks.getD k default).ins.getD j default)=true)) _ ⟨0,_,fR,b2,(agC V (agC V (agC V (agC V (agC V (agC V (agC V (agC V (agC V (agC V agN)))))))))),V,(by first|assumption|omega|(simp at *;omega)),(by exact fb)⟩ ?_;rintro d2 e2 ar ⟨i,d3,E,A,bz,rfl,hi,hb⟩ co;refine ap _ bz (fun _=>?_);clear bz;replace hT:=hT.mono E;replace Z:=Z.mono E;replace al:=al.mono E;refine aj 1 V ?_;refine wT 2 [] 53 53 [] [(53,(.bool (decide ((i:Int)<((c.blocks.getD k default).ins.length:Int)))))] V fun _=>?_
  refine az 4 5 (v:=(decide ((i:Int)<((c.blocks.getD k default).ins.length:Int)))) V V V V (fun a6=>?_) (fun a6=>?_)
  ·try simp only[BS]at a6
   refine aa ?_;obtain⟨bk,b4⟩:=Sv.view (SR.sv al A);obtain⟨c7,c8,c9,dd,dk,b5⟩:=VInT.fx (b4 i);let b9:Value:=(aG [(iI ((c.blocks.getD k default).ins.getD i default).i.op),(iI ((c.blocks.getD k default).ins.getD i default).i.a),(iI ((c.blocks.getD k default).ins.getD i default).i.b),(iI ((c.blocks.getD k default).ins.getD i default).i.c),(iI ((c.blocks.getD k default).ins.getD i default).i.n),(sL (cA (bk i) 5) ((c.blocks.getD k default).ins.getD i default).args.length (cK (bk i) 5))])
   refine cj 2 0 54 55 [] [(55,b9)] (Ha_ (Sv.ix (j:=(i:Int)) (SR.sv al A) M M) (Hl_ 1 (qn 47 0 6 (VInT.vw (b4 i) M) V V V V) Hn_)) (by kernel_rfl) V fun _=>?_
   refine zn A V fun e1 et ci=>?_
   refine sgo 1 3 1 0 [] [] (Hr_ 3 2 Hn_) ci V V fun ds ez a1=>?_
   refine ae 2 V ?_;refine aa ?_;refine bn 2 0 56 57 [] [(56,(aG [(iI c.params),(iI c.regs),(sL U c.blocks.length ad)])),(57,b9)] (Hr_ 0 0 (Hr_ 1 2 Hn_)) a1 V V fun _=>?_
   refine aH (aq V V V) V V (vinstr_c ex (⟨c.params,c.regs,c.blocks⟩:VFnT) (⟨(⟨((c.blocks.getD k default).ins.getD i default).i.op,((c.blocks.getD k default).ins.getD i default).i.a,((c.blocks.getD k default).ins.getD i default).i.b,((c.blocks.getD k default).ins.getD i default).i.c,((c.blocks.getD k default).ins.getD i default).i.n⟩:InsT),((c.blocks.getD k default).ins.getD i default).args⟩:VInT) (HS.call a1) M M Z M M M M M b5 hT) ?_;rintro _ e0 ⟨e4,d4,bl,an,rfl,rfl⟩;replace an:=HS.back a1 V an;refine cj 1 3 59 59 [] [(59,(.bool (!(fO (⟨c.params,c.regs,c.blocks⟩:VFnT).params (⟨c.params,c.regs,c.blocks⟩:VFnT).regs (⟨(⟨((c.blocks.getD k default).ins.getD i default).i.op,((c.blocks.getD k default).ins.getD i default).i.a,((c.blocks.getD k default).ins.getD i default).i.b,((c.blocks.getD k default).ins.getD i default).i.c,((c.blocks.getD k default).ins.getD i default).i.n⟩:InsT),((c.blocks.getD k default).ins.getD i default).args⟩:VInT)))))] Hn_ (by kernel_rfl) V fun _=>?_
   refine ae 1 V ?_;refine az 1 2 (v:=(!(fO (⟨c.params,c.regs,c.blocks⟩:VFnT).params (⟨c.params,c.regs,c.blocks⟩:VFnT).regs (⟨(⟨((c.blocks.getD k default).ins.getD i default).i.op,((c.blocks.getD k default).ins.getD i default).i.a,((c.blocks.getD k default).ins.getD i default).i.b,((c.blocks.getD k default).ins.getD i default).i.c,((c.blocks.getD k default).ins.getD i default).i.n⟩:InsT),((c.blocks.getD k default).ins.getD i default).args⟩:VInT)))) V V V V (fun a2=>?_) (fun a2=>?_)
   ·try simp only[BS]at a2
    have h3:=a2;refine wT 1 [] 2 2 [] [(2,(.bool false))] V fun _=>?_
    refine am ⟨.inr V,_,V,false,_,(fT (fT (N) E) bl),(HS.forget an),V,(by exact iX (ej M (blk_no (ej M h3))))⟩
   try simp only[BS]at a2
   refine wU 1 [] 52 52 [60] [(52,(iI ((i:Int)+1)))] (vi (n:=(i:Int)+1) M) V fun _=>?_
   refine co _ _ _ ?_ ⟨i+1,_,(fT (E) bl),(HS.sub an (a02 _ _)),(agC V (agC V (agC V (agC V (agC V (agC V (agC V (agC V (agC V (agC V agN)))))))))),V,(by first|assumption|omega|(simp at *;omega)),(by exact dz hb X)⟩;omega
  try simp only[BS]at a6
  have a0:=gm hb M;refine wT 3 [] 1 0 [9] [(9,(.bool false))] V fun _=>?_
  refine bF 3 61 62 [] [(62,(iI (c.blocks.getD k default).fin))] (Hr_ 1 1 Hn_) A V V fun _=>?_
  refine wT 1 [] 63 64 [] [(63,(.bool ((c.blocks.getD k default).fin==1)))] V fun _=>?_
  refine az 0 1 (v:=((c.blocks.getD k default).fin==1)) V V V V (fun a7=>?_) (fun a7=>?_)
  ·try simp only[BS]at a7
   refine bF 3 65 78 [9] [(9,(.bool ((aY ((⟨c.params,c.regs,c.blocks⟩:VFnT).blocks.length:Int) (c.blocks.getD k default).tgt&&((c.blocks.getD k default).reg==0))&&((c.blocks.getD k default).els==0))))] (Hr_ 2 1 (Hc_ 3 (mH ex (c.blocks.getD k default).tgt (⟨c.params,c.regs,c.blocks⟩:VFnT) ar M (g_ A V) M M) (bt 6 (fun _=>(ql 3 2 (h_ A V) V V)) (bt 11 (fun _=>(ql 3 4 (h_ A V) V V)) Hn_)))) A V V fun _=>?_
   refine wT 1 [] 133 134 [] [(134,(.bool (!((aY ((⟨c.params,c.regs,c.blocks⟩:VFnT).blocks.length:Int) (c.blocks.getD k default).tgt&&((c.blocks.getD k default).reg==0))&&((c.blocks.getD k default).els==0)))))] V fun _=>?_
   refine az 1 2 (v:=(!((aY ((⟨c.params,c.regs,c.blocks⟩:VFnT).blocks.length:Int) (c.blocks.getD k default).tgt&&((c.blocks.getD k default).reg==0))&&((c.blocks.getD k default).els==0)))) V V V V (fun av=>?_) (fun av=>?_)
   ·try simp only[BS]at av
    have a_:=av;try simp only[dE,ba]at a_
    refine wT 1 [] 2 2 [] [(2,(.bool false))] V fun _=>?_
    refine am ⟨.inr V,_,V,false,_,(fT (N) E),(HS.forget A),V,(by exact iX (ej (k:=k) M (iW (a1B.2 fun z=>by rw[cd]at z;omega))))⟩
   try simp only[BS]at av
   have a_:=av;try simp only[dE,ba]at a_
   refine wU 1 [] 45 45 [135] [(45,(iI ((k:Int)+1)))] (vi (n:=(k:Int)+1) M) V fun _=>?_
   refine a4 _ _ _ ?_ ⟨k+1,_,(fT (N) E),(HS.sub A (a02 _ _)),(agC V (agC V (agC V (agC V (agC V (agC V agN)))))),V,(by first|assumption|omega|(simp at *;omega)),(by exact dz ha (iV a0 (by first|assumption|(rw[cd];omega))))⟩;omega
  try simp only[BS]at a7
  refine wT 1 [] 79 80 [] [(79,(.bool ((c.blocks.getD k default).fin==2)))] V fun _=>?_
  refine az 0 1 (v:=((c.blocks.getD k default).fin==2)) V V V V (fun a8=>?_) (fun a8=>?_)
  ·try simp only[BS]at a8
   refine bF 3 81 96 [9] [(9,(.bool ((aY ((⟨c.params,c.regs,c.blocks⟩:VFnT).blocks.length:Int) (c.blocks.getD k default).tgt&&aY ((⟨c.params,c.regs,c.blocks⟩:VFnT).blocks.length:Int) (c.blocks.getD k default).els)&&aY (⟨c.params,c.regs,c.blocks⟩:VFnT).regs (c.blocks.getD k default).reg)))] (Hr_ 2 1 (Hc_ 3 (mH ex (c.blocks.getD k default).tgt (⟨c.params,c.regs,c.blocks⟩:VFnT) ar M (g_ A V) M M) (bt 7 (fun _=>(ql 3 4 (h_ A V) V V)) (Hc1_ 8 (fun g1=>(mH ex (c.blocks.getD k default).els (⟨c.params,c.regs,c.blocks⟩:VFnT) ar (by(try simp only[BS]at g1);omega) (g_ A V) (by(try simp only[BS]at g1);omega) (by(try simp only[BS]at g1);omega))) (bt 13 (fun _=>(ql 3 2 (h_ A V) V V)) (Hc1_ 14 (fun g1=>(cReg_c_q ex (c.blocks.getD k default).reg (⟨c.params,c.regs,c.blocks⟩:VFnT) ar (by(try simp only[BS]at g1);omega) (g_ A V) (by(try simp only[BS]at g1);omega) (by(try simp only[BS]at g1);omega))) Hn_)))))) A V V fun _=>?_
   refine wT 1 [] 133 134 [] [(134,(.bool (!((aY ((⟨c.params,c.regs,c.blocks⟩:VFnT).blocks.length:Int) (c.blocks.getD k default).tgt&&aY ((⟨c.params,c.regs,c.blocks⟩:VFnT).blocks.length:Int) (c.blocks.getD k default).els)&&aY (⟨c.params,c.regs,c.blocks⟩:VFnT).regs (c.blocks.getD k default).reg))))] V fun _=>?_
   refine az 1 2 (v:=(!((aY ((⟨c.params,c.regs,c.blocks⟩:VFnT).blocks.length:Int) (c.blocks.getD k default).tgt&&aY ((⟨c.params,c.regs,c.blocks⟩:VFnT).blocks.length:Int) (c.blocks.getD k default).els)&&aY (⟨c.params,c.regs,c.blocks⟩:VFnT).regs (c.blocks.getD k default).reg))) V V V V (fun aw=>?_) (fun aw=>?_)
   ·try simp only[BS]at aw
    have a_:=aw;try simp only[dE,ba]at a_
    refine wT 1 [] 2 2 [] [(2,(.bool false))] V fun _=>?_
    refine am ⟨.inr V,_,V,false,_,(fT (N) E),(HS.forget A),V,(by exact iX (ej (k:=k) M (iW (a1B.2 fun z=>by rw[cd]at z;omega))))⟩
   try simp only[BS]at aw
   have a_:=aw;try simp only[dE,ba]at a_
   refine wU 1 [] 45 45 [135] [(45,(iI ((k:Int)+1)))] (vi (n:=(k:Int)+1) M) V fun _=>?_
   refine a4 _ _ _ ?_ ⟨k+1,_,(fT (N) E),(HS.sub A (a02 _ _)),(agC V (agC V (agC V (agC V (agC V (agC V agN)))))),V,(by first|assumption|omega|(simp at *;omega)),(by exact dz ha (iV a0 (by first|assumption|(rw[cd];omega))))⟩;omega
  try simp only[BS]at a8
  refine wT 1 [] 97 98 [] [(97,(.bool ((c.blocks.getD k default).fin==3)))] V fun _=>?_
  refine az 0 1 (v:=((c.blocks.getD k default).fin==3)) V V V V (fun a9=>?_) (fun a9=>?_)
  ·try simp only[BS]at a9
   refine bF 3 99 112 [9] [(9,(.bool ((aY (⟨c.params,c.regs,c.blocks⟩:VFnT).regs (c.blocks.getD k default).reg&&((c.blocks.getD k default).tgt==0))&&((c.blocks.getD k default).els==0))))] (Hr_ 2 1 (Hc_ 3 (cReg_c_q ex (c.blocks.getD k default).reg (⟨c.params,c.regs,c.blocks⟩:VFnT) ar M (g_ A V) M M) (bt 6 (fun _=>(ql 3 3 (h_ A V) V V)) (bt 11 (fun _=>(ql 3 4 (h_ A V) V V)) Hn_)))) A V V fun _=>?_
   refine wT 1 [] 133 134 [] [(134,(.bool (!((aY (⟨c.params,c.regs,c.blocks⟩:VFnT).regs (c.blocks.getD k default).reg&&((c.blocks.getD k default).tgt==0))&&((c.blocks.getD k default).els==0)))))] V fun _=>?_
   refine az 1 2 (v:=(!((aY (⟨c.params,c.regs,c.blocks⟩:VFnT).regs (c.blocks.getD k default).reg&&((c.blocks.getD k default).tgt==0))&&((c.blocks.getD k default).els==0)))) V V V V (fun ax=>?_) (fun ax=>?_)
   ·try simp only[BS]at ax
    have a_:=ax;try simp only[dE,ba]at a_
    refine wT 1 [] 2 2 [] [(2,(.bool false))] V fun _=>?_
    refine am ⟨.inr V,_,V,false,_,(fT (N) E),(HS.forget A),V,(by exact iX (ej (k:=k) M (iW (a1B.2 fun z=>by rw[cd]at z;omega))))⟩
   try simp only[BS]at ax
   have a_:=ax;try simp only[dE,ba]at a_
   refine wU 1 [] 45 45 [135] [(45,(iI ((k:Int)+1)))] (vi (n:=(k:Int)+1) M) V fun _=>?_
   refine a4 _ _ _ ?_ ⟨k+1,_,(fT (N) E),(HS.sub A (a02 _ _)),(agC V (agC V (agC V (agC V (agC V (agC V agN)))))),V,(by first|assumption|omega|(simp at *;omega)),(by exact dz ha (iV a0 (by first|assumption|(rw[cd];omega))))⟩;omega
  try simp only[BS]at a9
  refine wT 1 [] 113 114 [] [(113,(.bool ((c.blocks.getD k default).fin==4)))] V fun _=>?_
  refine az 0 3 (v:=((c.blocks.getD k default).fin==4)) V V V V (fun bb=>?_) (fun bb=>?_)
  ·try simp only[BS]at bb
   refine bF 3 115 132 [9] [(9,(.bool ((((decide ((1:Int)<=(c.blocks.getD k default).tgt))&&(decide ((c.blocks.getD k default).tgt<33554432)))&&((c.blocks.getD k default).reg==0))&&((c.blocks.getD k default).els==0))))] (Hr_ 1 1 (bt 5 (fun _=>(ql 3 3 (h_ A V) V V)) (bt 10 (fun _=>(ql 3 2 (h_ A V) V V)) (bt 15 (fun _=>(ql 3 4 (h_ A V) V V)) Hn_)))) A V V fun _=>?_
   refine wT 1 [] 133 134 [] [(134,(.bool (!((((decide ((1:Int)<=(c.blocks.getD k default).tgt))&&(decide ((c.blocks.getD k default).tgt<33554432)))&&((c.blocks.getD k default).reg==0))&&((c.blocks.getD k default).els==0)))))] V fun _=>?_
   refine az 1 2 (v:=(!((((decide ((1:Int)<=(c.blocks.getD k default).tgt))&&(decide ((c.blocks.getD k default).tgt<33554432)))&&((c.blocks.getD k default).reg==0))&&((c.blocks.getD k default).els==0)))) V V V V (fun ay=>?_) (fun ay=>?_)
   ·try simp only[BS]at ay
    have a_:=ay;try simp only[dE,ba]at a_
    refine wT 1 [] 2 2 [] [(2,(.bool false))] V fun _=>?_
    refine am ⟨.inr V,_,V,false,_,(fT (N) E),(HS.forget A),V,(by exact iX (ej (k:=k) M (iW (a1B.2 fun z=>by rw[cd]at z;omega))))⟩
   try simp only[BS]at ay
   have a_:=ay;try simp only[dE,ba]at a_
   refine wU 1 [] 45 45 [135] [(45,(iI ((k:Int)+1)))] (vi (n:=(k:Int)+1) M) V fun _=>?_
   refine a4 _ _ _ ?_ ⟨k+1,_,(fT (N) E),(HS.sub A (a02 _ _)),(agC V (agC V (agC V (agC V (agC V (agC V agN)))))),V,(by first|assumption|omega|(simp at *;omega)),(by exact dz ha (iV a0 (by first|assumption|(rw[cd];omega))))⟩;omega
  try simp only[BS]at bb
  refine wT 1 [] 133 134 [] [(134,(.bool true))] V fun _=>?_
  refine bm 1 (v:=true) V V V V ?_;refine wT 1 [] 2 2 [] [(2,(.bool false))] V fun _=>?_
  refine am ⟨.inr V,_,V,false,_,(fT (N) E),(HS.forget A),V,(by exact iX (ej (k:=k) M (iW (a1B.2 fun z=>by rw[cd]at z;omega))))⟩
 try simp only[BS]at a5
 refine wT 1 [] 2 2 [] [(2,(.bool true))] V fun _=>?_
 refine am ⟨.inr V,_,V,true,_,(N),(HS.forget a3),V,(by exact val_yes f4 (gm ha M))⟩
theorem eQ{al:Option Addr}{av:Nat}(c:VFnT)(hs:HS (.of H []) F H [] R)(dl:in64 c.params)(dn:in64 c.regs)(A:SR F (sL al c.blocks.length av) c.blocks)(z:TB 37 tabC F)(hv: ∀j,(c.blocks.getD j default).ins.length<=9223372036854775807):kKt ex 17 [(aG [(iI c.params),(iI c.regs),(sL al c.blocks.length av)])] H fun v H'=> ∃(r:Bool) (F':Fz),Fz.le F F'/\HS (.of H []) F' H' [] R/\v= .bool r/\r=bT c:=by
 refine aC Tryd.func17 V V ?_;refine aj 1 V ?_;refine aa ?_;refine aV (aO hs V V) V V ?_;rintro _ H2 _ ⟨b1,rfl,Z,_⟩;refine wa (.bool false) V V V ?_;refine ae 3 V ?_;refine bF 1 6 35 [] [(35,(.bool ((((((decide (c.params<0))||(decide ((6:Int)<c.params)))||(decide (c.regs<0)))||(decide ((3000:Int)<c.regs)))||(decide ((c.blocks.length:Int)<1)))||(decide ((1000:Int)<(c.blocks.length:Int))))))] (Hr_ 1 0 (bt 5 (fun _=>(ql 3 0 (g_ Z V) V V)) (bt 10 (fun _=>(ql 3 1 (g_ Z V) V V)) (bt 15 (fun _=>(ql 3 1 (g_ Z V) V V)) (bt 20 (fun _=>(ql 27 2 (g_ Z V) V V)) (bt 26 (fun _=>(ql 27 2 (g_ Z V) V V)) Hn_)))))) Z V V fun _=>?_
 refine az 1 3 (v:=((((((decide (c.params<0))||(decide ((6:Int)<c.params)))||(decide (c.regs<0)))||(decide ((3000:Int)<c.regs)))||(decide ((c.blocks.length:Int)<1)))||(decide ((1000:Int)<(c.blocks.length:Int))))) V V V V (fun c4=>?_) (fun c4=>?_)
 ·try simp only[BS]at c4
  refine wT 1 [] 2 2 [] [(2,(.bool false))] V fun _=>?_
  refine am ⟨.inr V,_,V,false,_,fR,(HS.forget Z),V,(by exact val_lim M)⟩
 try simp only[BS]at c4
 have e1:0<=c.params/\c.params<=6/\0<=c.regs/\c.regs<=3000/\1<=c.blocks.length/\c.blocks.length<=1000:=M
 refine wT 2 [] 1 0 [3] [(3,(iI 0))] V fun _=>?_
 let bb:Fp:=(fP b1 [(iI c.params),(iI c.regs),(sL al c.blocks.length av)])
 refine ah (fun(mm:Nat) f H'=> ∃(k:Nat) (F':Fz),Fz.le F F'/\HS (Base.of H []) F' H' [bb] R/\aA f [(1,(pT b1 0)),(3,(iI (k:Int)))]/\mm=c.blocks.length-k/\(k<=c.blocks.length)/\(∀j,j<k->blkV c.params c.regs (c.blocks.length:Int) (c.blocks.getD j default)=true)) _ ⟨0,_,fR,Z,(agC V (agC V agN)),V,(by first|assumption|omega|(simp at *;omega)),(by exact fb)⟩ ?_;rintro em f7 H7 ⟨k,F7,ad,ag,a9,rfl,hk,ha⟩ b8;refine ap _ a9 (fun _=>?_);clear a9;replace z:=z.mono ad;replace A:=A.mono ad;have f5:=hv k;refine aj 2 V ?_;refine bF 1 36 40 [] [(40,(.bool (decide ((k:Int)<(c.blocks.length:Int)))))] (Hr_ 2 0 Hn_) ag V V fun _=>?_
 refine az 4 5 (v:=(decide ((k:Int)<(c.blocks.length:Int)))) V V V V (fun c9=>?_) (fun c9=>?_)
 ·try simp only[BS]at c9
  refine aa ?_;obtain⟨an,a4⟩:=Sv.view (SR.sv A ag);obtain⟨b9,cc,ch,ci,E⟩:=BlkT.fx (a4 k);let bk:Value:=(aG [(sL (cA (an k) 0) (c.blocks.getD k default).ins.length (cK (an k) 0)),(iI (c.blocks.getD k default).fin),(iI (c.blocks.getD k default).reg),(iI (c.blocks.getD k default).tgt),(iI (c.blocks.getD k default).els)])
  refine bn 5 0 43 47 [] [(47,bk)] (Hr_ 1 0 (Ha_ (Sv.ix (j:=(k:Int)) (SR.sv A ag) M M) (Hl_ 4 (qn 43 0 5 (BlkT.vw (a4 k) M) V V V V) Hn_))) ag V V fun _=>?_
  refine zn ag V fun a8 d1 b3=>?_
  refine sgo 1 6 1 0 [] [] (Hr_ 6 1 Hn_) b3 V V fun c8 d2 ax=>?_
  refine ae 3 V ?_;refine aa ?_;let bl:Value:=(aG [(iI c.params),(iI c.regs),(sL al c.blocks.length av)])
  refine bn 2 0 48 49 [] [(48,bk),(49,bl)] (Hr_ 0 1 (Hr_ 1 0 Hn_)) ax V V fun _=>?_
  refine aH (aq V V V) V V (rEnd_c ex (⟨(c.blocks.getD k default).ins,(c.blocks.getD k default).fin,(c.blocks.getD k default).reg,(c.blocks.getD k default).tgt,(c.blocks.getD k default).els⟩:BlkT) (⟨c.params,c.regs,c.blocks⟩:VFnT) (HS.call ax) E M M M M M M A z) ?_;rintro _ d3 ⟨et,b6,U,ar,rfl,rfl⟩;replace ar:=HS.back ax V ar;replace z:=z.mono U;replace A:=A.mono U;replace E:=E.mono U;refine cj 1 3 51 51 [] [(51,(.bool (!(vendV ((⟨c.params,c.regs,c.blocks⟩:VFnT).blocks.length:Int) (⟨c.params,c.regs,c.blocks⟩:VFnT).regs (⟨(c.blocks.getD k default).ins,(c.blocks.getD k default).fin,(c.blocks.getD k default).reg,(c.blocks.getD k default).tgt,(c.blocks.getD k default).els⟩:BlkT)))))] Hn_ (by kernel_rfl) V fun _=>?_
  refine ae 1 V ?_;refine az 1 2 (v:=(!(vendV ((⟨c.params,c.regs,c.blocks⟩:VFnT).blocks.length:Int) (⟨c.params,c.regs,c.blocks⟩:VFnT).regs (⟨(c.blocks.getD k default).ins,(c.blocks.getD k default).fin,(c.blocks.getD k default).reg,(c.blocks.getD k default).tgt,(c.blocks.getD k default).els⟩:BlkT)))) V V V V (fun aw=>?_) (fun aw=>?_)
  ·try simp only[BS]at aw
   have h2:=aw;refine wT 1 [] 2 2 [] [(2,(.bool false))] V fun _=>?_
   refine am ⟨.inr V,_,V,false,_,(fT (ad) U),(HS.forget ar),V,(by exact iX (ej M (iW h2)))⟩
  try simp only[BS]at aw
  have e0:=aw;refine wT 2 [] 1 0 [5] [(5,(iI 0))] V fun _=>?_
  refine ah (fun(mm:Nat) f H'=> ∃(i:Nat) (F':Fz),Fz.le b6 F'/\HS (Base.of H []) F' H' [bb,(fP a8 [(sL (cA (an k) 0) (c.blocks.getD k default).ins.length (cK (an k) 0)),(iI (c.blocks.getD k default).fin),(iI (c.blocks.getD k default).reg),(iI (c.blocks.getD k default).tgt),(iI (c.blocks.getD k default).els)])] R/\aA f [(1,(pT b1 0)),(3,(iI (k:Int))),(4,(pT a8 0)),(5,(iI (i:Int)))]/\mm=(c.blocks.getD k default).ins.length-i/\(i<=(c.blocks.getD k default).ins.length)/\(∀j,j<i->fO c.params c.regs ((c.blocks.getD k default).ins.getD j default)=true)) _ ⟨0,_,fR,ar,(agC V (agC V (agC V (agC V agN)))),V,(by first|assumption|omega|(simp at *;omega)),(by exact fb)⟩ ?_;rintro ds ea d4 ⟨i,dt,a_,N,a3,rfl,hi,hb⟩ b4;refine ap _ a3 (fun _=>?_);clear a3;replace z:=z.mono a_;replace A:=A.mono a_;replace E:=E.mono a_;refine aj 2 V ?_;refine bF 1 52 56 [] [(56,(.bool (decide ((i:Int)<((c.blocks.getD k default).ins.length:Int)))))] (Hr_ 2 1 Hn_) N V V fun _=>?_
  refine az 4 5 (v:=(decide ((i:Int)<((c.blocks.getD k default).ins.length:Int)))) V V V V (fun a0=>?_) (fun a0=>?_)
  ·try simp only[BS]at a0
   refine aF V ?_;obtain⟨a1,a5⟩:=Sv.view (SR.sv E N);obtain⟨co,c0,c3,c5,c6,a7⟩:=VInT.fx (a5 i);refine d8 6 59 64 [] [(63,(aG [(iI ((c.blocks.getD k default).ins.getD i default).i.op),(iI ((c.blocks.getD k default).ins.getD i default).i.a),(iI ((c.blocks.getD k default).ins.getD i default).i.b),(iI ((c.blocks.getD k default).ins.getD i default).i.c),(iI ((c.blocks.getD k default).ins.getD i default).i.n),(sL (cA (a1 i) 5) ((c.blocks.getD k default).ins.getD i default).args.length (cK (a1 i) 5))])),(64,bl)] (Hr_ 1 1 (Ha_ (Sv.ix (j:=(i:Int)) (SR.sv E N) M M) (Hl_ 4 (qn 47 0 6 (hc0 (VInT.vw (a5 i) M)) V V V V) (Hr_ 5 0 Hn_)))) N V V fun _=>?_
   refine aN (W:=[]) (aq V V V) V V V (rinstr_c ex ((c.blocks.getD k default).ins.getD i default) (⟨c.params,c.regs,c.blocks⟩:VFnT) (HS.call N.log0) M M M M M a7 M M A z) (⟨.inl V,⟨.inl V,⟨.inl V,⟨.inl V,⟨.inl V,⟨.inl V,trivial⟩⟩⟩⟩⟩⟩) ?_;rintro _ b7 ⟨ez,dv,a2,T,rfl,rfl⟩;refine⟨Wr.did T.log,fun b5 a6=>?_⟩;replace T:=HS.back N.log0 V T;replace T:=HS.lg T N a6;generalize ({b7 with log:=b5}:Heap)=c7 at T⊢;refine aK (v:=(.bool (!(fO (⟨c.params,c.regs,c.blocks⟩:VFnT).params (⟨c.params,c.regs,c.blocks⟩:VFnT).regs ((c.blocks.getD k default).ins.getD i default))))) (id:= .v) (ap_not V) V V (fE V) (eE _) ?_;refine bB 1 V ?_;refine az 1 2 (v:=(!(fO (⟨c.params,c.regs,c.blocks⟩:VFnT).params (⟨c.params,c.regs,c.blocks⟩:VFnT).regs ((c.blocks.getD k default).ins.getD i default)))) V V V V (fun ay=>?_) (fun ay=>?_)
   ·try simp only[BS]at ay
    have h4:=ay;refine wT 1 [] 2 2 [] [(2,(.bool false))] V fun _=>?_
    refine am ⟨.inr V,_,V,false,_,(fT (fT (fT (ad) U) a_) a2),(HS.forget T),V,(by exact iX (ej M (blk_no (ej M h4))))⟩
   try simp only[BS]at ay
   refine wU 1 [] 57 58 [5] [(5,(iI ((i:Int)+1)))] (vi (n:=(i:Int)+1) M) V fun _=>?_
   refine b4 _ _ _ ?_ ⟨i+1,_,(fT (a_) a2),T,(agC V (agC V (agC V (agC V agN)))),V,(by first|assumption|omega|(simp at *;omega)),(by exact dz hb X)⟩;omega
  try simp only[BS]at a0
  have fd:=gm hb M;refine wU 1 [] 41 42 [3] [(3,(iI ((k:Int)+1)))] (vi (n:=(k:Int)+1) M) V fun _=>?_
  refine b8 _ _ _ ?_ ⟨k+1,_,(fT (fT (ad) U) a_),(HS.sub N (a02 _ _)),(agC V (agC V agN)),V,(by first|assumption|omega|(simp at *;omega)),(by exact dz ha (iV fd e0))⟩;omega
 try simp only[BS]at c9
 refine wT 1 [] 2 2 [] [(2,(.bool true))] V fun _=>?_
 refine am ⟨.inr V,_,V,true,_,(ad),(HS.forget ag),V,(by exact val_yes e1 (gm ha M))⟩
end Go.Proofs.YtgdggmlghemecaaDoor.m3
