/-
 The law PrinterNonempty, by a symbolic run. No condition but that the program given dQ at most 1048576 parts and letters.
-/
import Derived.Test.YtkpgbdkkgcdhmaaZNNP
noncomputable section
namespace Go.Proofs.Ytkpgbdkkgcdhmaa.lx
open Go.R
set_option maxRecDepth 10000
set_option linter.unusedVariables false
set_option linter.unusedSimpArgs false
variable (ex:FuncId) {F:Fz} {H:Heap} {R:List Fp}
open w3 l1 pt ca
open cb hiding jl jn
open cc cd ta tb ga gb bk km kp
open da hiding jl jn
open db dc dd de df dg dh dp ln np
theorem lit2{P:PrgT->Prop}{a b:PrgT}{i:Nat}(hi:i<2)(A:P a)(E:P b):P (([a,b]:List PrgT).getD i default):=by
 match i,hi with
 |0,_=>exact A
 |1,_=>exact E
theorem ex_c(H:Heap):C Try.prog 0 (KX ex) ex [] H fun v H'=> ∃(r:Bool),H'=H/\v= .bool r/\r=true:=
 c_known (by show(bif Nat.beq ex ex then some (Value.bool true) else none)=_;rw[a0Z];rfl) ⟨true,V,V,V⟩
theorem ex_c_q(H:Heap):C Try.prog 0 (KX ex) ex [] H fun v H'=>v= .bool true/\H'=H:=cq (ex_c ex H) (by rintro _ _ ⟨_,rfl,rfl,rfl⟩;exact⟨V,V⟩)
set_option maxHeartbeats 1600000 in
theorem pn_law{O:Option Addr}{a_:Nat}{E:Option Addr}{U:Nat}(b4:PrgT){c6:Option Addr}{c8:Nat}(l:List Int)(c5:Int)(cv:Int)(hs:HS (.of H []) F H [] R)(ax:SR F (sL E b4.arrs.length U) b4.arrs)(aA:SR F (sL O b4.funs.length a_) b4.funs)(hl:SR F (sL c6 l.length c8) l)(fq:in64 c5)(fi:in64 cv)(f2:bkP b4<=1048576):C Try.prog 0 (KX 7) 3 [(aG [(sL E b4.arrs.length U),(sL O b4.funs.length a_)]),(sL c6 l.length c8),(iI c5),(iI cv)] H fun v H'=> ∃(z:Bool) (F':Fz),Fz.le F F'/\HS (.of H []) F' H' [] R/\v= .bool z/\z=true:=by
 refine aI Try.func3 V V ?_;refine ap 1 V ?_;refine ad ?_;refine ce (b5 hs V V) V V ?_;rintro _ H2 _ ⟨b1,rfl,ba,_⟩;refine wa (.bool false) V V V ?_;refine am 3 V ?_;refine aH V ?_;refine dy 4 13 16 [] [(13,(aG [(sL E b4.arrs.length U),(sL O b4.funs.length a_)])),(14,(sL c6 l.length c8)),(15,(iI c5)),(16,(iI cv))] (Hr_ 0 0 Hn_) ba V V fun _=>?_
 refine bN (W:=[]) (aq V V V) V V V (kp.mprog_c 7 l c5 cv (HS.call ba.log0) hl (by first|omega|(dsimp only;omega)|(have:=a0S.2 Z;omega)|(show _<(2:Int);omega)|(show _<2;omega)|(show(2:Int)<=_;omega)) (by first|omega|(dsimp only;omega)|(have:=a0S.2 Z;omega)|(show _<(2:Int);omega)|(show _<2;omega)|(show(2:Int)<=_;omega))) (⟨.inl V,⟨.inl V,⟨.inl V,⟨.inr a0l,trivial⟩⟩⟩⟩) ?_;rintro _ H4 ⟨A,b2,b6,b3,b8,F4,a7,a1,rfl,bt,bw,ee⟩;refine⟨Wr.did a1.log,fun c3 ci=>?_⟩;replace a1:=HS.back ba.log0 V a1;replace a1:=HS.lg a1 ba ci;generalize ({H4 with log:=c3}:Heap)=d6 at a1⊢;replace ax:=ax.mono a7;replace aA:=aA.mono a7;refine zld ([b4,A]:List PrgT) a1 V (RL.cs ⟨E,U,O,a_,V,ax,aA⟩ (RL.cs ⟨b2,b6,b3,b8,V,bt,bw⟩ RL.nl)) V fun a5 k5 p5 d7 a9 ch=>?_
 refine dy 2 19 20 [] [(19,(iI 2)),(20,(iI 0))] Hn_ ch V V fun _=>?_
 refine bC 2 V ?_;refine au (fun(mm:Nat) f H'=> ∃(i:Nat) (F':Fz),Fz.le F4 F'/\HS (Base.of H []) F' H' [(fP b1 [(sL E b4.arrs.length U),(sL O b4.funs.length a_)]),p5] R/\aM f [(18,(sL a5 ([b4,A]:List PrgT).length k5)),(19,(iI 2)),(20,(iI (i:Int)))]/\mm=2-i/\(i<=2)) _ ⟨0,_,fR,ch,(agC V (agC V (agC V agN))),V,(by first|assumption|omega|(simp at *;omega))⟩ ?_;rintro em f8 H8 ⟨i,F8,a8,bb,b9,rfl,hi⟩ c0;refine aF _ b9 (fun _=>?_);clear b9;replace a9:=a9.mono a8;refine ap 1 V ?_;refine wT 2 [] 21 21 [] [(21,(.bool (decide ((i:Int)<2))))] V fun _=>?_
 refine ao 4 5 (v:=(decide ((i:Int)<2))) V V V V (fun bf=>?_) (fun bf=>?_)
 ·try simp only[BS]at bf
  have zg:GdB (([b4,A]:List PrgT).getD i default):=lit2 M (GdB.of M X X) (GdB.of M X X);have zc:=cnt zg;have zl:=pl5 zg;refine ad ?_;obtain⟨a3,bF⟩:=Sv.view (OS.sv a9 bb (i:=1) V);obtain⟨an,ar⟩:=PrgT.fx (bF i);let b0:Value:=(aG [(sL (cA (a3 i) 0) (([b4,A]:List PrgT).getD i default).arrs.length (cK (a3 i) 0)),(sL (cA (a3 i) 1) (([b4,A]:List PrgT).getD i default).funs.length (cK (a3 i) 1))])
  refine dG 2 0 22 23 [] [(23,b0)] (Ha_ (Sv.ix (j:=(i:Int)) (OS.sv a9 bb (i:=1) V) (by first|omega|(dsimp only;omega)|(have:=a0S.2 Z;omega)|(show _<(2:Int);omega)|(show _<2;omega)|(show(2:Int)<=_;omega)) (show(i:Int)<(2:Int) from by first|omega|(dsimp only;omega)|(have:=a0S.2 Z;omega)|(show _<(2:Int);omega)|(show _<2;omega)|(show(2:Int)<=_;omega))) (Hl_ 1 (qn 25 0 2 (PrgT.vw (bF i) (show i<2 from by first|omega|(dsimp only;omega)|(have:=a0S.2 Z;omega)|(show _<(2:Int);omega)|(show _<2;omega)|(show(2:Int)<=_;omega))) V V V V) Hn_)) (by kernel_rfl) V fun _=>?_
  refine zn bb V fun d8 d2 co=>?_
  refine sgo 1 3 1 0 [] [] (Hr_ 3 2 Hn_) co V V fun dk d3 a6=>?_
  refine am 2 V ?_;refine ad ?_;refine du 1 0 24 24 [] [(24,b0)] (Hr_ 0 2 Hn_) a6 V V fun _=>?_
  refine ay (aq V V V) V V (dh.print5_c 7 (([b4,A]:List PrgT).getD i default) (HS.call a6) an ar (by first|exact zg.nm|exact zg.sn|exact zg.len5) (by first|exact zg.nm|exact zg.sn|exact zg.len5) (by first|exact zg.nm|exact zg.sn|exact zg.len5)) ?_;rintro _ d4 ⟨ex,dt,a4,a0,rfl,rfl⟩;replace a0:=HS.back a6 V a0;replace an:=an.mono a4;replace ar:=ar.mono a4;refine wa (tX (eZ (([b4,A]:List PrgT).getD i default))) V V V ?_;refine am 2 V ?_;refine ad ?_;refine du 1 0 26 26 [] [(26,b0)] (Hr_ 0 2 Hn_) a0 V V fun _=>?_
  refine ay (aq V V V) V V (df.check5_c 7 (([b4,A]:List PrgT).getD i default) (HS.call a0) an ar (by exact zg.nm)) ?_;rintro _ d5 ⟨et,d1,bn,al,rfl,rfl⟩;replace al:=HS.back a0 V al;refine dG 12 2 28 38 [12] [(12,(.bool ((ckP (([b4,A]:List PrgT).getD i default)==0)&&(decide ((0:Int)<((([b4,A]:List PrgT).getD i default).arrs.length:Int)+((([b4,A]:List PrgT).getD i default).funs.length:Int))))))] (ff 5 (fun _=>(ql 22 0 (HS.hc al (i:=2) V) V V)) (ff 8 (fun _=>(ql 23 1 (HS.hc al (i:=2) V) V V)) (Ha_ (fun(Z:(ckP (([b4,A]:List PrgT).getD i default)==0)=true)=>(vi (n:=((([b4,A]:List PrgT).getD i default).arrs.length:Int)+((([b4,A]:List PrgT).getD i default).funs.length:Int)) (by(try simp only[BS]at Z);(first|omega|(dsimp only;omega)|(have:=a0S.2 Z;omega)|(show _<(2:Int);omega)|(show _<2;omega)|(show(2:Int)<=_;omega))))) Hn_))) V V fun _=>?_
  refine am 2 V ?_;have c4:=kJ ((eZ (([b4,A]:List PrgT).getD i default)).getD ((((eZ (([b4,A]:List PrgT).getD i default)).length:Int)-1).toNat) 0);refine wR 1 [] 39 54 [] [(54,(.bool ((((eZ (([b4,A]:List PrgT).getD i default)) !=([]:List UInt8)) !=((ckP (([b4,A]:List PrgT).getD i default)==0)&&(decide ((0:Int)<((([b4,A]:List PrgT).getD i default).arrs.length:Int)+((([b4,A]:List PrgT).getD i default).funs.length:Int)))))||(((eZ (([b4,A]:List PrgT).getD i default)) !=([]:List UInt8))&&((((eZ (([b4,A]:List PrgT).getD i default)).getD ((((eZ (([b4,A]:List PrgT).getD i default)).length:Int)-1).toNat) 0).toNat:Int) !=10)))))] (vA (fun(Z:((eZ (([b4,A]:List PrgT).getD i default)) !=([]:List UInt8))=true) (g2:(((eZ (([b4,A]:List PrgT).getD i default)) !=([]:List UInt8)) !=((ckP (([b4,A]:List PrgT).getD i default)==0)&&(decide ((0:Int)<((([b4,A]:List PrgT).getD i default).arrs.length:Int)+((([b4,A]:List PrgT).getD i default).funs.length:Int)))))=false)=>(vi (n:=((eZ (([b4,A]:List PrgT).getD i default)).length:Int)-1) (by(try simp only[BS]at Z g2);(first|omega|(dsimp only;omega)|(have:=a0S.2 Z;omega)|(show _<(2:Int);omega)|(show _<2;omega)|(show(2:Int)<=_;omega))))) (vA (fun(Z:((eZ (([b4,A]:List PrgT).getD i default)) !=([]:List UInt8))=true) (g2:(((eZ (([b4,A]:List PrgT).getD i default)) !=([]:List UInt8)) !=((ckP (([b4,A]:List PrgT).getD i default)==0)&&(decide ((0:Int)<((([b4,A]:List PrgT).getD i default).arrs.length:Int)+((([b4,A]:List PrgT).getD i default).funs.length:Int)))))=false)=>(vA (show(0:Int)<=((eZ (([b4,A]:List PrgT).getD i default)).length:Int)-1 from by(try simp only[BS]at Z g2);(first|omega|(dsimp only;omega)|(have:=a0S.2 Z;omega)|(show _<(2:Int);omega)|(show _<2;omega)|(show(2:Int)<=_;omega))) (show((eZ (([b4,A]:List PrgT).getD i default)).length:Int)-1<(((eZ (([b4,A]:List PrgT).getD i default):List UInt8).length:Nat):Int) from by(try simp only[BS]at Z g2);(first|omega|(dsimp only;omega)|(have:=a0S.2 Z;omega)|(show _<(2:Int);omega)|(show _<2;omega)|(show(2:Int)<=_;omega))))) trivial)) V fun _=>?_
  refine ao 1 2 (v:=((((eZ (([b4,A]:List PrgT).getD i default)) !=([]:List UInt8)) !=((ckP (([b4,A]:List PrgT).getD i default)==0)&&(decide ((0:Int)<((([b4,A]:List PrgT).getD i default).arrs.length:Int)+((([b4,A]:List PrgT).getD i default).funs.length:Int)))))||(((eZ (([b4,A]:List PrgT).getD i default)) !=([]:List UInt8))&&((((eZ (([b4,A]:List PrgT).getD i default)).getD ((((eZ (([b4,A]:List PrgT).getD i default)).length:Int)-1).toNat) 0).toNat:Int) !=10)))) V V V V (fun a2=>?_) (fun a2=>?_)
  ·have bl:=a2;try simp only[BS]at bl
   have c7:=bad_ a2;refine wT 1 [] 8 8 [] [(8,(.bool false))] V fun _=>?_
   refine ag ⟨.inr V,_,V,false,_,(fT (fT (fT (a7) a8) a4) bn),(HS.forget al),V,(by first|rfl|exact c7.elim)⟩
  have bl:=a2;try simp only[BS]at bl
  refine wU 1 [] 20 20 [55] [(20,(iI ((i:Int)+1)))] (vi (n:=(i:Int)+1) (by first|omega|(dsimp only;omega)|(have:=a0S.2 Z;omega)|(show _<(2:Int);omega)|(show _<2;omega)|(show(2:Int)<=_;omega))) V fun _=>?_
  refine c0 _ _ _ ?_ ⟨i+1,_,(fT (fT (a8) a4) bn),(HS.sub al (a06 _ _)),(agC V (agC V (agC V agN))),V,(by first|assumption|omega|(simp at *;omega))⟩;omega
 try simp only[BS]at bf
 refine wU 1 [(0,.o (.bool true))] 8 8 [56] [(8,(.bool true))] (ex_c_q 7 H8) V fun _=>?_
 refine ag ⟨.inr V,_,V,true,_,(fT (a7) a8),(HS.forget bb),V,(by first|rfl|exact c7.elim)⟩
end Go.Proofs.Ytkpgbdkkgcdhmaa.lx
