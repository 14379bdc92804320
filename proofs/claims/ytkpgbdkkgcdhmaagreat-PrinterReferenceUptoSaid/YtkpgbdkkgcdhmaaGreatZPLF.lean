/-
 The law PrinterReference, by a symbolic run. No condition but that the program given dV at most 1048576 parts and letters.
-/
import Derived.Test.YtkpgbdkkgcdhmaaGreatZPLN
noncomputable section
namespace Go.Proofs.YtkpgbdkkgcdhmaaGreat.lf
open Go.R
set_option maxRecDepth 10000
set_option linter.unusedVariables false
set_option linter.unusedSimpArgs false
variable (ex:FuncId) {F:Fz} {H:Heap} {R:List Fp}
open w3 l1 pt ca
open cb hiding jl jn
open cc cd ta tb ga gb bk km kp
open da hiding jl jn
open db dc dd de df dg dh dp ln
theorem lit3{a b c:PrgT}{i:Nat}(hi:i<3)(A:GdB a)(E:GdB b)(hc:GdB c):GdB (([a,b,c]:List PrgT).getD i default):=by
 match i,hi with
 |0,_=>exact A
 |1,_=>exact E
 |2,_=>exact hc
theorem ex_c(H:Heap):C Tryz.prog 0 (KX ex) ex [] H fun v H'=> ∃(r:Bool),H'=H/\v= .bool r/\r=true:=
 c_known (by show(bif Nat.beq ex ex then some (Value.bool true) else none)=_;rw[a0Y];rfl) ⟨true,V,V,V⟩
theorem ex_c_q(H:Heap):C Tryz.prog 0 (KX ex) ex [] H fun v H'=>v= .bool true/\H'=H:=cq (ex_c ex H) (by rintro _ _ ⟨_,rfl,rfl,rfl⟩;exact⟨V,V⟩)
set_option maxHeartbeats 1600000 in
theorem pr_law{O:Option Addr}{Z:Nat}{E:Option Addr}{a_:Nat}(a3:PrgT){cv:Option Addr}{em:Nat}(l:List Int)(ee:Int)(d6:Int)(hs:HS (.of H []) F H [] R)(ax:SR F (sL E a3.arrs.length a_) a3.arrs)(aA:SR F (sL O a3.funs.length Z) a3.funs)(hl:SR F (sL cv l.length em) l)(g5:in64 ee)(g4:in64 d6)(g9:bkP a3<=1048576):C Tryz.prog 0 (KX 10) 3 [(aG [(sL E a3.arrs.length a_),(sL O a3.funs.length Z)]),(sL cv l.length em),(iI ee),(iI d6)] H fun v H'=> ∃(z:Bool) (F':Fz),Fz.le F F'/\HS (.of H []) F' H' [] R/\v= .bool z/\z=true:=by
 refine av Tryz.func3 V V ?_;refine ai 1 V ?_;refine ab ?_;refine bc (aX hs V V) V V ?_;rintro _ H2 _ ⟨b1,rfl,bl,_⟩;refine wa (.bool false) V V V ?_;refine ag 3 V ?_;refine aq V ?_;refine br 2 11 12 [] [(11,(aG [(sL E a3.arrs.length a_),(sL O a3.funs.length Z)])),(12,(sL cv l.length em))] (Hr_ 0 0 Hn_) bl V V fun _=>?_
 refine aK (W:=[]) (aH V V V) V V V (gb.gprog_c 10 l (HS.call bl.log0) hl) (⟨.inl V,⟨.inr a0a,trivial⟩⟩) ?_;rintro _ H4 ⟨x4,b6,c0,b8,c3,F4,bb,al,rfl,a0,a1,rfl⟩;refine⟨Wr.did al.log,fun d4 c7=>?_⟩;replace al:=HS.back bl.log0 V al;replace al:=HS.lg al bl c7;generalize ({H4 with log:=d4}:Heap)=e8 at al⊢;replace hl:=hl.mono bb;refine br 3 14 16 [] [(14,(sL cv l.length em)),(15,(iI ee)),(16,(iI d6))] Hn_ al V V fun _=>?_
 refine aK (W:=[]) (aH V V V) V V V (kp.mprog_c 10 l ee d6 (HS.call al.log0) hl (by first|omega|(dsimp only;omega)|(show _<(3:Int);omega)|(show _<3;omega)|(show(3:Int)<=_;omega)) (by first|omega|(dsimp only;omega)|(show _<(3:Int);omega)|(show _<3;omega)|(show(3:Int)<=_;omega))) (⟨.inl V,⟨.inl V,⟨.inl V,⟨.inl V,⟨.inl V,⟨.inr a0a,trivial⟩⟩⟩⟩⟩⟩) ?_;rintro _ H6 ⟨x6,b9,c4,ch,c5,F6,a4,a2,rfl,b0,b2,fk⟩;refine⟨Wr.did a2.log,fun d5 c8=>?_⟩;replace a2:=HS.back al.log0 V a2;replace a2:=HS.lg a2 al c8;generalize ({H6 with log:=d5}:Heap)=fb at a2⊢;replace ax:=(ax.mono bb).mono a4;replace aA:=(aA.mono bb).mono a4;replace a0:=a0.mono a4;replace a1:=a1.mono a4;refine zld ([a3,eQ l,x6]:List PrgT) a2 V (RL.cs ⟨E,a_,O,Z,V,ax,aA⟩ (RL.cs ⟨b6,c0,b8,c3,V,a0,a1⟩ (RL.cs ⟨b9,c4,ch,c5,V,b0,b2⟩ RL.nl))) V fun a7 k7 p7 fd bf c6=>?_
 refine br 2 19 20 [] [(19,(iI 3)),(20,(iI 0))] Hn_ c6 V V fun _=>?_
 refine aO 2 V ?_;refine aj (fun(mm:Nat) f H'=> ∃(i:Nat) (F':Fz),Fz.le F6 F'/\HS (Base.of H []) F' H' [(fP b1 [(sL E a3.arrs.length a_),(sL O a3.funs.length Z)]),p7] R/\aC f [(18,(sL a7 ([a3,eQ l,x6]:List PrgT).length k7)),(19,(iI 3)),(20,(iI (i:Int)))]/\mm=3-i/\(i<=3)) _ ⟨0,_,fR,c6,(agC V (agC V (agC V agN))),V,(by first|assumption|omega|(simp at *;omega))⟩ ?_;rintro e1 fi dt ⟨i,e3,a6,a9,bF,rfl,hi⟩ dk;refine ap _ bF (fun _=>?_);clear bF;replace bf:=bf.mono a6;refine ai 1 V ?_;refine wT 2 [] 21 21 [] [(21,(.bool (decide ((i:Int)<3))))] V fun _=>?_
 refine wk_if 4 5 (v:=(decide ((i:Int)<3))) V V V V (fun bn=>?_) (fun bn=>?_)
 ·try simp only[BS]at bn
  have zg:GdB (([a3,eQ l,x6]:List PrgT).getD i default):=lit3 M (GdB.of M X X) (GdB.of bk_gen X X) (GdB.of M X X);refine ab ?_;obtain⟨a5,b3⟩:=Sv.view (OS.sv bf a9 (i:=1) V);obtain⟨an,ar⟩:=PrgT.fx (b3 i);let b4:Value:=(aG [(sL (cA (a5 i) 0) (([a3,eQ l,x6]:List PrgT).getD i default).arrs.length (cK (a5 i) 0)),(sL (cA (a5 i) 1) (([a3,eQ l,x6]:List PrgT).getD i default).funs.length (cK (a5 i) 1))])
  refine bV 2 0 22 23 [] [(23,b4)] (Ha_ (Sv.ix (j:=(i:Int)) (OS.sv bf a9 (i:=1) V) (by first|omega|(dsimp only;omega)|(show _<(3:Int);omega)|(show _<3;omega)|(show(3:Int)<=_;omega)) (show(i:Int)<(3:Int) from by first|omega|(dsimp only;omega)|(show _<(3:Int);omega)|(show _<3;omega)|(show(3:Int)<=_;omega))) (Hl_ 1 (qn 25 0 2 (PrgT.vw (b3 i) (show i<3 from by first|omega|(dsimp only;omega)|(show _<(3:Int);omega)|(show _<3;omega)|(show(3:Int)<=_;omega))) V V V V) Hn_)) (by kernel_rfl) V fun _=>?_
  refine zn a9 V fun d3 e6 c9=>?_
  refine sgo 1 3 1 0 [] [] (Hr_ 3 2 Hn_) c9 V V fun ez e7 ba=>?_
  refine ag 2 V ?_;refine aq V ?_;refine br 1 24 24 [] [(24,b4)] (Hr_ 0 2 Hn_) ba V V fun _=>?_
  refine aK (W:=[]) (aH V V V) V V V (dh.print5_c 10 (([a3,eQ l,x6]:List PrgT).getD i default) (HS.call ba.log0) an ar (by first|exact zg.nm|exact zg.sn|exact zg.len5) (by first|exact zg.nm|exact zg.sn|exact zg.len5) (by first|exact zg.nm|exact zg.sn|exact zg.len5)) (⟨.inl V,trivial⟩) ?_;rintro _ d1 ⟨fq,e4,a8,A,rfl,rfl⟩;refine⟨Wr.did A.log,fun dn ci=>?_⟩;replace A:=HS.back ba.log0 V A;replace A:=HS.lg A ba ci;generalize ({d1 with log:=dn}:Heap)=d7 at A⊢;replace an:=an.mono a8;replace ar:=ar.mono a8;refine aM (v:=b4) (id:= .l d3) (en (i:=0) V V V (HS.hc A.log0 (i:=2) V) V V V) V V (eR V) (⟨.inr a0a,⟨.inr trivial,trivial⟩⟩) ?_;refine aK (W:=[]) (aH V V V) V V V (tb.rprint_c 10 (([a3,eQ l,x6]:List PrgT).getD i default) (HS.call A.log0) an ar (by first|exact zg.sn|exact zg.nb|exact zg.len1) (by first|exact zg.sn|exact zg.nb|exact zg.len1) (by first|exact zg.sn|exact zg.nb|exact zg.len1)) (⟨.inl V,⟨.inl V,⟨.inl V,trivial⟩⟩⟩) ?_;rintro _ d2 ⟨fu,e5,bw,U,rfl,rfl⟩;refine⟨Wr.did U.log,fun ds co=>?_⟩;replace U:=HS.back A.log0 V U;replace U:=HS.lg U A co;generalize ({d2 with log:=ds}:Heap)=d8 at U⊢;refine aM (v:=(.bool ((prT5 (([a3,eQ l,x6]:List PrgT).getD i default)) !=(prT (([a3,eQ l,x6]:List PrgT).getD i default))))) (id:= .v) (ap_neS V V) V V (iz V) (fp _) ?_;refine aO 1 V ?_;refine wk_if 1 2 (v:=((prT5 (([a3,eQ l,x6]:List PrgT).getD i default)) !=(prT (([a3,eQ l,x6]:List PrgT).getD i default)))) V V V V (fun bt=>?_) (fun bt=>?_)
  ·try simp only[BS]at bt
   refine wT 1 [] 8 8 [] [(8,(.bool false))] V fun _=>?_
   refine ae ⟨.inr V,_,V,false,_,(fT (fT (fT (fT (bb) a4) a6) a8) bw),(HS.forget U),V,(by first|rfl|exact absurd (prs_eq _) X)⟩
  try simp only[BS]at bt
  refine wU 1 [] 20 20 [29] [(20,(iI ((i:Int)+1)))] (vi (n:=(i:Int)+1) (by first|omega|(dsimp only;omega)|(show _<(3:Int);omega)|(show _<3;omega)|(show(3:Int)<=_;omega))) V fun _=>?_
  refine dk _ _ _ ?_ ⟨i+1,_,(fT (fT (a6) a8) bw),(HS.sub U (a05 _ _)),(agC V (agC V (agC V agN))),V,(by first|assumption|omega|(simp at *;omega))⟩;omega
 try simp only[BS]at bn
 refine wU 1 [(0,.o (.bool true))] 8 8 [30] [(8,(.bool true))] (ex_c_q 10 dt) V fun _=>?_
 refine ae ⟨.inr V,_,V,true,_,(fT (fT (bb) a4) a6),(HS.forget a9),V,(by first|rfl|exact absurd (prs_eq _) X)⟩
end Go.Proofs.YtkpgbdkkgcdhmaaGreat.lf
