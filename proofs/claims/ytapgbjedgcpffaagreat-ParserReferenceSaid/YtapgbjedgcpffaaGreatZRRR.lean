/-
 The law ParserReference, by a symbolic run. No condition.
-/
import Derived.Test.YtapgbjedgcpffaaGreatZRSC
import Derived.Test.YtapgbjedgcpffaaGreatZRGT
noncomputable section
namespace Go.Proofs.YtapgbjedgcpffaaGreat.rr_
open Go.R
set_option maxRecDepth 10000
set_option linter.unusedVariables false
set_option linter.unusedSimpArgs false
variable (ex:FuncId) {F:Fz} {H:Heap} {R:List Fp}
open w3 l1 pt pg rc gt
open cb (jl jn)
abbrev zRR1:List Str:=[⟨[97,114,114,97,121]⟩,⟨[102,117,110,99]⟩,⟨[118,97,114]⟩,⟨[114,101,116,117,114,110]⟩,⟨[105,102]⟩,⟨[101,108,115,101]⟩,⟨[119,104,105,108,101]⟩,⟨[111,117,116]⟩,⟨[116,114,97,112]⟩,⟨[97]⟩,⟨[102]⟩,⟨[120]⟩,⟨[40]⟩,⟨[41]⟩,⟨[123]⟩,⟨[125]⟩,⟨[91]⟩,⟨[93]⟩,⟨[59]⟩,⟨[44]⟩,⟨[61]⟩,⟨[63]⟩,⟨[58]⟩,⟨[43]⟩,⟨[45]⟩,⟨[42]⟩,⟨[47]⟩,⟨[60]⟩,⟨[62]⟩,⟨[62,61]⟩,⟨[62,62,62]⟩,⟨[33]⟩,⟨[126]⟩,⟨[48]⟩,⟨[49]⟩,⟨[56]⟩,⟨[49,48,48,48,48,48,49]⟩,⟨[57,50,50,51,51,55,50,48,51,54,56,53,52,55,55,53,56,48,56]⟩,⟨[102,117,110,99,32,102,32,40,32,120,32,41,32,123]⟩,⟨[114,101,116,117,114,110,32,120,32,59,32,125]⟩,⟨[120,32,61,32,102,32,40,32,49,32,41,32,59]⟩]
theorem lit4{a b c d:List UInt8}{i:Nat}(hi:i<4)(ha:a.length<=500000)(hb:b.length<=500000)(hc:c.length<=500000)(hd:d.length<=500000):(([⟨a⟩,⟨b⟩,⟨c⟩,⟨d⟩]:List Str).getD i default).b.length<=500000:=by
 match i,hi with
 |0,_=>exact ha
 |1,_=>exact hb
 |2,_=>exact hc
 |3,_=>exact hd
def allK:List Str:=[⟨[97,114,114,97,121]⟩,⟨[102,117,110,99]⟩,⟨[118,97,114]⟩,⟨[114,101,116,117,114,110]⟩,⟨[105,102]⟩,⟨[101,108,115,101]⟩,⟨[119,104,105,108,101]⟩,⟨[111,117,116]⟩,⟨[116,114,97,112]⟩,⟨[97]⟩,⟨[102]⟩,⟨[120]⟩,⟨[40]⟩,⟨[41]⟩,⟨[123]⟩,⟨[125]⟩,⟨[91]⟩,⟨[93]⟩,⟨[59]⟩,⟨[44]⟩,⟨[61]⟩,⟨[63]⟩,⟨[58]⟩,⟨[43]⟩,⟨[45]⟩,⟨[42]⟩,⟨[47]⟩,⟨[60]⟩,⟨[62]⟩,⟨[62,61]⟩,⟨[62,62,62]⟩,⟨[33]⟩,⟨[126]⟩,⟨[48]⟩,⟨[49]⟩,⟨[56]⟩,⟨[49,48,48,48,48,48,49]⟩,⟨[57,50,50,51,51,55,50,48,51,54,56,53,52,55,55,53,56,48,56]⟩,⟨[102,117,110,99,32,102,32,40,32,120,32,41,32,123]⟩,⟨[114,101,116,117,114,110,32,120,32,59,32,125]⟩,⟨[120,32,61,32,102,32,40,32,49,32,41,32,59]⟩]
theorem cy{k:Nat}:(allK.getD k default).b.length<=19:=by
 have h: ∀s∈allK,s.b.length<=19:=by decide
 rcases a0c k allK.length with q|q
 ·exact h _ (ca.eJ q)
 rw[bh q];decide
theorem ap1{s x:List UInt8}{i:Nat}(h:s.length<=20 *i)(hi:i<30)(E:x.length<=19):s.length+x.length<=1099511627776:=M
theorem ap2{s x:List UInt8}{i:Nat}(h:s.length<=20 *i)(hi:i<30)(E:x.length<=19):(s++x).length+([32]:List UInt8).length<=1099511627776:=by rw[a00];simp only[a02,List.length_nil];omega
theorem ap3{s x:List UInt8}{i:Nat}(h:s.length<=20 *i)(E:x.length<=19):((s++x)++([32]:List UInt8)).length<=20 *(i+1):=by rw[a00,a00];simp only[a02,List.length_nil];omega
theorem ex_c(H:Heap):C Tryz.prog 0 (KX ex) ex [] H fun v H'=> ∃(r:Bool),H'=H/\v= .bool r/\r=true:=
 c_known (by show(bif Nat.beq ex ex then some (Value.bool true) else none)=_;rw[a0M];rfl) ⟨true,V,V,V⟩
theorem ex_c_q(H:Heap):C Tryz.prog 0 (KX ex) ex [] H fun v H'=>v= .bool true/\H'=H:=cq (ex_c ex H) (by rintro _ _ ⟨_,rfl,rfl,rfl⟩;exact⟨V,V⟩)
theorem tokens_c{al:Option Addr}{ar:Nat}(l:List Int)(hs:HS (.of H []) F H [] R)(hl:SR F (sL al l.length ar) l):C Tryz.prog 0 (KX 4) 5 [(sL al l.length ar)] H fun v H'=> ∃(r:List UInt8) (F':Fz),Fz.le F F'/\HS (.of H []) F' H' [] R/\v=tX r/\(r.length<=600):=by
 refine av Tryz.func5 V V ?_;refine ai 1 V ?_;refine wT 2 [] 2 2 [] [(2,(tX []))] V fun _=>?_
 refine ab ?_;refine zlo zRR1 hs V j_ V fun a2 k2 p2 H3 U a0=>?_
 refine wa (sL a2 zRR1.length k2) V V V ?_;refine ah 2 V ?_;refine wT 3 [] 1 0 [4] [(4,(tX []))] V fun _=>?_
 refine wT 2 [] 1 0 [5] [(5,(iI 0))] V fun _=>?_
 refine aq (fun(mm:Nat) f H'=> ∃(s:List UInt8) (i:Nat) (F':Fz),Fz.le F F'/\HS (Base.of H []) F' H' [p2] R/\aJ f [(0,(sL al l.length ar)),(3,(sL a2 zRR1.length k2)),(4,(tX s)),(5,(iI (i:Int)))]/\mm=30-i/\(s.length<=20 *i)/\(i<=30)) _ ⟨[],0,_,fR,a0,(agC V (agC V (agC V (agC V agN)))),V,(by exact a0l _),(by first|assumption|omega|(simp at *;omega))⟩ ?_;rintro a8 f6 H6 ⟨s,i,F6,T,O,Y,rfl,E,h4⟩ a1;refine az _ Y (fun _=>?_);clear Y;replace hl:=hl.mono T;replace U:=U.mono T;refine ai 2 V ?_;refine wT 1 [] 7 14 [] [(14,(.bool ((decide ((i:Int)<(l.length:Int)))&&(decide ((i:Int)<30)))))] V fun _=>?_
 refine wk_if 3 5 (v:=((decide ((i:Int)<(l.length:Int)))&&(decide ((i:Int)<30)))) V V V V (fun c8=>?_) (fun c8=>?_)
 ·try simp only[BS]at c8
  have pr:=ga.nj (n:=l.getD i 0) (m:=41) e_;obtain⟨a6,Z⟩:=Sv.view (SR.sv hl O);have a7:=fI (Z i);obtain⟨a4,an⟩:=Sv.view (OS.sv U O (i:=0) V);refine wrp 2 17 29 [4] [(4,(tX ((s++(zRR1.getD (gU (l.getD i 0) (41:Int)).toNat default).b)++[32])))] (Ha_ (Sv.ix (j:=(i:Int)) (SR.sv hl O) (by first|omega|exact ap1 E M cy|exact ap2 E M cy|(simp only[a00];omega)|(simp only[a02,List.length_nil];omega)|(simp only[a00,a02,List.length_nil];omega)) (by first|omega|exact ap1 E M cy|exact ap2 E M cy|(simp only[a00];omega)|(simp only[a02,List.length_nil];omega)|(simp only[a00,a02,List.length_nil];omega))) (Hl_ 5 (ql 3 0 (vI (Z i) (by first|omega|exact ap1 E M cy|exact ap2 E M cy|(simp only[a00];omega)|(simp only[a02,List.length_nil];omega)|(simp only[a00,a02,List.length_nil];omega))) V V) (Hc_ 8 (l1.pick_c_q 4 (l.getD i 0) (41) H6 (by first|omega|exact ap1 E M cy|exact ap2 E M cy|(simp only[a00];omega)|(simp only[a02,List.length_nil];omega)|(simp only[a00,a02,List.length_nil];omega))) (Ha_ (Sv.ix (j:=gU (l.getD i 0) (41:Int)) (OS.sv U O (i:=0) V) (by first|omega|exact ap1 E M cy|exact ap2 E M cy|(simp only[a00];omega)|(simp only[a02,List.length_nil];omega)|(simp only[a00,a02,List.length_nil];omega)) (show gU (l.getD i 0) (41:Int)<(41:Int) from by first|omega|exact ap1 E M cy|exact ap2 E M cy|(simp only[a00];omega)|(simp only[a02,List.length_nil];omega)|(simp only[a00,a02,List.length_nil];omega))) (Hl_ 10 (ql 9 0 (vS (an (gU (l.getD i 0) (41:Int)).toNat) (show(gU (l.getD i 0) (41:Int)).toNat<41 from by first|omega|exact ap1 E M cy|exact ap2 E M cy|(simp only[a00];omega)|(simp only[a02,List.length_nil];omega)|(simp only[a00,a02,List.length_nil];omega))) V V) (Ha_ (show(s:List UInt8).length+((zRR1.getD (gU (l.getD i 0) (41:Int)).toNat default).b:List UInt8).length<=1099511627776 from by first|omega|exact ap1 E M cy|exact ap2 E M cy|(simp only[a00];omega)|(simp only[a02,List.length_nil];omega)|(simp only[a00,a02,List.length_nil];omega)) (Ha_ (show(s++(zRR1.getD (gU (l.getD i 0) (41:Int)).toNat default).b:List UInt8).length+([32]:List UInt8).length<=1099511627776 from by first|omega|exact ap1 E M cy|exact ap2 E M cy|(simp only[a00];omega)|(simp only[a02,List.length_nil];omega)|(simp only[a00,a02,List.length_nil];omega)) Hn_))))))) (by kernel_rfl) V fun _=>?_
  refine wU 1 [] 15 16 [5] [(5,(iI ((i:Int)+1)))] (vi (n:=(i:Int)+1) (by first|omega|exact ap1 E M cy|exact ap2 E M cy|(simp only[a00];omega)|(simp only[a02,List.length_nil];omega)|(simp only[a00,a02,List.length_nil];omega))) V fun _=>?_
  refine a1 _ _ _ ?_ ⟨(s++(zRR1.getD (gU (l.getD i 0) (41:Int)).toNat default).b)++[32],i+1,_,(T),O,(agC V (agC V (agC V (agC V agN)))),V,(by exact ap3 E cy),(by first|assumption|omega|(simp at *;omega))⟩;omega
 try simp only[BS]at c8
 refine wT 1 [] 2 2 [30] [(2,(tX s))] V fun _=>?_
 refine ae ⟨.inr V,_,V,s,_,(T),(HS.forget O),V,(by first|assumption|omega|simp_all)⟩
set_option maxHeartbeats 1600000 in
theorem pref_law(ar:List UInt8){a4:Option Addr}{cl:Nat}(l:List Int)(cv:Int)(at_:Int)(hs:HS (.of H []) F H [] R)(hl:SR F (sL a4 l.length cl) l)(hw:in64 cv)(hv:in64 at_):C Tryz.prog 0 (KX 4) 3 [(tX ar),(sL a4 l.length cl),(iI cv),(iI at_)] H fun v H'=> ∃(z:Bool) (F':Fz),Fz.le F F'/\HS (.of H []) F' H' [] R/\v= .bool z/\z=true:=by
 refine av Tryz.func3 V V ?_;refine ai 1 V ?_;refine wT 3 [] 8 8 [] [(8,(.bool false))] V fun _=>?_
 refine wT 1 [] 15 17 [] [(17,(.bool (decide ((300:Int)<(ar.length:Int)))))] V fun _=>?_
 refine wk_if 1 3 (v:=(decide ((300:Int)<(ar.length:Int)))) V V V V (fun c3=>?_) (fun c3=>?_)
 ·try simp only[BS]at c3
  refine wU 1 [(0,.o (.bool true))] 8 8 [18] [(8,(.bool true))] (ex_c_q 4 H) V fun _=>?_
  refine ae ⟨.inr V,_,V,true,_,fR,(HS.forget hs),V,(by first|rfl|(exfalso;have q:=(ParR.uniq a5 a6).2;simp_all))⟩
 try simp only[BS]at c3
 refine ab ?_;refine wTo 2 0 [] 19 20 [] [(19,(tX ar)),(20,(sL a4 l.length cl))] V fun _=>?_
 refine e9 (aX V V V) V V (tokens_c l (HS.call hs) hl) ?_;rintro _ H6 ⟨r6,F6,ci,bb,rfl,h6⟩;replace bb:=HS.back hs V bb;replace hl:=hl.mono ci;refine wTo 3 3 [] 22 24 [] [(22,(sL a4 l.length cl)),(23,(iI cv)),(24,(iI at_))] V fun _=>?_
 refine e9 (aX V V V) V V (gt.gtext_c 4 l cv at_ (HS.call bb) hl (by first|omega|(dsimp only;omega)|(show _<(4:Int);omega)|(show _<4;omega)|(show(4:Int)<=_;omega)|(simp only[a00];omega)) (by first|omega|(dsimp only;omega)|(show _<(4:Int);omega)|(show _<4;omega)|(show(4:Int)<=_;omega)|(simp only[a00];omega))) ?_;rintro _ H8 ⟨x8,F8,ck,bl,rfl,h8,hh⟩;replace bl:=HS.back bb V bl;replace hl:=hl.mono ck;refine wTo 2 7 [] 26 27 [] [(26,(sL a4 l.length cl)),(27,(iI at_))] V fun _=>?_
 refine e9 (aX V V V) V V (gt.gtext_c 4 l (0) at_ (HS.call bl) hl (by first|omega|(dsimp only;omega)|(show _<(4:Int);omega)|(show _<4;omega)|(show(4:Int)<=_;omega)|(simp only[a00];omega)) (by first|omega|(dsimp only;omega)|(show _<(4:Int);omega)|(show _<4;omega)|(show(4:Int)<=_;omega)|(simp only[a00];omega))) ?_;rintro _ f4 ⟨U,fl,a7,a2,rfl,hf,fi⟩;replace a2:=HS.back bl V a2;replace hl:=hl.mono a7;refine wm (sL a4 l.length cl) V V V ?_;refine e9 (aX V V V) V V (tokens_c l (HS.call a2) hl) ?_;rintro _ f5 ⟨T,e1,b8,a8,rfl,hg⟩;replace a8:=HS.back a2 V a8;refine wUo 1 12 [] 31 31 [] [(31,(tX (U++T)))] (show(U:List UInt8).length+(T:List UInt8).length<=1099511627776 from by first|omega|(dsimp only;omega)|(show _<(4:Int);omega)|(show _<4;omega)|(show(4:Int)<=_;omega)|(simp only[a00];omega)) V fun _=>?_
 refine zlo ([⟨ar⟩,⟨r6⟩,⟨x8⟩,⟨U++T⟩]:List Str) a8 V j_ V fun e3 e5 e6 f6 a1 dk=>?_
 refine wTo 2 14 [] 33 34 [] [(33,(iI 4)),(34,(iI 0))] V fun _=>?_
 refine ah 2 V ?_;refine aq (fun(mm:Nat) f H'=> ∃(i:Nat) (F':Fz),Fz.le e1 F'/\HS (Base.of H []) F' H' [e6] R/\aJ f [(32,(sL e3 ([⟨ar⟩,⟨r6⟩,⟨x8⟩,⟨U++T⟩]:List Str).length e5)),(33,(iI 4)),(34,(iI (i:Int)))]/\mm=4-i/\(i<=4)) _ ⟨0,_,fR,dk,(agC V (agC V (agC V agN))),V,(by first|assumption|omega|(simp at *;omega))⟩ ?_;rintro fk he e2 ⟨i,fu,ax,an,cm,rfl,h1⟩ em;refine az _ cm (fun _=>?_);clear cm;replace a1:=a1.mono ax;refine ai 1 V ?_;refine wT 2 [] 35 35 [] [(35,(.bool (decide ((i:Int)<4))))] V fun _=>?_
 refine wk_if 4 5 (v:=(decide ((i:Int)<4))) V V V V (fun b6=>?_) (fun b6=>?_)
 ·try simp only[BS]at b6
  have hy:(([⟨ar⟩,⟨r6⟩,⟨x8⟩,⟨U++T⟩]:List Str).getD i default).b.length<=500000:=lit4 M M M M (by rw[a00];omega);obtain⟨e7,d3⟩:=Sv.view (OS.sv a1 an (i:=0) V);refine wrp 2 36 37 [10] [(10,(tX (([⟨ar⟩,⟨r6⟩,⟨x8⟩,⟨U++T⟩]:List Str).getD i default).b))] (Ha_ (Sv.ix (j:=(i:Int)) (OS.sv a1 an (i:=0) V) (by first|omega|(dsimp only;omega)|(show _<(4:Int);omega)|(show _<4;omega)|(show(4:Int)<=_;omega)|(simp only[a00];omega)) (show(i:Int)<(4:Int) from by first|omega|(dsimp only;omega)|(show _<(4:Int);omega)|(show _<4;omega)|(show(4:Int)<=_;omega)|(simp only[a00];omega))) (Hl_ 1 (ql 9 0 (vS (d3 i) (show i<4 from by first|omega|(dsimp only;omega)|(show _<(4:Int);omega)|(show _<4;omega)|(show(4:Int)<=_;omega)|(simp only[a00];omega))) V V) Hn_)) (by kernel_rfl) V fun _=>?_
  refine ab ?_;refine wm (tX (([⟨ar⟩,⟨r6⟩,⟨x8⟩,⟨U++T⟩]:List Str).getD i default).b) V V V ?_;refine e9 (aX V V V) V V (pg.Parse_c 4 (([⟨ar⟩,⟨r6⟩,⟨x8⟩,⟨U++T⟩]:List Str).getD i default).b (HS.call an) (by first|omega|(dsimp only;omega)|(show _<(4:Int);omega)|(show _<4;omega)|(show(4:Int)<=_;omega)|(simp only[a00];omega))) ?_;rintro _ f7 ⟨c6,b2,cL,b3,c0,E,f1,b9,a9,rfl,Y,Z,et,ex,a5⟩;replace a9:=HS.back an V a9;let c8:Value:=(aG [(sL b2 c6.arrs.length cL),(sL b3 c6.funs.length c0)])
  refine dA 3 2 41 42 [38] [(41,c8),(42,(aG [(iI E.why),(iI E.at_)]))] Hn_ (by kernel_rfl) V fun _=>?_
  refine zn a9 V fun g6 f8 dn=>?_
  refine zn dn V fun g7 f9 dt=>?_
  refine sgo 2 7 1 0 [] [] (Hr_ 7 1 (Hr_ 8 2 Hn_)) dt V V fun e8 gm co=>?_
  refine ah 2 V ?_;refine ab ?_;refine wm (tX (([⟨ar⟩,⟨r6⟩,⟨x8⟩,⟨U++T⟩]:List Str).getD i default).b) V V V ?_;refine e9 (aX V V V) V V (qg.rParse_c 4 (([⟨ar⟩,⟨r6⟩,⟨x8⟩,⟨U++T⟩]:List Str).getD i default).b (HS.call co) (by first|omega|(dsimp only;omega)|(show _<(4:Int);omega)|(show _<4;omega)|(show(4:Int)<=_;omega)|(simp only[a00];omega))) ?_;rintro _ go ⟨c7,b4,c4,b5,c5,O,f2,a0,ba,rfl,b0,b1,ez,e0,a6⟩;replace ba:=HS.back co V ba;replace Y:=Y.mono a0;replace Z:=Z.mono a0;let c9:Value:=(aG [(sL b4 c7.arrs.length c4),(sL b5 c7.funs.length c5)])
  refine dA 3 2 46 47 [43] [(46,c9),(47,(aG [(iI O.why),(iI O.at_)]))] Hn_ (by kernel_rfl) V fun _=>?_
  refine zn ba V fun g8 g2 d1=>?_
  refine zn d1 V fun g9 g3 d2=>?_
  refine sgo 2 7 1 0 [] [] (Hr_ 7 3 (Hr_ 8 4 Hn_)) d2 V V fun fb g4 al=>?_
  refine ah 2 V ?_;refine wj 1 al [(0,.o (aG [(iI E.why),(iI E.at_)])),(1,.o (aG [(iI O.why),(iI O.at_)])),(2,.o (.bool (!((E.why==O.why)&&((E.at_==O.at_)&&true))))),(4,.o c8),(5,.o c9),(6,.o (.bool true))] 48 56 [] [(56,(.bool ((!((E.why==O.why)&&((E.at_==O.at_)&&true)))&&true)))] (vA (jn al 33 0 2 2 V V V V V) (vA (jn al 33 0 2 4 V V V V V) (vA (agNe (P:=Tryz.prog) (t:=33) (xs:=[(iI E.why),(iI E.at_)]) (ys:=[(iI O.why),(iI O.at_)]) (bs:=[(E.why==O.why),(E.at_==O.at_)]) V V V (by kernel_rfl) (by kernel_rfl) (.cons ⟨by decide,_,_,V,V,eqI V⟩ (.cons ⟨by decide,_,_,V,V,eqI V⟩ .nil))) (vA (fun(g1:(!((E.why==O.why)&&((E.at_==O.at_)&&true)))=false)=>(jn al 30 0 2 1 V V V V V)) (vA (fun(g1:(!((E.why==O.why)&&((E.at_==O.at_)&&true)))=false)=>(jn al 30 0 2 3 V V V V V)) (vA (fun(g1:(!((E.why==O.why)&&((E.at_==O.at_)&&true)))=false)=>(jc al fun _ _ j q=>rb.mc 4 c6 c7 q (Y.mono j) (Z.mono j) (b0.mono j) (b1.mono j) (by first|exact(ParR.uniq X X).1|exact par_few X M) (by first|exact(ParR.uniq X X).1|exact par_few X M))) trivial)))))) (by kernel_rfl) fun fd g5 f3 ch cw=>?_
  refine wk_if 1 2 (v:=((!((E.why==O.why)&&((E.at_==O.at_)&&true)))&&true)) V V V V (fun b7=>?_) (fun b7=>?_)
  ·try simp only[BS]at b7
   refine wT 1 [] 8 8 [] [(8,(.bool false))] V fun _=>?_
   refine ae ⟨.inr V,_,V,false,_,(fT (fT (fT (fT (fT (fT (fT (ci) ck) a7) b8) ax) b9) a0) ch),(HS.forget cw),V,(by first|rfl|(exfalso;have q:=(ParR.uniq a5 a6).2;simp_all))⟩
  try simp only[BS]at b7
  refine wU 1 [] 34 34 [57] [(34,(iI ((i:Int)+1)))] (vi (n:=(i:Int)+1) (by first|omega|(dsimp only;omega)|(show _<(4:Int);omega)|(show _<4;omega)|(show(4:Int)<=_;omega)|(simp only[a00];omega))) V fun _=>?_
  refine em _ _ _ ?_ ⟨i+1,_,(fT (fT (fT (ax) b9) a0) ch),(HS.sub cw (a05 _ _)),(agC V (agC V (agC V agN))),V,(by first|assumption|omega|(simp at *;omega))⟩;omega
 try simp only[BS]at b6
 refine wU 1 [(0,.o (.bool true))] 8 8 [58] [(8,(.bool true))] (ex_c_q 4 e2) V fun _=>?_
 refine ae ⟨.inr V,_,V,true,_,(fT (fT (fT (fT (ci) ck) a7) b8) ax),(HS.forget an),V,(by first|rfl|(exfalso;have q:=(ParR.uniq a5 a6).2;simp_all))⟩
end Go.Proofs.YtapgbjedgcpffaaGreat.rr_
