/-
The text of a program as the printer of the program gives it. No condition but that it is not longer than a machine dV.
-/
import Derived.Test.YtkpgbdkkgcdhmaaGreatZPL1
import Derived.Test.YtkpgbdkkgcdhmaaGreatZPDG
import Derived.Test.YtkpgbdkkgcdhmaaGreatZPDP
noncomputable section
namespace Go.Proofs.YtkpgbdkkgcdhmaaGreat.dh
open Go.R
set_option maxRecDepth 10000
set_option maxHeartbeats 1600000
set_option linter.unusedVariables false
set_option linter.unusedSimpArgs false
variable (ex:FuncId) {F:Fz} {H:Heap} {R:List Fp}
open w3 l1 pt ca
open cb hiding jl jn
open cc cd ta tb dg dp
open da hiding jl jn
open db dc dd de df
def sp(d:Nat):List UInt8:=List.replicate (2 *d) 32
def lnT(d:Nat)(s:List Str):List UInt8:=sp d++(s.flatMap Str.b++[10])
theorem sp_len(d:Nat):(sp d).length=2 *d:=List.length_replicate
theorem sp_s(d:Nat):sp (d+1)=sp d++[32,32]:=by unfold sp;rw[show 2 *(d+1)=2 *d+2 from V,List.replicate_succ',List.replicate_succ',a0d];rfl
theorem iS(d:Nat)(s:List Str):(lnT d s).length=2 *d+((s.flatMap Str.b).length+1):=by unfold lnT;rw[a00,a00,sp_len];rfl
theorem fm_tk{s:List Str}{j:Nat}(h:j<s.length):(s.take j).flatMap Str.b++(s.getD j default).b=(s.take (j+1)).flatMap Str.b:=by rw[a19,a09 h,List.flatMap_append,a0b,a09 h];simp
theorem fm_le{s:List Str}{j:Nat}:((s.take j).flatMap Str.b).length<=(s.flatMap Str.b).length:=by
 conv=>rhs;rw[←a1a j s,List.flatMap_append,a00]
 omega
theorem di{g:Nat}(deep:Nat){a3:Option Addr}{a5:Nat}(ts:List Str)(w:GdT)(hs:HS (.of H ((psG g w).map Prod.fst)) F H [(psG g w)] R)(cp:SR F (sL a3 ts.length a5) ts)(hd:deep<4611686018427387904)(hn:ts.length<4611686018427387904)(fi:w.b.length+(lnT deep ts).length<=2000000000):kKt ex 22 [(pT g 0),(iI (deep:Int)),(sL a3 ts.length a5)] H fun v H'=> ∃(w':GdT) (F':Fz),Fz.le F F'/\HS (.of H ((psG g w).map Prod.fst)) F' H' [(psG g w')] R/\v= .tuple #[]/\(w'.b=w.b++lnT deep ts):=by
 replace hs:HS _ _ _ [(fP g [(sL w.a w.b.length w.k)]),w.p] _:=hs.reflat V;have c8:=w.up (F:=F);have zl:=iS deep ts;refine av Tryz.func22 V V ?_;refine ai 2 V ?_;refine wT 2 [] 1 0 [6] [(6,(iI 0))] V fun _=>?_
 refine aj (fun(mm:Nat) f H'=> ∃(bl:List UInt8) (i:Nat) (a_:Fp) (O:Option Addr) (U:Nat) (F':Fz),Fz.le F F'/\HS (Base.of H ((psG g w).map Prod.fst)) F' H' [(fP g [(sL O bl.length U)]),a_] R/\OS F' (sL O bl.length U) bl a_/\aC f [(0,(pT g 0)),(1,(iI (deep:Int))),(2,(sL a3 ts.length a5)),(6,(iI (i:Int)))]/\mm=deep-i/\(bl=w.b++sp i)/\(i<=deep)) _ ⟨w.b,0,w.p,w.a,w.k,_,fR,hs,c8,⟨V,V,V,V,trivial⟩,V,(by simp[sp]),M⟩ ?_;rintro em f2 H2 ⟨bl,i,a_,O,U,F2,aA,a1,ar,a4,rfl,h1,hi⟩ b6;refine ap _ a4 (fun _=>?_);clear a4;replace cp:=cp.mono aA;refine ai 2 V ?_;refine wT 1 [] 9 11 [] [(11,(.bool (decide ((i:Int)<(deep:Int)))))] V fun _=>?_
 refine zd 3 6 (fun c4=>?_) fun c4=>?_
 ·have zb:bl.length=w.b.length+2 *i:=by rw[h1,a00,sp_len]
  refine ab ?_;refine bW 5 0 14 18 [] [(14,(pT g 0)),(18,(sL O bl.length U))] (Hr_ 4 0 Hn_) a1 V V fun _=>?_
  refine bc (rs_appS (q:=1) ar a1 V V V V V V V V V V M) V V ?_;rintro _ H7 p6 ⟨a6,k6,rfl,b2,b3,_⟩;refine sgo 3 6 20 21 [] [] (Hr_ 8 0 Hn_) b3 V V fun d8 H8 b4=>?_
  refine ag 2 V ?_;refine wU 1 [] 12 13 [6] [(6,(iI ((i:Int)+1)))] (vi (n:=(i:Int)+1)) V fun _=>?_
  refine b6 _ _ _ ?_ ⟨bl++[32,32],i+1,p6,a6,k6,_,(aA),b4,b2,⟨V,V,V,V,trivial⟩,V,(by rw[h1,sp_s,a0d]),M⟩;omega
 have c3:i=deep:=M
 have h2:bl=w.b++sp deep:=by rw[h1,c3]
 refine wT 2 [] 22 24 [] [(22,(sL a3 ts.length a5)),(23,(iI (ts.length:Int))),(24,(iI 0))] V fun _=>?_
 refine aj (fun(mm:Nat) f H'=> ∃(bk:List UInt8) (j:Nat) (Z:Fp) (A:Option Addr) (E:Nat) (F':Fz),Fz.le F2 F'/\HS (Base.of H ((psG g w).map Prod.fst)) F' H' [(fP g [(sL A bk.length E)]),Z] R/\OS F' (sL A bk.length E) bk Z/\aC f [(0,(pT g 0)),(22,(sL a3 ts.length a5)),(23,(iI (ts.length:Int))),(24,(iI (j:Int)))]/\mm=ts.length-j/\(bk=w.b++(sp deep++(ts.take j).flatMap Str.b))/\(j<=ts.length)) _ ⟨bl,0,a_,O,U,_,fR,a1,ar,⟨V,V,V,V,trivial⟩,V,(by(rw[h2];simp)),M⟩ ?_;rintro dk d7 dt ⟨bk,j,Z,A,E,ds,ax,al,an,a0,rfl,g1,hj⟩ bw;refine ap _ a0 (fun _=>?_);clear a0;replace cp:=cp.mono ax;refine ai 1 V ?_;refine wT 2 [] 25 25 [] [(25,(.bool (decide ((j:Int)<(ts.length:Int)))))] V fun _=>?_
 refine zd 4 4 (fun b1=>?_) fun b1=>?_
 ·have zb:bk.length=w.b.length+(2 *deep+((ts.take j).flatMap Str.b).length):=by rw[g1,a00,a00,sp_len]
  have zc:=fm_le (s:=ts) (j:=j+1);rw[←fm_tk M,a00]at zc;obtain⟨c5,bt⟩:=Sv.view (SR.sv cp al);refine wrp 1 26 27 [8] [(8,(tX (ts.getD j default).b))] (Ha_ (Sv.ix (j:=(j:Int)) (SR.sv cp al)) (Hl_ 1 (ql 9 0 (vS (bt j)) V V) Hn_)) (by kernel_rfl) V fun _=>?_
  refine ab ?_;refine bW 6 0 28 33 [] [(28,(pT g 0)),(32,(sL A bk.length E)),(33,(tX (ts.getD j default).b))] (Hr_ 4 0 Hn_) al V V fun _=>?_
  refine bc (rs_appS (q:=1) an al V V V V V V V V V V M) V V ?_;rintro _ d1 ch ⟨bF,b8,rfl,a7,ba,_⟩;refine sgo 3 7 35 36 [] [] (Hr_ 9 0 Hn_) ba V V fun c6 d2 bb=>?_
  refine ag 2 V ?_;refine wU 1 [] 24 24 [37] [(24,(iI ((j:Int)+1)))] (vi (n:=(j:Int)+1)) V fun _=>?_
  refine bw _ _ _ ?_ ⟨bk++(ts.getD j default).b,j+1,ch,bF,b8,_,(ax),bb,a7,⟨V,V,V,V,trivial⟩,V,(by rw[g1,←fm_tk M];simp only[a0d]),M⟩;omega
 have zb:bk.length=w.b.length+(2 *deep+(ts.flatMap Str.b).length):=by rw[g1,a0q M,a00,a00,sp_len]
 refine ab ?_;refine bW 5 0 38 42 [] [(38,(pT g 0)),(42,(sL A bk.length E))] (Hr_ 4 0 Hn_) al V V fun _=>?_
 refine zlo ([(UInt8.ofNat 10)]:List UInt8) al V (RL.cs (u8r (n:=10) M) RL.nl) V fun d6 ee et d3 a8 a2=>?_
 refine zao 1 an a2 (OS.sv a8 a2 (i:=2) V) V V V M fun b0 b9 ci d4 a9 bf=>?_
 refine sgo 3 7 45 46 [] [] (Hr_ 9 0 Hn_) bf V V fun c7 d5 bn=>?_
 refine ag 0 V ?_;refine aD ⟨.inl V,_,V,⟨bk++([(UInt8.ofNat 10)]:List UInt8),b0,b9,ci,OS.low a9⟩,_,(fT (aA) ax),(HS.own2 bn),V,(by refine(congrArg (· ++[10]) g1).trans ?_;rw[a0q M];simp only[lnT,a0d])⟩
theorem wt_s{s:StmT}(h:wfS s=true):hU s.args=true/\wfK s=true/\dJ s.thn=true/\dJ s.els=true:=by rw[wf_s,a06,a06,wfA,a06]at h;exact⟨h.1.1.1,h.1.1.2,h.1.2,h.2⟩
section
variable {s:StmT} {d:Nat}
theorem st_1(h:s.kind=1):fmS s (sp d)=lnT d [⟨s.name.b⟩,⟨[32,61,32]⟩,⟨fmE s.val⟩,⟨[59]⟩]:=by rw[fm_s,fk_1 h];simp[lnT]
theorem st_2(h:s.kind=2):fmS s (sp d)=lnT d [⟨s.name.b⟩,⟨[91]⟩,⟨fmE s.at_⟩,⟨[93,32,61,32]⟩,⟨fmE s.val⟩,⟨[59]⟩]:=by rw[fm_s,fk_2 h];simp[lnT]
theorem st_5(h:s.kind=5):fmS s (sp d)=lnT d [⟨[111,117,116,32]⟩,⟨fmE s.val⟩,⟨[59]⟩]:=by rw[fm_s,fk_5 h];simp[lnT]
theorem st_7(h:s.kind=7):fmS s (sp d)=lnT d [⟨[116,114,97,112,32]⟩,⟨cJ s.n⟩,⟨[59]⟩]:=by rw[fm_s,fk_7 h];simp[lnT]
theorem st_6(h:s.kind=6):fmS s (sp d)=lnT d [⟨s.name.b⟩,⟨[32,61,32]⟩,⟨s.to.b⟩,⟨[40]⟩,⟨jn (mS (hC s.args))⟩,⟨[41,59]⟩]:=by rw[fm_s,fk_6 M M M M M M];simp[lnT]
theorem st_4(h:s.kind=4):fmS s (sp d)=(lnT d [⟨[119,104,105,108,101,32,40]⟩,⟨fmE s.val⟩,⟨[41,32,123]⟩]++bU s.thn (sp (d+1)))++lnT d [⟨[125]⟩]:=by rw[fm_s,fk_4 h,sp_s];simp[lnT]
theorem st_3(h:s.kind=3)(e:0<s.els.length):fmS s (sp d)=(((lnT d [⟨[105,102,32,40]⟩,⟨fmE s.val⟩,⟨[41,32,123]⟩]++bU s.thn (sp (d+1)))++lnT d [⟨[125,32,101,108,115,101,32,123]⟩])++bU s.els (sp (d+1)))++lnT d [⟨[125]⟩]:=by rw[fm_s,fk_3 h,if_pos e,sp_s];simp[lnT]
theorem st_3n(h:s.kind=3)(e: ¬0<s.els.length):fmS s (sp d)=(lnT d [⟨[105,102,32,40]⟩,⟨fmE s.val⟩,⟨[41,32,123]⟩]++bU s.thn (sp (d+1)))++lnT d [⟨[125]⟩]:=by rw[fm_s,fk_3 h,if_neg e,sp_s];simp[lnT]
theorem st_3l(h:s.kind=3):(lnT d [⟨[105,102,32,40]⟩,⟨fmE s.val⟩,⟨[41,32,123]⟩]).length+(bU s.thn (sp (d+1))).length<=(fmS s (sp d)).length:=by
 by_cases e:0<s.els.length
 ·rw[st_3 h e];simp only[a00];omega
 rw[st_3n h e];simp only[a00];omega
theorem wk_k(h:wfK s=true):1<=s.kind/\s.kind<=7:=by
 unfold wfK at h;repeat' split at h
 all_goals first|omega|cases h
end
theorem fmd5{l:List StmT}{i:Nat}{ind:List UInt8}(h:i<l.length):bU (l.drop i) ind=fmS (l.getD i default) ind++bU (l.drop (i+1)) ind:=by rw[bQ (d:=default) h,bU]
theorem fm_1s(a:List UInt8):([(⟨a⟩:Str)]:List Str).flatMap Str.b=a:=by simp
theorem fm_cs(a:List UInt8)(s:List Str):((⟨a⟩:Str)::s).flatMap Str.b=a++s.flatMap Str.b:=rfl
def PrtAll5(ex:FuncId)(N:Nat):Prop:=
 (∀{g:Nat} {U:Option Addr} {ar:Nat} {O:Option Addr} {an:Nat} {E:Option Addr} {al:Nat} {A:Option Addr} {Z:Nat} {ax:Option Addr} {aA:Nat} (s:StmT) (deep:Nat) (w:GdT) {F:Fz} {H:Heap} {R:List Fp} (hs:HS (.of H ((psG g w).map Prod.fst)) F H [(psG g w)] R) (hs_0:in64 s.kind) (hs_3:in64 s.n) (hs_4:in64 s.at_.kind) (hs_5:in64 s.at_.n) (hs_7:in64 s.at_.op) (hs_8:SR F (sL ax s.at_.kids.length aA) s.at_.kids) (hs_9:in64 s.val.kind) (hs_10:in64 s.val.n) (hs_12:in64 s.val.op) (hs_13:SR F (sL A s.val.kids.length Z) s.val.kids) (hs_14:SR F (sL E s.args.length al) s.args) (hs_15:SR F (sL O s.thn.length an) s.thn) (hs_16:SR F (sL U s.els.length ar) s.els) (hd:deep+ndS s<2000000000) (hw:wfS s=true) (hlen:w.b.length+(fmS s (sp deep)).length<=2000000000) (hm:2 *ndS s<N),C Tryz.prog 0 (KX ex) 54 [(pT g 0),(.agg ⟨[(iI s.kind),(tX s.name.b),(tX s.to.b),(iI s.n),(iI s.at_.kind),(iI s.at_.n),(tX s.at_.name.b),(iI s.at_.op),(sL ax s.at_.kids.length aA),(iI s.val.kind),(iI s.val.n),(tX s.val.name.b),(iI s.val.op),(sL A s.val.kids.length Z),(sL E s.args.length al),(sL O s.thn.length an),(sL U s.els.length ar)]⟩),(iI (deep:Int))] H fun v H'=> ∃(w':GdT) (F':Fz),Fz.le F F'/\HS (.of H ((psG g w).map Prod.fst)) F' H' [(psG g w')] R/\v= .tuple #[]/\(w'.b=w.b++fmS s (sp deep)))/\
 (∀{g:Nat} {a0:Option Addr} {a1:Nat} (l:List StmT) (deep:Nat) (w:GdT) {F:Fz} {H:Heap} {R:List Fp} (hs:HS (.of H ((psG g w).map Prod.fst)) F H [(psG g w)] R) (hl:SR F (sL a0 l.length a1) l) (hd:deep+ev l<2000000000) (hw:dJ l=true) (hlen:w.b.length+(bU l (sp deep)).length<=2000000000) (hm:2 *ev l+1<N),C Tryz.prog 0 (KX ex) 25 [(pT g 0),(sL a0 l.length a1),(iI (deep:Int))] H fun v H'=> ∃(w':GdT) (F':Fz),Fz.le F F'/\HS (.of H ((psG g w).map Prod.fst)) F' H' [(psG g w')] R/\v= .tuple #[]/\(w'.b=w.b++bU l (sp deep)))
theorem stmt5_c_s{g:Nat}{ba:Option Addr}{bf:Nat}{a1:Option Addr}{a4:Nat}{a0:Option Addr}{a3:Nat}{E:Option Addr}{O:Nat}{b2:Option Addr}{ch:Nat}(s:StmT)(deep:Nat)(w:GdT)(hs:HS (.of H ((psG g w).map Prod.fst)) F H [(psG g w)] R)(oK:in64 s.kind)(oL:in64 s.n)(oM:in64 s.at_.kind)(oN:in64 s.at_.n)(oO:in64 s.at_.op)(mf:SR F (sL b2 s.at_.kids.length ch) s.at_.kids)(oP:in64 s.val.kind)(oa:in64 s.val.n)(ob:in64 s.val.op)(a_:SR F (sL E s.val.kids.length O) s.val.kids)(bb:SR F (sL a0 s.args.length a3) s.args)(Z:SR F (sL a1 s.thn.length a4) s.thn)(a2:SR F (sL ba s.els.length bf) s.els)(hd:deep+ndS s<2000000000)(hw:wfS s=true)(fz:w.b.length+(fmS s (sp deep)).length<=2000000000)(N:Nat)(ih:PrtAll5 ex N)(hm:2 *ndS s<N+1):kKt ex 54 [(pT g 0),(aG [(iI s.kind),(tX s.name.b),(tX s.to.b),(iI s.n),(iI s.at_.kind),(iI s.at_.n),(tX s.at_.name.b),(iI s.at_.op),(sL b2 s.at_.kids.length ch),(iI s.val.kind),(iI s.val.n),(tX s.val.name.b),(iI s.val.op),(sL E s.val.kids.length O),(sL a0 s.args.length a3),(sL a1 s.thn.length a4),(sL ba s.els.length bf)]),(iI (deep:Int))] H fun v H'=> ∃(w':GdT) (F':Fz),Fz.le F F'/\HS (.of H ((psG g w).map Prod.fst)) F' H' [(psG g w')] R/\v= .tuple #[]/\(w'.b=w.b++fmS s (sp deep)):=by
 have qH:=ns_s s;obtain⟨rn,zk,s3,s0⟩:=wt_s hw;have zv:=wk_v zk;have za:=wk_a zk;have s1:=wk_k zk;have s2:=iQ s.args;refine av Tryz.func54 V V ?_;refine ai 1 V ?_;refine ab ?_;refine bc (aX hs V V) V V ?_;rintro _ H2 _ ⟨b1,rfl,A,_⟩;refine ag 2 V ?_;refine bH 3 9 10 [] [(10,(iI s.kind))] (Hr_ 1 1 Hn_) A V V fun _=>?_
 refine wT 1 [] 11 12 [] [(11,(.bool (s.kind==1)))] V fun _=>?_
 refine zi 0 1 (fun c5=>?_) fun c5=>?_
 ·try simp only[BS]at c5
  have cv:=st_1 (s:=s) (d:=deep) M;have cp:=fz;rw[cv]at cp;have zx:=cp;simp only[iS,fm_cs,fm_1s,a00,a01,a03]at zx;refine aq V ?_;refine br 6 13 18 [] [(13,(pT g 0)),(14,(iI (deep:Int))),(16,(tX s.name.b)),(18,(aG [(iI s.val.kind),(iI s.val.n),(tX s.val.name.b),(iI s.val.op),(sL E s.val.kids.length O)]))] (Hr_ 3 1 (Hr_ 5 1 Hn_)) A V V fun _=>?_
  refine aK (W:=[]) (aH V V V) V V V (dg.gw ex s.val (HS.call A.log0) M M M a_ M (by exact zv M) M) (⟨.inl V,⟨.inl V,⟨.inr a0a,⟨.inr trivial,⟨.inr trivial,⟨.inr trivial,trivial⟩⟩⟩⟩⟩⟩) ?_;rintro _ H7 ⟨x7,F7,nZ,bl,rfl,rfl⟩;refine⟨Wr.did bl.log,fun n3 i3=>?_⟩;replace bl:=HS.back A.log0 V bl;replace bl:=HS.lg bl A i3;generalize ({H7 with log:=n3}:Heap)=pP at bl⊢;refine zld ([⟨s.name.b⟩,⟨[32,61,32]⟩,⟨fmE s.val⟩,⟨[59]⟩]:List Str) bl V j_ V fun a8 k8 p8 pZ n1 n2=>?_
  obtain⟨oU,hX,c4,kt,oA⟩:=OS.frz n1 n2 (i:=2) V;refine aK (W:=((psG g w).map Prod.fst)) (aH V V V) V V V (di ex deep ([⟨s.name.b⟩,⟨[32,61,32]⟩,⟨fmE s.val⟩,⟨[59]⟩]:List Str) w (HS.callOwn c4.log0 (i:=0) V) kt M M M) (kb V) ?_;rintro _ nQ ⟨m0,oT,hW,an,rfl,fi⟩;refine⟨HS.didW an,fun mk g9=>?_⟩;replace an:=HS.backOwn c4.log0 (i:=0) V V (fun _ hb=>hb) an;replace an:=HS.lg an c4 g9;generalize ({nQ with log:=mk}:Heap)=ol at an⊢;have hp:=congrArg List.length fi;rw[a00]at hp;refine aO 1 V ?_;refine aD ⟨.inl V,_,V,m0,_,(fT (fT (nZ) hX) hW),(HS.first an),V,(by(rw[cv,fi];done))⟩
 try simp only[BS]at c5
 refine wT 1 [] 22 23 [] [(22,(.bool (s.kind==6)))] V fun _=>?_
 refine zi 1 1 (fun et=>?_) fun et=>?_
 ·try simp only[BS]at et
  have cv:=st_6 (s:=s) (d:=deep) M;have cp:=fz;rw[cv]at cp;have zx:=cp;simp only[iS,fm_cs,fm_1s,a00,a01,a03]at zx;have zJ:(jn (mS (hC s.args))).length<=1099511627776:=M
  refine wT 3 [] 1 0 [6] [(6,(sL none 0 0))] V fun _=>?_
  refine bH 2 24 27 [] [(25,(sL a0 s.args.length a3)),(26,(iI (s.args.length:Int))),(27,(iI 0))] (Hr_ 1 1 Hn_) A V V fun _=>?_
  have ll:=HS.snoc A;let hQ:Fp:=(fP b1 [(iI s.kind),(tX s.name.b),(tX s.to.b),(iI s.n),(iI s.at_.kind),(iI s.at_.n),(tX s.at_.name.b),(iI s.at_.op),(sL b2 s.at_.kids.length ch),(iI s.val.kind),(iI s.val.n),(tX s.val.name.b),(iI s.val.op),(sL E s.val.kids.length O),(sL a0 s.args.length a3),(sL a1 s.thn.length a4),(sL ba s.els.length bf)])
  refine aj (fun(mm:Nat) f H'=> ∃(al:List Str) (k:Nat) (a5:Option Addr) (a7:Nat) (b0:Fp) (F':Fz),Fz.le F F'/\HS (Base.of H ((psG g w).map Prod.fst)) F' H' [(psG g w),hQ,b0] R/\OS F' (sL a5 al.length a7) al b0/\aC f [(0,(pT g 0)),(2,(iI (deep:Int))),(4,(pT b1 0)),(6,(sL a5 al.length a7)),(25,(sL a0 s.args.length a3)),(26,(iI (s.args.length:Int))),(27,(iI (k:Int)))]/\mm=s.args.length-k/\(al=(mS (hC s.args)).take k)/\(al.length=k)/\(k<=s.args.length)) _ ⟨([]:List Str),0,none,0,[],_,fR,ll,(OS.nil:OS _ (sL none 0 0) ([]:List Str) []),⟨V,V,V,V,V,V,V,trivial⟩,V,k_,k_,M⟩ ?_;rintro oR qc nR ⟨al,k,a5,a7,b0,oV,ci,a9,a6,f6,rfl,ha,hll,hk⟩ mg;refine ap _ f6 (fun _=>?_);clear f6;replace bb:=bb.mono ci;refine ai 1 V ?_;refine wT 2 [] 28 28 [] [(28,(.bool (decide ((k:Int)<(s.args.length:Int)))))] V fun _=>?_
  refine zd 4 4 (fun nX=>?_) fun nX=>?_
  ·have qk:=lN (l:=s.args) (i:=k) M;refine ab ?_;obtain⟨e3,g1⟩:=Sv.view (SR.sv bb a9);obtain⟨n5,n6,n7,hF⟩:=ExpT.fx (g1 k);let hS:Value:=(aG [(iI (s.args.getD k default).kind),(iI (s.args.getD k default).n),(tX (s.args.getD k default).name.b),(iI (s.args.getD k default).op),(sL (cA (e3 k) 4) (s.args.getD k default).kids.length (cK (e3 k) 4))])
   refine bV 2 0 29 30 [] [(30,hS)] (Ha_ (Sv.ix (j:=(k:Int)) (SR.sv bb a9)) (Hl_ 1 (qn 46 0 5 (ExpT.vw (g1 k)) V V V V) Hn_)) (by kernel_rfl) V fun _=>?_
   refine zn a9 V fun qb py lr=>?_
   refine sgo 1 3 1 0 [] [] (Hr_ 3 3 Hn_) lr V V fun oy pz c6=>?_
   refine ag 1 V ?_;refine ab ?_;refine bW 2 0 31 32 [] [(31,(sL a5 al.length a7)),(32,hS)] (Hr_ 1 3 Hn_) c6 V V fun _=>?_
   refine zc (dg.gw ex (s.args.getD k default) (HS.call c6) M M M hF M (by exact wfs_at rn M) (by exact a0k (jn_le _ _ (at_mem M)) zJ)) ?_;rintro _ pA ⟨qB,oW,e4,c7,rfl,rfl⟩;replace c7:=HS.back c6 V c7;replace a6:=a6.mono e4;refine zlo ([⟨fmE (s.args.getD k default)⟩]:List Str) c7 V (RL.cs V RL.nl) V fun p0 qd qq pB jw f7=>?_
   refine zao 2 a6 f7 (OS.sv jw f7 (i:=4) V) V V V M fun hI hJ n4 pC jA lx=>?_
   refine wa (sL hI (al++([⟨fmE (s.args.getD k default)⟩]:List Str)).length hJ) V V V ?_;refine ag 2 V ?_;refine wU 1 [] 27 27 [36] [(27,(iI ((k:Int)+1)))] (vi (n:=(k:Int)+1)) V fun _=>?_
   refine mg _ _ _ ?_ ⟨al++([⟨fmE (s.args.getD k default)⟩]:List Str),k+1,hI,hJ,n4,_,(fT (ci) e4),(HS.sub lx (a05 _ _)),jA,⟨V,V,V,V,V,V,V,trivial⟩,V,(by rw[ha];exact(st_n M).symm),(by rw[a00,hll];rfl),M⟩;omega
  have hT:al=mS (hC s.args):=by rw[ha,a0q (by rw[j6];omega)]
  refine aq V ?_;obtain⟨nn,oz,c8,kx,oB⟩:=OS.frz a6 a9 (i:=2) V;have c8:HS (Base.of H ((psG g w).map Prod.fst)) nn nR [(psG g w),hQ,[]] R:=c8;refine br 8 37 44 [] [(37,(pT g 0)),(38,(iI (deep:Int))),(40,(tX s.name.b)),(42,(tX s.to.b)),(44,(tX (jn al)))] (Hr_ 3 1 (Hr_ 5 1 (Hc_ 7 (dg.lh ex al (HS.call c8.log0) kx (by(rw[hT];first|exact a0k zJ e_|exact zJ|(rw[j6];omega))) (by(rw[hT];first|exact a0k zJ e_|exact zJ|(rw[j6];omega)))) Hn_))) a9 V V fun _=>?_
  refine zld ([⟨s.name.b⟩,⟨[32,61,32]⟩,⟨s.to.b⟩,⟨[40]⟩,⟨jn al⟩,⟨[41,59]⟩]:List Str) a9 V j_ V fun p1 qe qr om j1 lz=>?_
  obtain⟨oY,h1,c9,kA,oC⟩:=OS.frz j1 lz (i:=3) V;refine aK (W:=((psG g w).map Prod.fst)) (aH V V V) V V V (di ex deep ([⟨s.name.b⟩,⟨[32,61,32]⟩,⟨s.to.b⟩,⟨[40]⟩,⟨jn al⟩,⟨[41,59]⟩]:List Str) w (HS.callOwn c9.log0 (i:=0) V) kA M M (by(rw[hT];exact cp))) (kb V) ?_;rintro _ nT ⟨m1,oX,h0,ar,rfl,fk⟩;refine⟨HS.didW ar,fun mp he=>?_⟩;replace ar:=HS.backOwn c9.log0 (i:=0) V V (fun _ hb=>hb) ar;replace ar:=HS.lg ar c9 he;generalize ({nT with log:=mp}:Heap)=oo at ar⊢;have hq:=congrArg List.length fk;rw[a00]at hq;refine aO 1 V ?_;refine aD ⟨.inl V,_,V,m1,_,(fT (fT (ci) h1) h0),(HS.first ar),V,(by(rw[cv,fk,hT];done))⟩
 try simp only[BS]at et
 refine wT 1 [] 47 48 [] [(47,(.bool (s.kind==2)))] V fun _=>?_
 refine zi 0 1 (fun ez=>?_) fun ez=>?_
 ·try simp only[BS]at ez
  have cv:=st_2 (s:=s) (d:=deep) M;have cp:=fz;rw[cv]at cp;have zx:=cp;simp only[iS,fm_cs,fm_1s,a00,a01,a03]at zx;refine aq V ?_;refine br 6 49 54 [] [(49,(pT g 0)),(50,(iI (deep:Int))),(52,(tX s.name.b)),(54,(aG [(iI s.at_.kind),(iI s.at_.n),(tX s.at_.name.b),(iI s.at_.op),(sL b2 s.at_.kids.length ch)]))] (Hr_ 3 1 (Hr_ 5 1 Hn_)) A V V fun _=>?_
  refine aK (W:=[]) (aH V V V) V V V (dg.gw ex s.at_ (HS.call A.log0) M M M mf M (by exact za M) M) (⟨.inl V,⟨.inl V,⟨.inr a0a,⟨.inr trivial,⟨.inr trivial,⟨.inr trivial,trivial⟩⟩⟩⟩⟩⟩) ?_;rintro _ nU ⟨qC,oZ,e5,U,rfl,rfl⟩;refine⟨Wr.did U.log,fun ms hf=>?_⟩;replace U:=HS.back A.log0 V U;replace U:=HS.lg U A hf;generalize ({nU with log:=ms}:Heap)=oq at U⊢;replace a_:=a_.mono e5;refine zp 9 ?_;refine aM (v:=(aG [(iI s.val.kind),(iI s.val.n),(tX s.val.name.b),(iI s.val.op),(sL E s.val.kids.length O)])) (id:= .l b1) (en (i:=9) V V V (HS.hc U.log0 (i:=1) V) V V V) V V (eR V) (⟨.inl V,⟨.inr a0a,⟨.inr trivial,⟨.inr trivial,⟨.inr trivial,⟨.inr trivial,⟨.inr trivial,⟨.inr trivial,trivial⟩⟩⟩⟩⟩⟩⟩⟩) ?_;refine aK (W:=[]) (aH V V V) V V V (dg.gw ex s.val (HS.call U.log0) M M M a_ M (by exact zv M) M) (⟨.inl V,⟨.inl V,⟨.inl V,⟨.inl V,⟨.inl V,⟨.inr a0a,⟨.inr trivial,⟨.inr trivial,⟨.inr trivial,trivial⟩⟩⟩⟩⟩⟩⟩⟩⟩) ?_;rintro _ nV ⟨qD,o0,h2,ax,rfl,rfl⟩;refine⟨Wr.did ax.log,fun mv hg=>?_⟩;replace ax:=HS.back U.log0 V ax;replace ax:=HS.lg ax U hg;generalize ({nV with log:=mv}:Heap)=ot at ax⊢;refine zld ([⟨s.name.b⟩,⟨[91]⟩,⟨fmE s.at_⟩,⟨[93,32,61,32]⟩,⟨fmE s.val⟩,⟨[59]⟩]:List Str) ax V j_ V fun p2 qf qs ou j2 l0=>?_
  obtain⟨o2,h4,dk,k0,oD⟩:=OS.frz j2 l0 (i:=2) V;refine aK (W:=((psG g w).map Prod.fst)) (aH V V V) V V V (di ex deep ([⟨s.name.b⟩,⟨[91]⟩,⟨fmE s.at_⟩,⟨[93,32,61,32]⟩,⟨fmE s.val⟩,⟨[59]⟩]:List Str) w (HS.callOwn dk.log0 (i:=0) V) k0 M M M) (kb V) ?_;rintro _ nW ⟨m2,o1,h3,aA,rfl,fq⟩;refine⟨HS.didW aA,fun mx hh=>?_⟩;replace aA:=HS.backOwn dk.log0 (i:=0) V V (fun _ hb=>hb) aA;replace aA:=HS.lg aA dk hh;generalize ({nW with log:=mx}:Heap)=ov at aA⊢;have hr:=congrArg List.length fq;rw[a00]at hr;refine aO 1 V ?_;refine aD ⟨.inl V,_,V,m2,_,(fT (fT (fT (e5) h2) h4) h3),(HS.first aA),V,(by(rw[cv,fq];done))⟩
 try simp only[BS]at ez
 refine wT 1 [] 61 62 [] [(61,(.bool (s.kind==5)))] V fun _=>?_
 refine zi 0 1 (fun e0=>?_) fun e0=>?_
 ·try simp only[BS]at e0
  have cv:=st_5 (s:=s) (d:=deep) M;have cp:=fz;rw[cv]at cp;have zx:=cp;simp only[iS,fm_cs,fm_1s,a00,a01,a03]at zx;refine ab ?_;refine bW 4 0 63 66 [] [(63,(pT g 0)),(64,(iI (deep:Int))),(66,(aG [(iI s.val.kind),(iI s.val.n),(tX s.val.name.b),(iI s.val.op),(sL E s.val.kids.length O)]))] (Hr_ 3 1 Hn_) A V V fun _=>?_
  refine zc (dg.gw ex s.val (HS.call A) M M M a_ M (by exact zv M) M) ?_;rintro _ pD ⟨qE,o3,h5,dn,rfl,rfl⟩;replace dn:=HS.back A V dn;refine zlo ([⟨[111,117,116,32]⟩,⟨fmE s.val⟩,⟨[59]⟩]:List Str) dn V j_ V fun p3 qg qt pE ka l3=>?_
  obtain⟨o5,h7,f8,k3,oE⟩:=OS.frz ka l3 (i:=2) V;refine zc (di ex deep ([⟨[111,117,116,32]⟩,⟨fmE s.val⟩,⟨[59]⟩]:List Str) w (g_ f8 V) k3 M M M) ?_;rintro _ pF ⟨m3,o4,h6,ds,rfl,fu⟩;replace ds:=f8.bO ds;have ht:=congrArg List.length fu;rw[a00]at ht;refine ag 1 V ?_;refine aD ⟨.inl V,_,V,m3,_,(fT (fT (h5) h7) h6),(HS.first ds),V,(by(rw[cv,fu];done))⟩
 try simp only[BS]at e0
 refine wT 1 [] 70 71 [] [(70,(.bool (s.kind==7)))] V fun _=>?_
 refine zi 0 1 (fun e1=>?_) fun e1=>?_
 ·try simp only[BS]at e1
  have cv:=st_7 (s:=s) (d:=deep) M;have cp:=fz;rw[cv]at cp;have zx:=cp;simp only[iS,fm_cs,fm_1s,a00,a01,a03]at zx;refine ab ?_;refine bW 4 0 72 75 [] [(72,(pT g 0)),(73,(iI (deep:Int))),(75,(iI s.n))] (Hr_ 3 1 Hn_) A V V fun _=>?_
  refine zc (w3.text_c ex s.n (HS.call A) M) ?_;rintro _ pG ⟨qA,o6,h8,dt,rfl,rfl⟩;replace dt:=HS.back A V dt;refine zlo ([⟨[116,114,97,112,32]⟩,⟨cJ s.n⟩,⟨[59]⟩]:List Str) dt V j_ V fun p4 qh qu pH kc l4=>?_
  obtain⟨o8,ib,f9,k4,oF⟩:=OS.frz kc l4 (i:=2) V;refine zc (di ex deep ([⟨[116,114,97,112,32]⟩,⟨cJ s.n⟩,⟨[59]⟩]:List Str) w (g_ f9 V) k4 M M M) ?_;rintro _ pI ⟨m4,o7,h9,d1,rfl,f0⟩;replace d1:=f9.bO d1;have hu:=congrArg List.length f0;rw[a00]at hu;refine ag 1 V ?_;refine aD ⟨.inl V,_,V,m4,_,(fT (fT (h8) ib) h9),(HS.first d1),V,(by(rw[cv,f0];done))⟩
 try simp only[BS]at e1
 refine wT 1 [] 79 80 [] [(79,(.bool (s.kind==4)))] V fun _=>?_
 refine zi 1 1 (fun e2=>?_) fun e2=>?_
 ·try simp only[BS]at e2
  have cv:=st_4 (s:=s) (d:=deep) M;have cp:=fz;rw[cv]at cp;have zx:=cp;simp only[iS,fm_cs,fm_1s,a00,a01,a03]at zx;simp only[a00]at cp;refine ab ?_;refine bW 4 0 81 84 [] [(81,(pT g 0)),(82,(iI (deep:Int))),(84,(aG [(iI s.val.kind),(iI s.val.n),(tX s.val.name.b),(iI s.val.op),(sL E s.val.kids.length O)]))] (Hr_ 3 1 Hn_) A V V fun _=>?_
  refine zc (dg.gw ex s.val (HS.call A) M M M a_ M (by exact zv M) M) ?_;rintro _ pJ ⟨qF,o9,e6,d2,rfl,rfl⟩;replace d2:=HS.back A V d2;refine zlo ([⟨[119,104,105,108,101,32,40]⟩,⟨fmE s.val⟩,⟨[41,32,123]⟩]:List Str) d2 V j_ V fun p5 qi qv pK kd l5=>?_
  obtain⟨pj,e8,gm,k5,oG⟩:=OS.frz kd l5 (i:=2) V;refine zc (di ex deep ([⟨[119,104,105,108,101,32,40]⟩,⟨fmE s.val⟩,⟨[41,32,123]⟩]:List Str) w (g_ gm V) k5 M M M) ?_;rintro _ pL ⟨m5,pi,e7,bn,rfl,f1⟩;replace bn:=gm.bO bn;replace Z:=((Z.mono e6).mono e8).mono e7;have hv:=congrArg List.length f1;rw[a00]at hv;refine ag 2 V ?_;refine ab ?_;refine bW 5 0 88 92 [] [(88,(pT g 0)),(90,(sL a1 s.thn.length a4)),(92,(iI ((deep:Int)+1)))] (Hr_ 2 1 (Ha_ (vi (n:=(deep:Int)+1)) Hn_)) bn V V fun _=>?_
  refine zc (ih.2 s.thn (deep+1) m5 (g_ bn V) Z M M M M) ?_;rintro _ pM ⟨m6,pk,ik,d3,rfl,f2⟩;replace d3:=bn.bO d3;have hx:=congrArg List.length f2;rw[a00]at hx;refine ag 1 V ?_;refine ab ?_;refine wTo 2 0 [] 94 95 [] [(94,(pT g 0)),(95,(iI (deep:Int)))] V fun _=>?_
  refine zlo ([⟨[125]⟩]:List Str) d3 V (RL.cs V RL.nl) V fun p6 qj qw pN ki l6=>?_
  obtain⟨pm,i1,go,k6,oH⟩:=OS.frz ki l6 (i:=3) V;refine zc (di ex deep ([⟨[125]⟩]:List Str) m6 (g_ go V) k6 M M M) ?_;rintro _ pO ⟨m7,pl,it,d4,rfl,f3⟩;replace d4:=go.bO d4;have hy:=congrArg List.length f3;rw[a00]at hy;refine ag 1 V ?_;refine aD ⟨.inl V,_,V,m7,_,(fT (fT (fT (fT (fT (e6) e8) e7) ik) i1) it),(HS.first d4),V,(by(rw[cv,f3,f2,f1];simp only[aT,a0d];done))⟩
 try simp only[BS]at e2
 have hK:s.kind=3:=M
 have cp:=st_3l (s:=s) (d:=deep) hK;have zx:=cp;simp only[iS,fm_cs,fm_1s,a00,a01,a03]at zx;refine wT 1 [] 98 99 [] [(98,(.bool (s.kind==3)))] V fun _=>?_
 refine bI 1 (v:=(s.kind==3)) V (by rw[hK];rfl) V V ?_;refine ab ?_;refine bW 4 0 100 103 [] [(100,(pT g 0)),(101,(iI (deep:Int))),(103,(aG [(iI s.val.kind),(iI s.val.n),(tX s.val.name.b),(iI s.val.op),(sL E s.val.kids.length O)]))] (Hr_ 3 1 Hn_) A V V fun _=>?_
 refine zc (dg.gw ex s.val (HS.call A) M M M a_ M (by exact zv M) M) ?_;rintro _ pQ ⟨qG,pn,b3,d5,rfl,rfl⟩;replace d5:=HS.back A V d5;refine zlo ([⟨[105,102,32,40]⟩,⟨fmE s.val⟩,⟨[41,32,123]⟩]:List Str) d5 V j_ V fun p7 qm qx pR kk l7=>?_
 obtain⟨pq,b6,gq,k7,oI⟩:=OS.frz kk l7 (i:=2) V;refine zc (di ex deep ([⟨[105,102,32,40]⟩,⟨fmE s.val⟩,⟨[41,32,123]⟩]:List Str) w (g_ gq V) k7 M M M) ?_;rintro _ pS ⟨m8,po,b4,bt,rfl,c0⟩;replace bt:=gq.bO bt;replace Z:=((Z.mono b3).mono b6).mono b4;have hz:=congrArg List.length c0;rw[a00]at hz;refine ag 2 V ?_;refine ab ?_;refine bW 5 0 107 111 [] [(107,(pT g 0)),(109,(sL a1 s.thn.length a4)),(111,(iI ((deep:Int)+1)))] (Hr_ 2 1 (Ha_ (vi (n:=(deep:Int)+1)) Hn_)) bt V V fun _=>?_
 refine zc (ih.2 s.thn (deep+1) m8 (g_ bt V) Z M M M M) ?_;rintro _ pU ⟨g4,pr,co,bw,rfl,c3⟩;replace bw:=bt.bO bw;replace a2:=(((a2.mono b3).mono b6).mono b4).mono co;have hA:=congrArg List.length c3;rw[a00]at hA;refine ag 3 V ?_;refine bH 1 113 116 [] [(116,(.bool (decide ((0:Int)<(s.els.length:Int)))))] (Hr_ 1 1 Hn_) bw V V fun _=>?_
 refine zd 1 1 (fun nY=>?_) fun nY=>?_
 ·have cv:=st_3 (s:=s) (d:=deep) M M;have zM:=fz;rw[cv]at zM;simp only[a00]at zM;refine ab ?_;refine wTo 2 0 [] 117 118 [] [(117,(pT g 0)),(118,(iI (deep:Int)))] V fun _=>?_
  refine zlo ([⟨[125,32,101,108,115,101,32,123]⟩]:List Str) bw V (RL.cs V RL.nl) V fun p9 qo qy pV kl l8=>?_
  obtain⟨pw,fd,g0,k9,oJ⟩:=OS.frz kl l8 (i:=3) V;refine zc (di ex deep ([⟨[125,32,101,108,115,101,32,123]⟩]:List Str) g4 (g_ g0 V) k9 M M M) ?_;rintro _ pW ⟨m9,pu,fb,bF,rfl,f4⟩;replace bF:=g0.bO bF;replace a2:=(a2.mono fd).mono fb;have hB:=congrArg List.length f4;rw[a00]at hB;refine ag 1 V ?_;refine ab ?_;refine bW 5 0 121 125 [] [(121,(pT g 0)),(123,(sL ba s.els.length bf)),(125,(iI ((deep:Int)+1)))] (Hr_ 2 1 (Ha_ (vi (n:=(deep:Int)+1)) Hn_)) bF V V fun _=>?_
  refine zc (ih.2 s.els (deep+1) m9 (g_ bF V) a2 M M M M) ?_;rintro _ pX ⟨nc,px,i2,d6,rfl,f5⟩;replace d6:=bF.bO d6;have hD:=congrArg List.length f5;rw[a00]at hD;refine ag 1 V ?_;refine ab ?_;refine wTo 2 0 [] 127 128 [] [(127,(pT g 0)),(128,(iI (deep:Int)))] V fun _=>?_
  refine zlo ([⟨[125]⟩]:List Str) d6 V (RL.cs V RL.nl) V fun qa qp qz pY kn ma=>?_
  obtain⟨od,g6,ee,hl,n8⟩:=OS.frz kn ma (i:=4) V;refine zc (di ex deep ([⟨[125]⟩]:List Str) nc (g_ ee V) hl M M M) ?_;rintro _ oh ⟨hG,oc,g5,b8,rfl,d7⟩;replace b8:=ee.bO b8;have g2:=congrArg List.length d7;rw[a00]at g2;refine ag 1 V ?_;refine aD ⟨.inl V,_,V,hG,_,(fT (fT (fT (fT (fT (fT (fT (fT (b3) b6) b4) co) fd) fb) i2) g6) g5),(HS.first b8),V,(by(rw[cv,d7,f5,f4,c3,c0];simp only[aT,a0d];done))⟩
 have cv:=st_3n (s:=s) (d:=deep) M M;have zM:=fz;rw[cv]at zM;simp only[a00]at zM;refine ab ?_;refine wTo 2 0 [] 127 128 [] [(127,(pT g 0)),(128,(iI (deep:Int)))] V fun _=>?_
 refine zlo ([⟨[125]⟩]:List Str) bw V (RL.cs V RL.nl) V fun ox oQ oS oi hj ho=>?_
 obtain⟨og,g8,em,hn,n9⟩:=OS.frz hj ho (i:=3) V;refine zc (di ex deep ([⟨[125]⟩]:List Str) g4 (g_ em V) hn M M M) ?_;rintro _ oj ⟨hH,oe,g7,b9,rfl,d8⟩;replace b9:=em.bO b9;have g3:=congrArg List.length d8;rw[a00]at g3;refine ag 1 V ?_;refine aD ⟨.inl V,_,V,hH,_,(fT (fT (fT (fT (fT (b3) b6) b4) co) g8) g7),(HS.first b9),V,(by(rw[cv,d8,c3,c0];simp only[aT,a0d];done))⟩
theorem stmts5_c_s{g:Nat}{a7:Option Addr}{bf:Nat}(l:List StmT)(deep:Nat)(w:GdT)(hs:HS (.of H ((psG g w).map Prod.fst)) F H [(psG g w)] R)(hl:SR F (sL a7 l.length bf) l)(hd:deep+ev l<2000000000)(hw:dJ l=true)(ci:w.b.length+(bU l (sp deep)).length<=2000000000)(N:Nat)(ih:PrtAll5 ex N)(hm:2 *ev l+1<N+1):kKt ex 25 [(pT g 0),(sL a7 l.length bf),(iI (deep:Int))] H fun v H'=> ∃(w':GdT) (F':Fz),Fz.le F F'/\HS (.of H ((psG g w).map Prod.fst)) F' H' [(psG g w')] R/\v= .tuple #[]/\(w'.b=w.b++bU l (sp deep)):=by
 have b9:=kW l;refine av Tryz.func25 V V ?_;refine ai 1 V ?_;refine wT 2 [] 8 10 [] [(8,(sL a7 l.length bf)),(9,(iI (l.length:Int))),(10,(iI 0))] V fun _=>?_
 refine aj (fun(mm:Nat) f H'=> ∃(i:Nat) (E:GdT) (F':Fz),Fz.le F F'/\HS (Base.of H ((psG g w).map Prod.fst)) F' H' [(psG g E)] R/\aC f [(0,(pT g 0)),(2,(iI (deep:Int))),(8,(sL a7 l.length bf)),(9,(iI (l.length:Int))),(10,(iI (i:Int)))]/\mm=l.length-i/\(w.b++bU l (sp deep)=E.b++bU (l.drop i) (sp deep))/\(i<=l.length)) _ ⟨0,w,_,fR,hs,⟨V,V,V,V,V,trivial⟩,V,k_,M⟩ ?_;rintro b6 f2 H2 ⟨i,E,F2,Z,a_,a1,rfl,g1,hi⟩ a9;refine ap _ a1 (fun _=>?_);clear a1;replace hl:=hl.mono Z;refine ai 1 V ?_;refine wT 2 [] 11 11 [] [(11,(.bool (decide ((i:Int)<(l.length:Int)))))] V fun _=>?_
 refine zd 4 3 (fun c4=>?_) fun c4=>?_
 ·have qa:=ns_at (l:=l) (i:=i) M;have zg:=g1;rw[fmd5 M]at zg;have dn:=ci;have zh:=congrArg List.length zg;simp only[a00]at zh;refine ab ?_;obtain⟨A,a2⟩:=Sv.view (SR.sv hl a_);obtain⟨bl,bn,bt,bw,bF,b0,ba,bb,a5,ar,ax,aA,a0⟩:=StmT.fx (a2 i);let a3:Value:=(aG [(iI (l.getD i default).kind),(tX (l.getD i default).name.b),(tX (l.getD i default).to.b),(iI (l.getD i default).n),(iI (l.getD i default).at_.kind),(iI (l.getD i default).at_.n),(tX (l.getD i default).at_.name.b),(iI (l.getD i default).at_.op),(sL (cA (A i) 8) (l.getD i default).at_.kids.length (cK (A i) 8)),(iI (l.getD i default).val.kind),(iI (l.getD i default).val.n),(tX (l.getD i default).val.name.b),(iI (l.getD i default).val.op),(sL (cA (A i) 13) (l.getD i default).val.kids.length (cK (A i) 13)),(sL (cA (A i) 14) (l.getD i default).args.length (cK (A i) 14)),(sL (cA (A i) 15) (l.getD i default).thn.length (cK (A i) 15)),(sL (cA (A i) 16) (l.getD i default).els.length (cK (A i) 16))])
  refine bV 2 0 12 13 [] [(13,a3)] (Ha_ (Sv.ix (j:=(i:Int)) (SR.sv hl a_)) (Hl_ 1 (qn 63 0 17 (StmT.vw (a2 i)) V V V V) Hn_)) (by kernel_rfl) V fun _=>?_
  refine zn a_ V fun b8 H9 a8=>?_
  refine sgo 1 3 1 0 [] [] (Hr_ 3 1 Hn_) a8 V V fun b1 b3 O=>?_
  refine ag 1 V ?_;refine ab ?_;refine bW 3 0 14 16 [] [(14,(pT g 0)),(15,a3),(16,(iI (deep:Int)))] (Hr_ 1 1 Hn_) O V V fun _=>?_
  refine zc (ih.1 (l.getD i default) deep E (g_ O V) M M M M M a5 M M M ar ax aA a0 M (by exact wts_at hw M) M M) ?_;rintro _ b4 ⟨a6,b2,a4,U,rfl,al⟩;replace U:=O.bO U;have an:=congrArg List.length al;rw[a00]at an;refine ag 2 V ?_;refine wU 1 [] 10 10 [18] [(10,(iI ((i:Int)+1)))] (vi (n:=(i:Int)+1)) V fun _=>?_
  refine a9 _ _ _ ?_ ⟨i+1,a6,_,(fT (Z) a4),(HS.sub U (a05 _ _)),⟨V,V,V,V,V,trivial⟩,V,(by rw[zg,al,a0d]),M⟩;omega
 refine aD ⟨.inl V,_,V,E,_,(Z),(HS.first a_),V,(by rw[g1,cP M,bU,a0l])⟩
theorem iG(ex:FuncId): ∀N,PrtAll5 ex N
 |0=>⟨by intros;omega,by intros;omega⟩
 |N+1=>⟨by intros;apply stmt5_c_s ex (N:=N) (ih:=iG ex N)<;>assumption,by intros;apply stmts5_c_s ex (N:=N) (ih:=iG ex N)<;>assumption⟩
theorem stmts5_c{g:Nat}{A:Option Addr}{E:Nat}(l:List StmT)(deep:Nat)(w:GdT)(hs:HS (.of H ((psG g w).map Prod.fst)) F H [(psG g w)] R)(U:SR F (sL A l.length E) l)(hd:deep+ev l<2000000000)(Z:dJ l=true)(O:w.b.length+(bU l (sp deep)).length<=2000000000):kKt ex 25 [(pT g 0),(sL A l.length E),(iI (deep:Int))] H fun v H'=> ∃(w':GdT) (F':Fz),Fz.le F F'/\HS (.of H ((psG g w).map Prod.fst)) F' H' [(psG g w')] R/\v= .tuple #[]/\(w'.b=w.b++bU l (sp deep)):=by apply(iG ex (2 *ev l+1+1)).2<;>first|assumption|exact a0x _
def prT5(p:PrgT):List UInt8:=if ckP p=0 then txP p else []
theorem p5_0{p:PrgT}(h:ckP p≠0):prT5 p=[]:=by unfold prT5;rw[if_neg h]
theorem p5_1{p:PrgT}{s:List UInt8}(h:ckP p=0)(e:txP p=s):prT5 p=s:=by unfold prT5;rw[if_pos h,e]
theorem ar_x(a:ArrT):arT a=lnT 0 [⟨[97,114,114,97,121,32]⟩,⟨a.name.b⟩,⟨[32]⟩,⟨cJ a.len⟩,⟨[59]⟩]:=by unfold arT;simp[lnT,sp]
theorem fn_x5(f:FunT):fnT f=((lnT 0 [⟨[102,117,110,99,32]⟩,⟨f.name.b⟩,⟨[40]⟩,⟨jn f.pars⟩,⟨[41,32]⟩,⟨lcT f.locs⟩,⟨[123]⟩]++bU f.body (sp 1))++lnT 1 [⟨[114,101,116,117,114,110,32]⟩,⟨fmE f.val⟩,⟨[59]⟩])++lnT 0 [⟨[125]⟩]:=by unfold fnT;rw[show sp 1=[32,32] from rfl];simp[lnT,show sp 1=[32,32] from V,show sp 0=[] from rfl]
theorem lc_1{l:List Str}(h:0<l.length):lcT l=([118,97,114,32]++jn l)++[32]:=by unfold lcT;rw[if_pos h]
theorem lc_0{l:List Str}(h: ¬0<l.length):lcT l=[]:=by unfold lcT;rw[if_neg h]
theorem lc_le(l:List Str):(jn l).length<=(lcT l).length:=by
 cases l with
 |nil=>exact a08 _
 |cons a l=>rw[lc_1 (by simp)];simp only[a00];omega
theorem print5_c{Z:Option Addr}{ax:Nat}{aA:Option Addr}{a1:Nat}(p:PrgT)(hs:HS (.of H []) F H [] R)(al:SR F (sL aA p.arrs.length a1) p.arrs)(U:SR F (sL Z p.funs.length ax) p.funs)(hn:NmP p)(hz:SnP p)(d1:ckP p=0->(txP p).length<=2000000000):kKt ex 8 [(aG [(sL aA p.arrs.length a1),(sL Z p.funs.length ax)])] H fun v H'=> ∃(x:List UInt8) (F':Fz),Fz.le F F'/\HS (.of H []) F' H' [] R/\v=tX x/\x=prT5 p:=by
 obtain⟨om,oo,m0⟩:=hz;refine av Tryz.func8 V V ?_;refine ai 1 V ?_;refine ab ?_;refine bc (aX hs V V) V V ?_;rintro _ H2 _ ⟨b1,rfl,c8,_⟩;refine za (tX []) ?_;refine ag 3 V ?_;refine ab ?_;refine bW 1 0 9 9 [] [(9,(aG [(sL aA p.arrs.length a1),(sL Z p.funs.length ax)]))] (Hr_ 0 0 Hn_) c8 V V fun _=>?_
 refine zc (df.check5_c ex p (HS.call c8) al U (by exact hn)) ?_;rintro _ H4 ⟨o4,F4,b2,b3,rfl,rfl⟩;replace b3:=HS.back c8 V b3;replace al:=al.mono b2;replace U:=U.mono b2;refine bV 1 2 11 11 [] [(11,(.bool (ckP p !=0)))] Hn_ (by kernel_rfl) V fun _=>?_
 refine ag 1 V ?_;refine zi 1 2 (fun c6=>?_) fun c6=>?_
 ·try simp only[BS]at c6
  have b4:=c6;refine wT 1 [] 2 2 [] [(2,(tX []))] V fun _=>?_
  refine ae ⟨.inr V,_,V,[],_,(b2),(HS.forget b3),V,(by exact(p5_0 b4).symm)⟩
 try simp only[BS]at c6
 have b4:=c6;have od:=d1 b4;obtain⟨mv,oj⟩:=ck5_ok b4;refine ab ?_;refine zn b3 V fun b8 H9 ho=>?_
 refine ag 3 V ?_;have c7:HS _ _ _ [_,((psG b8) (⟨[],none,0,[],OS.nil⟩:GdT))] _:=ho;refine bH 2 12 15 [] [(13,(sL aA p.arrs.length a1)),(14,(iI (p.arrs.length:Int))),(15,(iI 0))] (Hr_ 1 0 Hn_) c7 V V fun _=>?_
 let e0:Fp:=(fP b1 [(sL aA p.arrs.length a1),(sL Z p.funs.length ax)])
 refine aj (fun(mm:Nat) f H'=> ∃(i:Nat) (O:GdT) (F':Fz),Fz.le F4 F'/\HS (Base.of H []) F' H' [e0,((psG b8) O)] R/\aC f [(1,(pT b1 0)),(3,(pT b8 0)),(13,(sL aA p.arrs.length a1)),(14,(iI (p.arrs.length:Int))),(15,(iI (i:Int)))]/\mm=p.arrs.length-i/\(txP p=O.b++((p.arrs.drop i).flatMap arT++p.funs.flatMap fnT))/\(i<=p.arrs.length)) _ ⟨0,(⟨[],none,0,[],OS.nil⟩:GdT),_,fR,c7,⟨V,V,V,V,V,trivial⟩,V,k_,M⟩ ?_;rintro hK ki h7 ⟨i,O,g6,a5,a2,c3,rfl,h1,hi⟩ f8;refine ap _ c3 (fun _=>?_);clear c3;replace al:=al.mono a5;replace U:=U.mono a5;refine ai 1 V ?_;refine wT 2 [] 16 16 [] [(16,(.bool (decide ((i:Int)<(p.arrs.length:Int)))))] V fun _=>?_
 refine zd 4 6 (fun hg=>?_) fun hg=>?_
 ·have zg:=h1;rw[fl_arr (l:=p.arrs) M,ar_x]at zg;have zh:=congrArg List.length zg;simp only[a00]at zh;refine ab ?_;obtain⟨hB,dn⟩:=Sv.view (SR.sv al a2);have hp:=ArrT.fx (dn i);refine bV 2 0 17 18 [] [(18,(aG [(tX (p.arrs.getD i default).name.b),(iI (p.arrs.getD i default).len)]))] (Ha_ (Sv.ix (j:=(i:Int)) (SR.sv al a2)) (Hl_ 1 (qn 49 0 2 (ArrT.vw (dn i)) V V V V) Hn_)) (by kernel_rfl) V fun _=>?_
  refine zn a2 V fun kd h8 f2=>?_
  refine sgo 1 3 1 0 [] [] (Hr_ 3 2 Hn_) f2 V V fun hD h9 a6=>?_
  refine ag 1 V ?_;refine aq V ?_;refine br 4 19 22 [] [(20,(tX (p.arrs.getD i default).name.b)),(22,(iI (p.arrs.getD i default).len))] (Hr_ 1 2 (Hr_ 3 2 Hn_)) a6 V V fun _=>?_
  refine aK (W:=[]) (aH V V V) V V V (w3.text_c ex (p.arrs.getD i default).len (HS.call a6.log0) M) (⟨.inl V,⟨.inl V,⟨.inr a0a,⟨.inr trivial,trivial⟩⟩⟩⟩) ?_;rintro _ g8 ⟨k6,hS,e1,an,rfl,rfl⟩;refine⟨Wr.did an.log,fun gm d2=>?_⟩;replace an:=HS.back a6.log0 V an;replace an:=HS.lg an a6 d2;generalize ({g8 with log:=gm}:Heap)=hv at an⊢;refine zld ([⟨[97,114,114,97,121,32]⟩,⟨(p.arrs.getD i default).name.b⟩,⟨[32]⟩,⟨cJ (p.arrs.getD i default).len⟩,⟨[59]⟩]:List Str) an V j_ V fun j1 kn k0 hw fb f3=>?_
  obtain⟨hV,e3,bl,fq,hG⟩:=OS.frz fb f3 (i:=3) V;refine aK (W:=(((psG b8) O).map Prod.fst)) (aH V V V) V V V (di ex 0 ([⟨[97,114,114,97,121,32]⟩,⟨(p.arrs.getD i default).name.b⟩,⟨[32]⟩,⟨cJ (p.arrs.getD i default).len⟩,⟨[59]⟩]:List Str) O (HS.callOwn bl.log0 (i:=1) V) fq M M M) (kb V) ?_;rintro _ g9 ⟨g0,hT,e2,ar,rfl,b9⟩;refine⟨HS.didW ar,fun go d3=>?_⟩;replace ar:=HS.backOwn bl.log0 (i:=1) V V (fun _ hb=>hb) ar;replace ar:=HS.lg ar bl d3;generalize ({g9 with log:=go}:Heap)=hx at ar⊢;have d5:=congrArg List.length b9;rw[a00]at d5;refine aO 2 V ?_;refine wU 1 [] 15 15 [26] [(15,(iI ((i:Int)+1)))] (vi (n:=(i:Int)+1)) V fun _=>?_
  refine f8 _ _ _ ?_ ⟨i+1,g0,_,(fT (fT (fT (a5) e1) e3) e2),(HS.sub ar (a05 _ _)),⟨V,V,V,V,V,trivial⟩,V,(by rw[zg,b9];simp only[a0d]),M⟩;omega
 refine bH 2 27 30 [] [(28,(sL Z p.funs.length ax)),(29,(iI (p.funs.length:Int))),(30,(iI 0))] (Hr_ 1 0 Hn_) a2 V V fun _=>?_
 refine aj (fun(mm:Nat) f H'=> ∃(k:Nat) (A:GdT) (F':Fz),Fz.le g6 F'/\HS (Base.of H []) F' H' [e0,((psG b8) A)] R/\aC f [(3,(pT b8 0)),(28,(sL Z p.funs.length ax)),(29,(iI (p.funs.length:Int))),(30,(iI (k:Int)))]/\mm=p.funs.length-k/\(txP p=A.b++(p.funs.drop k).flatMap fnT)/\(k<=p.funs.length)) _ ⟨0,O,_,fR,a2,⟨V,V,V,V,trivial⟩,V,(by exact h1.trans (by rw[cP M];rfl)),M⟩ ?_;rintro hQ kk ib ⟨k,A,g7,ba,a7,c4,rfl,g1,hk⟩ f9;refine ap _ c4 (fun _=>?_);clear c4;replace U:=U.mono ba;refine ai 1 V ?_;refine wT 2 [] 31 31 [] [(31,(.bool (decide ((k:Int)<(p.funs.length:Int)))))] V fun _=>?_
 refine zd 4 5 (fun hh=>?_) fun hh=>?_
 ·have zg:=g1;rw[fl_arr (l:=p.funs) M,fn_x5]at zg;have zh:=congrArg List.length zg;simp only[a00]at zh;have zx:=zh;simp only[iS,fm_cs,fm_1s,a00,a01,a03]at zx;have oi:=m0 (p.funs.getD k default) (dO M);have ld:=wf_ok mv (i:=k) M;have ol:=lc_le (p.funs.getD k default).locs;refine ab ?_;obtain⟨E,ds⟩:=Sv.view (SR.sv U a7);obtain⟨hq,hr,ht,em,et,a8,a9⟩:=FunT.fx (ds k);refine bV 2 0 32 33 [] [(33,(aG [(tX (p.funs.getD k default).name.b),(sL (cA (E k) 1) (p.funs.getD k default).pars.length (cK (E k) 1)),(sL (cA (E k) 2) (p.funs.getD k default).locs.length (cK (E k) 2)),(sL (cA (E k) 3) (p.funs.getD k default).body.length (cK (E k) 3)),(iI (p.funs.getD k default).val.kind),(iI (p.funs.getD k default).val.n),(tX (p.funs.getD k default).val.name.b),(iI (p.funs.getD k default).val.op),(sL (cA (E k) 8) (p.funs.getD k default).val.kids.length (cK (E k) 8))]))] (Ha_ (Sv.ix (j:=(k:Int)) (SR.sv U a7)) (Hl_ 1 (qn 53 0 9 (FunT.vw (ds k)) V V V V) Hn_)) (by kernel_rfl) V fun _=>?_
  refine zn a7 V fun hf ik f4=>?_
  refine sgo 1 3 1 0 [] [] (Hr_ 3 2 Hn_) f4 V V fun hF ez a0=>?_
  refine ag 2 V ?_;refine wT 3 [] 1 0 [8] [(8,(tX []))] V fun _=>?_
  refine bH 1 34 37 [] [(37,(.bool (decide ((0:Int)<((p.funs.getD k default).locs.length:Int)))))] (Hr_ 1 2 Hn_) a0 V V fun _=>?_
  refine hP (fun f H'=> ∃(lx:List UInt8),H'=ez/\aC f [(3,(pT b8 0)),(7,(pT hf 0)),(8,(tX lx)),(28,(sL Z p.funs.length ax)),(29,(iI (p.funs.length:Int))),(30,(iI (k:Int)))]/\(lx=lcT (p.funs.getD k default).locs)) (fun dt=>?_) ?_
  ·refine zd 0 0 (fun hj=>?_) fun hj=>?_
   ·refine bH 0 38 42 [8] [(8,(tX (([118,97,114,32]++(jn (p.funs.getD k default).locs))++[32])))] (Hr_ 1 2 (Hc_ 2 (dg.lh ex (p.funs.getD k default).locs (HS.call a0) et M M) (Ha_ (show([118,97,114,32]:List UInt8).length+(jn (p.funs.getD k default).locs:List UInt8).length<=1099511627776 from by(simp only[a00,a01,a03];omega)) (Ha_ (show([118,97,114,32]++(jn (p.funs.getD k default).locs):List UInt8).length+([32]:List UInt8).length<=1099511627776 from by(simp only[a00,a01,a03];omega)) Hn_)))) a0 V V fun _=>?_
    exact dt _ _ ⟨([118,97,114,32]++(jn (p.funs.getD k default).locs))++[32],V,⟨V,V,V,V,V,V,trivial⟩,(by exact(lc_1 M).symm)⟩
   exact dt _ _ ⟨[],V,⟨V,V,V,V,V,V,trivial⟩,(by exact(lc_0 M).symm)⟩
  skip;rintro kl ez ⟨lx,rfl,c5,hlx⟩;refine ap _ c5 (fun _=>?_);clear c5;rw[←hlx]at zg zh zx;refine ai 2 V ?_;refine aq V ?_;refine br 6 43 48 [] [(44,(tX (p.funs.getD k default).name.b)),(47,(tX (jn (p.funs.getD k default).pars))),(48,(tX lx))] (Hr_ 1 2 (Hr_ 3 2 (Hc_ 4 (dg.lh ex (p.funs.getD k default).pars (HS.call a0.log0) em M M) Hn_))) a0 V V fun _=>?_
  refine zld ([⟨[102,117,110,99,32]⟩,⟨(p.funs.getD k default).name.b⟩,⟨[40]⟩,⟨jn (p.funs.getD k default).pars⟩,⟨[41,32]⟩,⟨lx⟩,⟨[123]⟩]:List Str) a0 V j_ V fun j2 kt k3 hy fd f5=>?_
  obtain⟨hX,bf,bn,fu,hH⟩:=OS.frz fd f5 (i:=3) V;refine aK (W:=(((psG b8) A).map Prod.fst)) (aH V V V) V V V (di ex 0 ([⟨[102,117,110,99,32]⟩,⟨(p.funs.getD k default).name.b⟩,⟨[40]⟩,⟨jn (p.funs.getD k default).pars⟩,⟨[41,32]⟩,⟨lx⟩,⟨[123]⟩]:List Str) A (HS.callOwn bn.log0 (i:=1) V) fu M M M) (kb V) ?_;rintro _ ha ⟨g2,hW,bb,a_,rfl,ch⟩;refine⟨HS.didW a_,fun gq d4=>?_⟩;replace a_:=HS.backOwn bn.log0 (i:=1) V V (fun _ hb=>hb) a_;replace a_:=HS.lg a_ bn d4;generalize ({ha with log:=gq}:Heap)=hA at a_⊢;replace a8:=(a8.mono bf).mono bb;have d6:=congrArg List.length ch;rw[a00]at d6;refine aO 2 V ?_;refine ab ?_;refine bW 2 0 51 52 [] [(52,(sL (cA (E k) 3) (p.funs.getD k default).body.length (cK (E k) 3)))] (Hr_ 1 2 Hn_) a_ V V fun _=>?_
  refine zc (stmts5_c ex (p.funs.getD k default).body 1 g2 (HS.callOwn a_ (i:=1) V) a8 M (by exact ld.1) M) ?_;rintro _ it ⟨g3,h0,b6,a3,rfl,ci⟩;replace a3:=a_.bO a3;replace a9:=((a9.mono bf).mono bb).mono b6;have d7:=congrArg List.length ci;rw[a00]at d7;refine ag 2 V ?_;refine ab ?_;refine bW 2 0 54 55 [] [(55,(aG [(iI (p.funs.getD k default).val.kind),(iI (p.funs.getD k default).val.n),(tX (p.funs.getD k default).val.name.b),(iI (p.funs.getD k default).val.op),(sL (cA (E k) 8) (p.funs.getD k default).val.kids.length (cK (E k) 8))]))] (Hr_ 1 2 Hn_) a3 V V fun _=>?_
  refine zc (dg.gw ex (p.funs.getD k default).val (HS.call a3) M M M a9 M (by exact ld.2) M) ?_;rintro _ i1 ⟨k7,h2,e4,bt,rfl,rfl⟩;replace bt:=HS.back a3 V bt;refine zlo ([⟨[114,101,116,117,114,110,32]⟩,⟨fmE (p.funs.getD k default).val⟩,⟨[59]⟩]:List Str) bt V j_ V fun ka kx k4 i2 fi f6=>?_
  obtain⟨h4,e6,c9,f0,hI⟩:=OS.frz fi f6 (i:=4) V;refine zc (di ex 1 ([⟨[114,101,116,117,114,110,32]⟩,⟨fmE (p.funs.getD k default).val⟩,⟨[59]⟩]:List Str) g3 (HS.callOwn c9 (i:=1) V) f0 M M M) ?_;rintro _ i3 ⟨g4,h3,e5,bw,rfl,co⟩;replace bw:=c9.bO bw;have d8:=congrArg List.length co;rw[a00]at d8;refine ag 1 V ?_;refine ab ?_;refine zlo ([⟨[125]⟩]:List Str) bw V (RL.cs V RL.nl) V fun kc kA k5 jw fk f7=>?_
  obtain⟨h6,e8,dk,f1,hJ⟩:=OS.frz fk f7 (i:=5) V;refine zc (di ex 0 ([⟨[125]⟩]:List Str) g4 (HS.callOwn dk (i:=1) V) f1 M M M) ?_;rintro _ jA ⟨g5,h5,e7,bF,rfl,c0⟩;replace bF:=dk.bO bF;have ee:=congrArg List.length c0;rw[a00]at ee;refine ag 2 V ?_;refine wU 1 [] 30 30 [61] [(30,(iI ((k:Int)+1)))] (vi (n:=(k:Int)+1)) V fun _=>?_
  refine f9 _ _ _ ?_ ⟨k+1,g5,_,(fT (fT (fT (fT (fT (fT (fT (fT (ba) bf) bb) b6) e4) e6) e5) e8) e7),(HS.sub bF (a05 _ _)),⟨V,V,V,V,trivial⟩,V,(by rw[zg,c0,co,ci,ch];simp only[aT,a0d]),M⟩;omega
 have b0:HS _ _ _ [(fP b8 [(sL A.a A.b.length A.k)]),A.p] _:=(HS.only a7 (i:=1) V).reflat V;have mx:=A.up (F:=g7);refine ab ?_;refine bW 2 0 62 63 [] [(63,(sL A.a A.b.length A.k))] (Hr_ 1 0 Hn_) b0 V V fun _=>?_
 refine ao (v:=(tX A.b)) (jR V V V V (OS.sv mx b0 (i:=1) V)) V V ?_;refine za (tX A.b) ?_;refine ag 1 V ?_;refine ae ⟨.inr V,_,V,A.b,_,(fT (fT (b2) a5) ba),(HS.forget b0),V,(by exact(p5_1 b4 (g1.trans (by rw[cP M];exact a0l _))).symm)⟩
end Go.Proofs.YtkpgbdkkgcdhmaaGreat.dh
