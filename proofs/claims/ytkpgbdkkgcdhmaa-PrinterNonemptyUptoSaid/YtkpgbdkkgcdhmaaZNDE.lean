/-
Names that stand twice, and sets of names. No condition but that there are less than 2^62 of them.
-/
import Derived.Test.YtkpgbdkkgcdhmaaZNL1
import Derived.Test.YtkpgbdkkgcdhmaaZNDD
noncomputable section
namespace Go.Proofs.Ytkpgbdkkgcdhmaa.de
open Go.R
set_option maxRecDepth 10000
set_option linter.unusedVariables false
set_option linter.unusedSimpArgs false
variable (ex:FuncId) {F:Fz} {H:Heap} {R:List Fp}
open w3 l1 pt da db dc dd
def bM:List (List UInt8)->List Str->Bool
 |_,[]=>false
 |w,k::l=>if k.b∈w then true else bM (w++[k.b]) l
theorem dup_y{l m:List Str}{w:List (List UInt8)}{i:Nat}(h:i<l.length)(c:(l.getD i default).b∈w):bM w (l.drop i++m)=true:=by rw[drp5 (d:=default) h,a0x,bM,if_pos c]
theorem dup_n{l m:List Str}{w:List (List UInt8)}{i:Nat}(h:i<l.length)(c: ¬(l.getD i default).b∈w):bM w (l.drop i++m)=bM (w++[(l.getD i default).b]) (l.drop (i+1)++m):=by rw[drp5 (d:=default) h,a0x,bM,if_neg c]
theorem snoc_n{l:List ArrT}{i:Nat}(h:i<l.length):(l.take i).map ArrT.name++[(⟨(l.getD i default).name.b⟩:Str)]=(l.take (i+1)).map ArrT.name:=by rw[a1g,a09 h,a0J,a0b,a09 h];rfl
theorem snoc_f{l:List FunT}{i:Nat}(h:i<l.length):(l.take i).map FunT.name++[(⟨(l.getD i default).name.b⟩:Str)]=(l.take (i+1)).map FunT.name:=by rw[a1g,a09 h,a0J,a0b,a09 h];rfl
theorem fl_at{A:List (List Str)}{i:Nat}(h:i<A.length):(A.drop i).flatten=(A.getD i default).drop 0++(A.drop (i+1)).flatten:=by rw[drp5 (d:=default) h];rfl
theorem mw{a0:Option Addr}{a1:Nat}(ll:List (List Str))(hs:HS (.of H []) F H [] R)(a4:SR F (sL a0 ll.length a1) ll)(hn:ll.length<4611686018427387904)(hv: ∀i,i<ll.length->(ll.getD i default).length<4611686018427387904):kKt ex 39 [(sL a0 ll.length a1)] H fun v H'=> ∃(o:Bool) (F':Fz),Fz.le F F'/\HS (.of H []) F' H' [] R/\v= .bool o/\o=bM [] ll.flatten:=by
 refine aI Try.func39 V V ?_;refine ap 1 V ?_;refine wT 2 [] 2 2 [] [(2,(.bool false))] V fun _=>?_
 refine ad ?_;refine ce (rs_mapN hs) V V ?_;rintro _ H3 _ ⟨b2,rfl,a9,_⟩;refine wa (.map (some b2)) V V V ?_;refine am 3 V ?_;refine wT 2 [] 9 11 [] [(9,(sL a0 ll.length a1)),(10,(iI (ll.length:Int))),(11,(iI 0))] V fun _=>?_
 refine au (fun(mm:Nat) f H'=> ∃(i:Nat) (O:List (List UInt8)) (F':Fz),Fz.le F F'/\HS (Base.of H []) F' H' [(tabB b2 O)] R/\aM f [(3,(.map (some b2))),(9,(sL a0 ll.length a1)),(10,(iI (ll.length:Int))),(11,(iI (i:Int)))]/\mm=ll.length-i/\(bM [] ll.flatten=bM O (ll.drop i).flatten)/\(i<=ll.length)) _ ⟨0,[],_,fR,a9,(agC V (agC V (agC V (agC V agN)))),V,q_,(by first|assumption|omega|(simp at *;omega))⟩ ?_;rintro b0 f5 H5 ⟨i,O,F5,an,ar,a2,rfl,h1,hi⟩ ba;refine aF _ a2 (fun _=>?_);clear a2;replace a4:=a4.mono an;refine ap 1 V ?_;refine wT 2 [] 12 12 [] [(12,(.bool (decide ((i:Int)<(ll.length:Int)))))] V fun _=>?_
 refine ao 4 5 (v:=(decide ((i:Int)<(ll.length:Int)))) V V V V (fun c7=>?_) (fun c7=>?_)
 ·try simp only[BS]at c7
  have ci:=hv i M;obtain⟨U,a3⟩:=Sv.view (SR.sv a4 ar);have s9:=fL (a3 i);refine wrp 2 13 14 [5] [(5,(sL (cA (U i) 0) (ll.getD i default).length (cK (U i) 0)))] (Ha_ (Sv.ix (j:=(i:Int)) (SR.sv a4 ar) M M) (Hl_ 1 (ql 36 0 (vL (a3 i) M) V V) Hn_)) (by kernel_rfl) V fun _=>?_
  refine wT 2 [] 15 17 [] [(15,(sL (cA (U i) 0) (ll.getD i default).length (cK (U i) 0))),(16,(iI ((ll.getD i default).length:Int))),(17,(iI 0))] V fun _=>?_
  refine au (fun(mm:Nat) f H'=> ∃(j:Nat) (A:List (List UInt8)) (F':Fz),Fz.le F5 F'/\HS (Base.of H []) F' H' [(tabB b2 A)] R/\aM f [(3,(.map (some b2))),(9,(sL a0 ll.length a1)),(10,(iI (ll.length:Int))),(11,(iI (i:Int))),(15,(sL (cA (U i) 0) (ll.getD i default).length (cK (U i) 0))),(16,(iI ((ll.getD i default).length:Int))),(17,(iI (j:Int)))]/\mm=(ll.getD i default).length-j/\(bM [] ll.flatten=bM A ((ll.getD i default).drop j++(ll.drop (i+1)).flatten))/\(j<=(ll.getD i default).length)) _ ⟨0,O,_,fR,ar,(agC V (agC V (agC V (agC V (agC V (agC V (agC V agN))))))),V,(by rw[h1,fl_at M]),(by first|assumption|omega|(simp at *;omega))⟩ ?_;rintro bl bF bt ⟨j,A,bn,a_,E,aA,rfl,g1,hj⟩ a8;refine aF _ aA (fun _=>?_);clear aA;replace s9:=s9.mono a_;refine ap 1 V ?_;refine wT 2 [] 18 18 [] [(18,(.bool (decide ((j:Int)<((ll.getD i default).length:Int)))))] V fun _=>?_
  refine ao 4 5 (v:=(decide ((j:Int)<((ll.getD i default).length:Int)))) V V V V (fun ax=>?_) (fun ax=>?_)
  ·try simp only[BS]at ax
   obtain⟨bf,a7⟩:=Sv.view (SR.sv s9 E);refine wrp 3 19 20 [7] [(7,(tX ((ll.getD i default).getD j default).b))] (Ha_ (Sv.ix (j:=(j:Int)) (SR.sv s9 E) M M) (Hl_ 1 (ql 9 0 (vS (a7 j) M) V V) Hn_)) (by kernel_rfl) V fun _=>?_
   refine ad ?_;refine wTo 2 0 [] 21 22 [] [(21,(.map (some b2))),(22,(tX ((ll.getD i default).getD j default).b))] V fun _=>?_
   refine aP (v:=(.bool (decide (((ll.getD i default).getD j default).b∈A)))) (ap_lookN E (q:=0) V V V V V V V) V V ?_;refine am 1 V ?_;refine ao 1 1 (v:=(decide (((ll.getD i default).getD j default).b∈A))) V V V V (fun Z=>?_) (fun Z=>?_)
   ·try simp only[BS]at Z
    have a5:=dup_y (m:=(ll.drop (i+1)).flatten) (l:=ll.getD i default) (i:=j) M (by simpa using Z);refine wT 1 [] 2 2 [] [(2,(.bool true))] V fun _=>?_
    refine ag ⟨.inr V,_,V,true,_,(fT (an) a_),(HS.forget E),V,(by first|(rw[h1,ia M];rfl)|(rw[g1,a5]))⟩
   try simp only[BS]at Z
   have b8:=dup_n (m:=(ll.drop (i+1)).flatten) (l:=ll.getD i default) (i:=j) M (by simpa using Z);refine ad ?_;refine wTo 2 0 [] 24 25 [] [(24,(.map (some b2))),(25,(tX ((ll.getD i default).getD j default).b))] V fun _=>?_
   refine lQ (rs_updN (k:=((ll.getD i default).getD j default).b) E (q:=0) V V V V V V) V ?_;rintro _ bw _ ⟨a6,_⟩;refine am 2 V ?_;refine wU 1 [] 17 17 [26] [(17,(iI ((j:Int)+1)))] (vi (n:=(j:Int)+1) M) V fun _=>?_
   refine a8 _ _ _ ?_ ⟨j+1,A++[((ll.getD i default).getD j default).b],_,(a_),a6,(agC V (agC V (agC V (agC V (agC V (agC V (agC V agN))))))),V,(by exact g1.trans b8),(by first|assumption|omega|(simp at *;omega))⟩;omega
  try simp only[BS]at ax
  refine wU 1 [] 11 11 [27] [(11,(iI ((i:Int)+1)))] (vi (n:=(i:Int)+1) M) V fun _=>?_
  refine ba _ _ _ ?_ ⟨i+1,A,_,(fT (an) a_),E,(agC V (agC V (agC V (agC V agN)))),V,(by rw[g1,ia M,a0e]),(by first|assumption|omega|(simp at *;omega))⟩;omega
 try simp only[BS]at c7
 refine wT 1 [] 2 2 [] [(2,(.bool false))] V fun _=>?_
 refine ag ⟨.inr V,_,V,false,_,(an),(HS.forget ar),V,(by first|(rw[h1,ia M];rfl)|(rw[g1,a5]))⟩
theorem decl_c{a0:Option Addr}{a2:Nat}{aA:Option Addr}{a1:Nat}(p:PrgT)(hs:HS (.of H []) F H [] R)(a5:SR F (sL aA p.arrs.length a1) p.arrs)(an:SR F (sL a0 p.funs.length a2) p.funs)(hn:p.arrs.length<1000000000)(hm:p.funs.length<1000000000):kKt ex 38 [(aG [(sL aA p.arrs.length a1),(sL a0 p.funs.length a2)])] H fun v H'=> ∃(g8:Option Addr) (ha:Nat) (al:List Str) (g9:Option Addr) (hb:Nat) (fl:List Str) (F':Fz),Fz.le F F'/\HS (.of H []) F' H' [] R/\v= .tuple ⟨[sL g8 al.length ha,sL g9 fl.length hb]⟩/\SR F' (sL g8 al.length ha) al/\SR F' (sL g9 fl.length hb) fl/\al=p.arrs.map ArrT.name/\fl=p.funs.map FunT.name:=by
 refine aI Try.func38 V V ?_;refine ap 1 V ?_;refine ad ?_;refine ce (b5 hs V V) V V ?_;rintro _ H2 _ ⟨b1,rfl,b8,_⟩;refine wTo 2 1 [] 2 3 [] [(2,(sL none 0 0)),(3,(sL none 0 0))] V fun _=>?_
 refine am 2 V ?_;refine wT 3 [] 1 0 [4,5] [(4,(sL none 0 0)),(5,(sL none 0 0))] V fun _=>?_
 refine ef 2 10 13 [] [(11,(sL aA p.arrs.length a1)),(12,(iI (p.arrs.length:Int))),(13,(iI 0))] (Hr_ 1 0 Hn_) b8 V V fun _=>?_
 have d4:=HS.snoc b8;let ci:Fp:=(fP b1 [(sL aA p.arrs.length a1),(sL a0 p.funs.length a2)])
 refine au (fun(mm:Nat) f H'=> ∃(al:List Str) (i:Nat) (O:Option Addr) (U:Nat) (ax:Fp) (F':Fz),Fz.le F F'/\HS (Base.of H []) F' H' [ci,ax] R/\OS F' (sL O al.length U) al ax/\aM f [(1,(pT b1 0)),(4,(sL O al.length U)),(5,(sL none 0 0)),(11,(sL aA p.arrs.length a1)),(12,(iI (p.arrs.length:Int))),(13,(iI (i:Int)))]/\mm=p.arrs.length-i/\(al=(p.arrs.take i).map ArrT.name)/\(i<=p.arrs.length)) _ ⟨([]:List Str),0,none,0,[],_,fR,d4,(OS.nil:OS _ (sL none 0 0) ([]:List Str) []),(agC V (agC V (agC V (agC V (agC V (agC V agN)))))),V,q_,(by first|assumption|omega|(simp at *;omega))⟩ ?_;rintro g4 f6 H6 ⟨al,i,O,U,ax,F6,a9,a7,ar,b6,rfl,hal,hi⟩ d5;refine aF _ b6 (fun _=>?_);clear b6;replace a5:=a5.mono a9;replace an:=an.mono a9;refine ap 1 V ?_;refine wT 2 [] 14 14 [] [(14,(.bool (decide ((i:Int)<(p.arrs.length:Int)))))] V fun _=>?_
 refine ao 4 6 (v:=(decide ((i:Int)<(p.arrs.length:Int)))) V V V V (fun c9=>?_) (fun c9=>?_)
 ·try simp only[BS]at c9
  refine ad ?_;obtain⟨e4,b0⟩:=Sv.view (SR.sv a5 a7);have d8:=ArrT.fx (b0 i);refine dG 2 0 15 16 [] [(16,(aG [(tX (p.arrs.getD i default).name.b),(iI (p.arrs.getD i default).len)]))] (Ha_ (Sv.ix (j:=(i:Int)) (SR.sv a5 a7) (by first|omega|(dsimp only;omega)|(rw[hal];simp;omega)|(rw[hfl];simp;omega)) (by first|omega|(dsimp only;omega)|(rw[hal];simp;omega)|(rw[hfl];simp;omega))) (Hl_ 1 (qn 46 0 2 (ArrT.vw (b0 i) (by first|omega|(dsimp only;omega)|(rw[hal];simp;omega)|(rw[hfl];simp;omega))) V V V V) Hn_)) (by kernel_rfl) V fun _=>?_
  refine zn a7 V fun go fu c7=>?_
  refine sgo 1 3 1 0 [] [] (Hr_ 3 2 Hn_) c7 V V fun e5 f0 bn=>?_
  refine am 1 V ?_;refine ad ?_;refine du 3 0 17 19 [] [(17,(sL O al.length U)),(19,(tX (p.arrs.getD i default).name.b))] (Hr_ 2 2 Hn_) bn V V fun _=>?_
  refine zlo ([⟨(p.arrs.getD i default).name.b⟩]:List Str) bn V (RL.cs V RL.nl) V fun f9 g2 g5 f1 c0 bt=>?_
  refine zao 1 ar bt (OS.sv c0 bt (i:=3) V) V V V (by first|omega|(simp only[a00,a01,a02];omega)|(rw[hal];simp;omega)|(rw[hfl];simp;omega)) fun b3 b9 d6 f2 c3 c8=>?_
  refine wa (sL b3 (al++([⟨(p.arrs.getD i default).name.b⟩]:List Str)).length b9) V V V ?_;refine am 2 V ?_;refine wU 1 [] 13 13 [22] [(13,(iI ((i:Int)+1)))] (vi (n:=(i:Int)+1) (by first|omega|(dsimp only;omega)|(rw[hal];simp;omega)|(rw[hfl];simp;omega))) V fun _=>?_
  refine d5 _ _ _ ?_ ⟨al++([⟨(p.arrs.getD i default).name.b⟩]:List Str),i+1,b3,b9,d6,_,(a9),(HS.sub c8 (a06 _ _)),c3,(agC V (agC V (agC V (agC V (agC V (agC V agN)))))),V,(by rw[hal,snoc_n M]),(by first|assumption|omega|(simp at *;omega))⟩;omega
 try simp only[BS]at c9
 refine ef 2 23 26 [] [(24,(sL a0 p.funs.length a2)),(25,(iI (p.funs.length:Int))),(26,(iI 0))] (Hr_ 1 0 Hn_) a7 V V fun _=>?_
 have dk:=HS.snoc a7;refine au (fun(mm:Nat) f H'=> ∃(fl:List Str) (k:Nat) (A:Option Addr) (E:Nat) (a3:Fp) (F':Fz),Fz.le F6 F'/\HS (Base.of H []) F' H' [ci,ax,a3] R/\OS F' (sL A fl.length E) fl a3/\aM f [(4,(sL O al.length U)),(5,(sL A fl.length E)),(24,(sL a0 p.funs.length a2)),(25,(iI (p.funs.length:Int))),(26,(iI (k:Int)))]/\mm=p.funs.length-k/\(fl=(p.funs.take k).map FunT.name)/\(k<=p.funs.length)) _ ⟨([]:List Str),0,none,0,[],_,fR,dk,(OS.nil:OS _ (sL none 0 0) ([]:List Str) []),(agC V (agC V (agC V (agC V (agC V agN))))),V,q_,(by first|assumption|omega|(simp at *;omega))⟩ ?_;rintro fb g1 f3 ⟨fl,k,A,E,a3,fd,a4,a6,Z,bl,rfl,hfl,hk⟩ d2;refine aF _ bl (fun _=>?_);clear bl;replace an:=an.mono a4;replace ar:=ar.mono a4;refine ap 1 V ?_;refine wT 2 [] 27 27 [] [(27,(.bool (decide ((k:Int)<(p.funs.length:Int)))))] V fun _=>?_
 refine ao 4 5 (v:=(decide ((k:Int)<(p.funs.length:Int)))) V V V V (fun ba=>?_) (fun ba=>?_)
 ·try simp only[BS]at ba
  refine ad ?_;obtain⟨a_,b2⟩:=Sv.view (SR.sv an a6);obtain⟨ee,em,et,ez,e0,e1,e2⟩:=FunT.fx (b2 k);refine dG 2 0 28 29 [] [(29,(aG [(tX (p.funs.getD k default).name.b),(sL (cA (a_ k) 1) (p.funs.getD k default).pars.length (cK (a_ k) 1)),(sL (cA (a_ k) 2) (p.funs.getD k default).locs.length (cK (a_ k) 2)),(sL (cA (a_ k) 3) (p.funs.getD k default).body.length (cK (a_ k) 3)),(iI (p.funs.getD k default).val.kind),(iI (p.funs.getD k default).val.n),(tX (p.funs.getD k default).val.name.b),(iI (p.funs.getD k default).val.op),(sL (cA (a_ k) 8) (p.funs.getD k default).val.kids.length (cK (a_ k) 8))]))] (Ha_ (Sv.ix (j:=(k:Int)) (SR.sv an a6) (by first|omega|(dsimp only;omega)|(rw[hal];simp;omega)|(rw[hfl];simp;omega)) (by first|omega|(dsimp only;omega)|(rw[hal];simp;omega)|(rw[hfl];simp;omega))) (Hl_ 1 (qn 42 0 9 (FunT.vw (b2 k) (by first|omega|(dsimp only;omega)|(rw[hal];simp;omega)|(rw[hfl];simp;omega))) V V V V) Hn_)) (by kernel_rfl) V fun _=>?_
  refine zn a6 V fun g0 f4 dn=>?_
  refine sgo 1 3 1 0 [] [] (Hr_ 3 3 Hn_) dn V V fun e6 f5 bw=>?_
  refine am 1 V ?_;refine ad ?_;refine du 3 0 30 32 [] [(30,(sL A fl.length E)),(32,(tX (p.funs.getD k default).name.b))] (Hr_ 2 3 Hn_) bw V V fun _=>?_
  refine zlo ([⟨(p.funs.getD k default).name.b⟩]:List Str) bw V (RL.cs V RL.nl) V fun gm g3 g6 f7 c4 bF=>?_
  refine zao 2 Z bF (OS.sv c4 bF (i:=4) V) V V V (by first|omega|(simp only[a00,a01,a02];omega)|(rw[hal];simp;omega)|(rw[hfl];simp;omega)) fun b4 ch d7 f8 c5 ds=>?_
  refine wa (sL b4 (fl++([⟨(p.funs.getD k default).name.b⟩]:List Str)).length ch) V V V ?_;refine am 2 V ?_;refine wU 1 [] 26 26 [35] [(26,(iI ((k:Int)+1)))] (vi (n:=(k:Int)+1) (by first|omega|(dsimp only;omega)|(rw[hal];simp;omega)|(rw[hfl];simp;omega))) V fun _=>?_
  refine d2 _ _ _ ?_ ⟨fl++([⟨(p.funs.getD k default).name.b⟩]:List Str),k+1,b4,ch,d7,_,(a4),(HS.sub ds (a06 _ _)),c5,(agC V (agC V (agC V (agC V (agC V agN))))),V,(by rw[hfl,snoc_f M]),(by first|assumption|omega|(simp at *;omega))⟩;omega
 try simp only[BS]at ba
 refine wT 1 [] 2 3 [36,37] [(2,(sL O al.length U)),(3,(sL A fl.length E))] V fun _=>?_
 obtain⟨fi,bb,dt,a8,e7⟩:=OS.frz ar a6 (i:=1) V;replace Z:=Z.mono bb;obtain⟨fq,bf,d1,c6,e8⟩:=OS.frz Z dt (i:=2) V;replace a8:=a8.mono bf;refine ag ⟨.inr V,_,V,O,U,al,A,E,fl,_,(fT (fT (fT (a9) a4) bb) bf),(HS.forget d1),V,a8,c6,(by first|(rw[hal,a0t M])|(rw[hfl,a0t M])),(by first|(rw[hal,a0t M])|(rw[hfl,a0t M]))⟩
def tbS(A:List (List Str)):List (List UInt8):=A.flatten.map (·.b)
theorem tk_sn{l:List Str}{j:Nat}(h:j<l.length):(l.take j).map (·.b)++[(l.getD j default).b]=(l.take (j+1)).map (·.b):=by rw[a1g,a09 h,a0J,a0b,a09 h];rfl
theorem tk_fl{A:List (List Str)}{i:Nat}(h:i<A.length):(A.take i).flatten.map (·.b)++(A.getD i default).map (·.b)=(A.take (i+1)).flatten.map (·.b):=by rw[a1g,a09 h,a0R,a0J,a0b,a09 h];simp
def dup0(p:PrgT):Bool:=bM [] ([p.arrs.map ArrT.name]:List (List Str)).flatten||bM [] ([p.funs.map FunT.name]:List (List Str)).flatten
def dupF5(p:PrgT)(g:FunT):Bool:=bM [] ([p.arrs.map ArrT.name,g.pars,g.locs]:List (List Str)).flatten
def gH(p:PrgT):Bool:=dup0 p||p.funs.any (dupF5 p)
theorem an5_y{α:Type} [Inhabited α]{p:α->Bool}{l:List α}{i:Nat}(h:i<l.length)(c:p (l.getD i default)=true):(l.drop i).any p=true:=by rw[drp5 (d:=default) h,List.any_cons,c];rfl
theorem an5_n{α:Type} [Inhabited α]{p:α->Bool}{l:List α}{i:Nat}(h:i<l.length)(c:p (l.getD i default)=false):(l.drop i).any p=(l.drop (i+1)).any p:=by rw[drp5 (d:=default) h,List.any_cons,c];rfl
theorem dups_c{al:Option Addr}{aA:Nat}{a6:Option Addr}{a8:Nat}(p:PrgT)(hs:HS (.of H []) F H [] R)(d6:SR F (sL a6 p.arrs.length a8) p.arrs)(E:SR F (sL al p.funs.length aA) p.funs)(hn:NmP p)(ha:p.arrs.length<1000000000)(hm:p.funs.length<1000000000):kKt ex 19 [(aG [(sL a6 p.arrs.length a8),(sL al p.funs.length aA)])] H fun v H'=> ∃(o:Bool) (F':Fz),Fz.le F F'/\HS (.of H []) F' H' [] R/\v= .bool o/\o=gH p:=by
 obtain⟨hy,hz,hA,e0⟩:=hn;refine aI Try.func19 V V ?_;refine ap 1 V ?_;refine ad ?_;refine ce (b5 hs V V) V V ?_;rintro _ H2 _ ⟨b1,rfl,b6,_⟩;refine wa (.bool false) V V V ?_;refine am 2 V ?_;refine ad ?_;refine du 1 0 8 8 [] [(8,(aG [(sL a6 p.arrs.length a8),(sL al p.funs.length aA)]))] (Hr_ 0 0 Hn_) b6 V V fun _=>?_
 refine ay (aq V V V) V V (decl_c ex p (HS.call b6) d6 E M M) ?_;rintro _ H4 ⟨Z,ax,g5,ba,bl,g8,F4,bt,co,rfl,U,c3,rfl,rfl⟩;replace co:=HS.back b6 V co;replace E:=E.mono bt;refine dG 5 2 10 11 [3,4,7] [(3,(sL Z (p.arrs.map ArrT.name).length ax)),(4,(sL ba (p.funs.map FunT.name).length bl))] Hn_ (by kernel_rfl) V fun _=>?_
 refine am 3 V ?_;let c6:Fp:=(fP b1 [(sL a6 p.arrs.length a8),(sL al p.funs.length aA)])
 refine wk_rcut 12 19 [] [(19,(.bool (bM [] ([p.arrs.map ArrT.name]:List (List Str)).flatten||bM [] ([p.funs.map FunT.name]:List (List Str)).flatten)))] (fun H'=> ∃F',Fz.le F4 F'/\HS (Base.of H []) F' H' [c6] R) ?_ ?_
 ·refine ad ?_;refine wm (sL Z (p.arrs.map ArrT.name).length ax) V V V ?_;refine zlo ([p.arrs.map ArrT.name]:List (List Str)) co V (RL.cs ⟨Z,ax,V,U⟩ RL.nl) V fun g2 hb hl f4 dt b2=>?_
  obtain⟨fd,c7,b3,d7,d3⟩:=OS.frz dt b2 (i:=1) V;refine ay (aq V V V) V V (mw ex ([p.arrs.map ArrT.name]:List (List Str)) (HS.call b3) d7 (by first|(simp only[a01,a02];omega)|(intro i hi;rcases i with _|_|_|i<;>first|exact a4|exact a5|(show List.length (List.map _ _)<_;rw[a0U];omega)|(simp at hi;omega)|(simp at hi;done))) (by first|(simp only[a01,a02];omega)|(intro i hi;rcases i with _|_|_|i<;>first|exact a4|exact a5|(show List.length (List.map _ _)<_;rw[a0U];omega)|(simp at hi;omega)|(simp at hi;done)))) ?_;rintro _ f5 ⟨hg,fi,c8,an,rfl,rfl⟩;replace an:=HS.back b3 V an;replace an:=HS.thaw b2 (i:=1) V c7 d3 c8 an;refine wm (.bool (bM [] ([p.arrs.map ArrT.name]:List (List Str)).flatten)) V V V ?_;refine wo_gsF (v:=(bM [] ([p.arrs.map ArrT.name]:List (List Str)).flatten)) V V (fun O=>?_) (fun O=>?_)
  ·have bn:=O;try simp only[BS]at bn
   refine wm (sL ba (p.funs.map FunT.name).length bl) V V V ?_;refine eE V O ?_;refine zlo ([p.funs.map FunT.name]:List (List Str)) an V (RL.cs ⟨ba,bl,V,c3⟩ RL.nl) V fun g3 he ho f6 d1 b4=>?_
   refine eE V O ?_;obtain⟨fq,c9,b8,d8,d4⟩:=OS.frz d1 b4 (i:=2) V;refine ay (aq V V V) V V (mw ex ([p.funs.map FunT.name]:List (List Str)) (HS.call b8) d8 (by first|(simp only[a01,a02];omega)|(intro i hi;rcases i with _|_|_|i<;>first|exact a4|exact a5|(show List.length (List.map _ _)<_;rw[a0U];omega)|(simp at hi;omega)|(simp at hi;done))) (by first|(simp only[a01,a02];omega)|(intro i hi;rcases i with _|_|_|i<;>first|exact a4|exact a5|(show List.length (List.map _ _)<_;rw[a0U];omega)|(simp at hi;omega)|(simp at hi;done)))) ?_;rintro _ f7 ⟨hh,fu,dk,a3,rfl,rfl⟩;replace a3:=HS.back b8 V a3;replace a3:=HS.thaw b4 (i:=2) V c9 d4 dk a3;refine aP (v:=(.bool (bM [] ([p.funs.map FunT.name]:List (List Str)).flatten))) (iE V O V) V V ?_;refine bW ?_;exact bE ⟨V,⟨_,fR,HS.sub a3 (a06 _ _)⟩,(Lu V (Lu V (Lu V (Lu V (Lu V (Lu V (Lu V (Lu V Lr)))))))),(agC (congrArg Value.bool (show bM [] ([p.funs.map FunT.name]:List (List Str)).flatten=(bM [] ([p.arrs.map ArrT.name]:List (List Str)).flatten||bM [] ([p.funs.map FunT.name]:List (List Str)).flatten) by first|rfl|simp only[↓O,BT]|grind)) agN)⟩
  have bn:=O;try simp only[BS]at bn
  refine cN V O V ?_;refine cN V O V ?_;refine aP (v:=(.bool true)) (gD V O V) V V ?_;refine bW ?_;exact bE ⟨V,⟨_,fR,HS.sub an (a06 _ _)⟩,(Lu V (Lu V (Lu V (Lu V (Lu V (Lu V (Lu V (Lu V Lr)))))))),(agC (congrArg Value.bool (show true=(bM [] ([p.arrs.map ArrT.name]:List (List Str)).flatten||bM [] ([p.funs.map FunT.name]:List (List Str)).flatten) by first|rfl|simp only[↓O,BT]|grind)) agN)⟩
 skip;rintro g9 f3 ⟨ez,a1,bf⟩;replace E:=E.mono a1;replace U:=U.mono a1;refine ap 1 V ?_;refine ao 1 3 (v:=(bM [] ([p.arrs.map ArrT.name]:List (List Str)).flatten||bM [] ([p.funs.map FunT.name]:List (List Str)).flatten)) V V V V (fun a0=>?_) (fun a0=>?_)
 ·have bw:=a0;try simp only[BS]at bw
  have a_:dup0 p=true:=a0;refine wT 1 [] 2 2 [] [(2,(.bool true))] V fun _=>?_
  refine ag ⟨.inr V,_,V,true,_,(fT (bt) a1),(HS.forget bf),V,(by first|(unfold gH;rw[a_];rfl)|(unfold gH;rw[a_,g1,bb];rfl)|(unfold gH;rw[a_,g1,ia M];rfl))⟩
 have bw:=a0;try simp only[BS]at bw
 have a_:dup0 p=false:=a0;refine ef 2 20 23 [] [(21,(sL al p.funs.length aA)),(22,(iI (p.funs.length:Int))),(23,(iI 0))] (Hr_ 1 0 Hn_) bf V V fun _=>?_
 refine au (fun(mm:Nat) f H'=> ∃(i:Nat) (F':Fz),Fz.le ez F'/\HS (Base.of H []) F' H' [c6] R/\aM f [(3,(sL Z (p.arrs.map ArrT.name).length ax)),(21,(sL al p.funs.length aA)),(22,(iI (p.funs.length:Int))),(23,(iI (i:Int)))]/\mm=p.funs.length-i/\(p.funs.any (dupF5 p)=(p.funs.drop i).any (dupF5 p))/\(i<=p.funs.length)) _ ⟨0,_,fR,bf,(agC V (agC V (agC V (agC V agN)))),V,q_,(by first|assumption|omega|(simp at *;omega))⟩ ?_;rintro fb g7 f8 ⟨i,f0,a2,a7,b0,rfl,g1,hk⟩ et;refine aF _ b0 (fun _=>?_);clear b0;replace E:=E.mono a2;replace U:=U.mono a2;refine ap 1 V ?_;refine wT 2 [] 24 24 [] [(24,(.bool (decide ((i:Int)<(p.funs.length:Int)))))] V fun _=>?_
 refine ao 4 5 (v:=(decide ((i:Int)<(p.funs.length:Int)))) V V V V (fun bF=>?_) (fun bF=>?_)
 ·try simp only[BS]at bF
  obtain⟨hq,hr,ht,a4,a5,hu,hv,hw,hx⟩:=e0 i M;refine ad ?_;obtain⟨A,c0⟩:=Sv.view (SR.sv E a7);obtain⟨e1,e2,e3,c4,c5,e4,e5⟩:=FunT.fx (c0 i);refine dG 2 0 25 26 [] [(26,(aG [(tX (p.funs.getD i default).name.b),(sL (cA (A i) 1) (p.funs.getD i default).pars.length (cK (A i) 1)),(sL (cA (A i) 2) (p.funs.getD i default).locs.length (cK (A i) 2)),(sL (cA (A i) 3) (p.funs.getD i default).body.length (cK (A i) 3)),(iI (p.funs.getD i default).val.kind),(iI (p.funs.getD i default).val.n),(tX (p.funs.getD i default).val.name.b),(iI (p.funs.getD i default).val.op),(sL (cA (A i) 8) (p.funs.getD i default).val.kids.length (cK (A i) 8))]))] (Ha_ (Sv.ix (j:=(i:Int)) (SR.sv E a7) M M) (Hl_ 1 (qn 42 0 9 (FunT.vw (c0 i) M) V V V V) Hn_)) (by kernel_rfl) V fun _=>?_
  refine zn a7 V fun g6 f9 em=>?_
  refine sgo 1 3 1 0 [] [] (Hr_ 3 1 Hn_) em V V fun e8 gm b9=>?_
  refine am 2 V ?_;refine ad ?_;refine du 5 0 27 31 [] [(27,(sL Z (p.arrs.map ArrT.name).length ax)),(29,(sL (cA (A i) 1) (p.funs.getD i default).pars.length (cK (A i) 1))),(31,(sL (cA (A i) 2) (p.funs.getD i default).locs.length (cK (A i) 2)))] (Hr_ 2 1 (Hr_ 4 1 Hn_)) b9 V V fun _=>?_
  refine zlo ([p.arrs.map ArrT.name,(p.funs.getD i default).pars,(p.funs.getD i default).locs]:List (List Str)) b9 V (RL.cs ⟨Z,ax,V,U⟩ (RL.cs ⟨(cA (A i) 1),(cK (A i) 1),V,c4⟩ (RL.cs ⟨(cA (A i) 2),(cK (A i) 2),V,c5⟩ RL.nl))) V fun g4 hf hp go d2 ch=>?_
  obtain⟨f1,dn,ci,ee,d5⟩:=OS.frz d2 ch (i:=2) V;refine ay (aq V V V) V V (mw ex ([p.arrs.map ArrT.name,(p.funs.getD i default).pars,(p.funs.getD i default).locs]:List (List Str)) (HS.call ci) ee (by first|(simp only[a01,a02];omega)|(intro i hi;rcases i with _|_|_|i<;>first|exact a4|exact a5|(show List.length (List.map _ _)<_;rw[a0U];omega)|(simp at hi;omega)|(simp at hi;done))) (by first|(simp only[a01,a02];omega)|(intro i hi;rcases i with _|_|_|i<;>first|exact a4|exact a5|(show List.length (List.map _ _)<_;rw[a0U];omega)|(simp at hi;omega)|(simp at hi;done)))) ?_;rintro _ g0 ⟨hj,f2,ds,ar,rfl,rfl⟩;replace ar:=HS.back ci V ar;replace ar:=HS.thaw ch (i:=2) V dn d5 ds ar;refine am 1 V ?_;refine ao 1 2 (v:=(bM [] ([p.arrs.map ArrT.name,(p.funs.getD i default).pars,(p.funs.getD i default).locs]:List (List Str)).flatten)) V V V V (fun a9=>?_) (fun a9=>?_)
  ·try simp only[BS]at a9
   have bb:=an5_y (p:=dupF5 p) (l:=p.funs) (i:=i) M a9;refine wT 1 [] 2 2 [] [(2,(.bool true))] V fun _=>?_
   refine ag ⟨.inr V,_,V,true,_,(fT (fT (bt) a1) a2),(HS.forget ar),V,(by first|(unfold gH;rw[a_];rfl)|(unfold gH;rw[a_,g1,bb];rfl)|(unfold gH;rw[a_,g1,ia M];rfl))⟩
  try simp only[BS]at a9
  have hX:=an5_n (p:=dupF5 p) (l:=p.funs) (i:=i) M a9;refine wU 1 [] 23 23 [34] [(23,(iI ((i:Int)+1)))] (vi (n:=(i:Int)+1) M) V fun _=>?_
  refine et _ _ _ ?_ ⟨i+1,_,(a2),(HS.sub ar (a06 _ _)),(agC V (agC V (agC V (agC V agN)))),V,(by exact g1.trans hX),(by first|assumption|omega|(simp at *;omega))⟩;omega
 try simp only[BS]at bF
 refine wT 1 [] 2 2 [] [(2,(.bool false))] V fun _=>?_
 refine ag ⟨.inr V,_,V,false,_,(fT (fT (bt) a1) a2),(HS.forget a7),V,(by first|(unfold gH;rw[a_];rfl)|(unfold gH;rw[a_,g1,bb];rfl)|(unfold gH;rw[a_,g1,ia M];rfl))⟩
theorem set_c{a2:Option Addr}{a9:Nat}(ll:List (List Str))(hs:HS (.of H []) F H [] R)(ba:SR F (sL a2 ll.length a9) ll)(hn:ll.length<4611686018427387904)(hv: ∀i,i<ll.length->(ll.getD i default).length<4611686018427387904):kKt ex 40 [(sL a2 ll.length a9)] H fun v H'=> ∃(bt:Nat) (t:List (List UInt8)) (F':Fz),Fz.le F F'/\HS (.of H []) F' H' [] R/\v= .map (some bt)/\FzT F' bt t/\t=tbS ll:=by
 refine aI Try.func40 V V ?_;refine ap 1 V ?_;refine wT 2 [] 2 2 [] [(2,(.map none))] V fun _=>?_
 refine ad ?_;refine ce (rs_mapN hs) V V ?_;rintro _ H3 _ ⟨a_,rfl,bb,_⟩;refine wa (.map (some a_)) V V V ?_;refine am 3 V ?_;refine wT 2 [] 9 11 [] [(9,(sL a2 ll.length a9)),(10,(iI (ll.length:Int))),(11,(iI 0))] V fun _=>?_
 refine au (fun(mm:Nat) f H'=> ∃(i:Nat) (E:List (List UInt8)) (F':Fz),Fz.le F F'/\HS (Base.of H []) F' H' [(tabB a_ E)] R/\aM f [(3,(.map (some a_))),(9,(sL a2 ll.length a9)),(10,(iI (ll.length:Int))),(11,(iI (i:Int)))]/\mm=ll.length-i/\(E=(ll.take i).flatten.map (·.b))/\(i<=ll.length)) _ ⟨0,[],_,fR,bb,(agC V (agC V (agC V (agC V agN)))),V,q_,(by first|assumption|omega|(simp at *;omega))⟩ ?_;rintro b6 f5 H5 ⟨i,E,F5,ar,al,a0,rfl,h1,hi⟩ bf;refine aF _ a0 (fun _=>?_);clear a0;replace ba:=ba.mono ar;refine ap 1 V ?_;refine wT 2 [] 12 12 [] [(12,(.bool (decide ((i:Int)<(ll.length:Int)))))] V fun _=>?_
 refine ao 4 5 (v:=(decide ((i:Int)<(ll.length:Int)))) V V V V (fun c7=>?_) (fun c7=>?_)
 ·try simp only[BS]at c7
  have c4:=hv i M;obtain⟨O,a1⟩:=Sv.view (SR.sv ba al);have s9:=fL (a1 i);refine wrp 2 13 14 [5] [(5,(sL (cA (O i) 0) (ll.getD i default).length (cK (O i) 0)))] (Ha_ (Sv.ix (j:=(i:Int)) (SR.sv ba al) M M) (Hl_ 1 (ql 36 0 (vL (a1 i) M) V V) Hn_)) (by kernel_rfl) V fun _=>?_
  refine wT 2 [] 15 17 [] [(15,(sL (cA (O i) 0) (ll.getD i default).length (cK (O i) 0))),(16,(iI ((ll.getD i default).length:Int))),(17,(iI 0))] V fun _=>?_
  refine au (fun(mm:Nat) f H'=> ∃(j:Nat) (A:List (List UInt8)) (F':Fz),Fz.le F5 F'/\HS (Base.of H []) F' H' [(tabB a_ A)] R/\aM f [(3,(.map (some a_))),(9,(sL a2 ll.length a9)),(10,(iI (ll.length:Int))),(11,(iI (i:Int))),(15,(sL (cA (O i) 0) (ll.getD i default).length (cK (O i) 0))),(16,(iI ((ll.getD i default).length:Int))),(17,(iI (j:Int)))]/\mm=(ll.getD i default).length-j/\(A=(ll.take i).flatten.map (·.b)++((ll.getD i default).take j).map (·.b))/\(j<=(ll.getD i default).length)) _ ⟨0,E,_,fR,al,(agC V (agC V (agC V (agC V (agC V (agC V (agC V agN))))))),V,(by rw[h1];simp),(by first|assumption|omega|(simp at *;omega))⟩ ?_;rintro bw b4 b1 ⟨j,A,bF,Z,U,ax,rfl,g1,hj⟩ a8;refine aF _ ax (fun _=>?_);clear ax;replace s9:=s9.mono Z;refine ap 1 V ?_;refine wT 2 [] 18 18 [] [(18,(.bool (decide ((j:Int)<((ll.getD i default).length:Int)))))] V fun _=>?_
  refine ao 4 5 (v:=(decide ((j:Int)<((ll.getD i default).length:Int)))) V V V V (fun an=>?_) (fun an=>?_)
  ·try simp only[BS]at an
   obtain⟨bn,a7⟩:=Sv.view (SR.sv s9 U);refine wrp 1 19 20 [7] [(7,(tX ((ll.getD i default).getD j default).b))] (Ha_ (Sv.ix (j:=(j:Int)) (SR.sv s9 U) M M) (Hl_ 1 (ql 9 0 (vS (a7 j) M) V V) Hn_)) (by kernel_rfl) V fun _=>?_
   refine ad ?_;refine wTo 2 0 [] 21 22 [] [(21,(.map (some a_))),(22,(tX ((ll.getD i default).getD j default).b))] V fun _=>?_
   refine lQ (rs_updN (k:=((ll.getD i default).getD j default).b) U (q:=0) V V V V V V) V ?_;rintro _ b3 _ ⟨a5,_⟩;refine am 2 V ?_;refine wU 1 [] 17 17 [23] [(17,(iI ((j:Int)+1)))] (vi (n:=(j:Int)+1) M) V fun _=>?_
   refine a8 _ _ _ ?_ ⟨j+1,A++[((ll.getD i default).getD j default).b],_,(Z),a5,(agC V (agC V (agC V (agC V (agC V (agC V (agC V agN))))))),V,(by rw[g1,a0c,tk_sn M]),(by first|assumption|omega|(simp at *;omega))⟩;omega
  try simp only[BS]at an
  refine wU 1 [] 11 11 [24] [(11,(iI ((i:Int)+1)))] (vi (n:=(i:Int)+1) M) V fun _=>?_
  refine bf _ _ _ ?_ ⟨i+1,A,_,(fT (ar) Z),U,(agC V (agC V (agC V (agC V agN)))),V,(by rw[g1,a0t (l:=ll.getD i default) M];exact tk_fl M),(by first|assumption|omega|(simp at *;omega))⟩;omega
 try simp only[BS]at c7
 refine wT 1 [] 2 2 [25] [(2,(.map (some a_)))] V fun _=>?_
 obtain⟨b0,a3,a6,a4⟩:=HS.frt al (i:=0) V;refine ag ⟨.inr V,_,V,a_,E,_,(fT (ar) a3),(HS.forget a6),V,a4,(by rw[h1,a0t M];rfl)⟩
end Go.Proofs.Ytkpgbdkkgcdhmaa.de
