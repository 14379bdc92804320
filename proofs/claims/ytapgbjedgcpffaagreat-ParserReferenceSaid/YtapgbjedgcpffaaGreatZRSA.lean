/-
Comparing trees: a tree is equal to itself. No condition.
-/
import Derived.Test.YtapgbjedgcpffaaGreatZRL1
import Derived.Test.YtapgbjedgcpffaaGreatZRQG
noncomputable section
namespace Go.Proofs.YtapgbjedgcpffaaGreat.ra
open Go.R
set_option maxRecDepth 10000
set_option linter.unusedVariables false
set_option linter.unusedSimpArgs false
variable (ex:FuncId) {F:Fz} {H:Heap} {R:List Fp}
open w1 w3 l1 pt pa pb pc pd pe pf pg ph pi_ qa qb qc qp qd qe qr qf qg
inductive Few:ExpT->Prop
 |mk {a:ExpT} (h:a.kids.length<=3) (k: ∀x∈a.kids,Few x):Few a
theorem Few.len{a:ExpT}(h:Few a):a.kids.length<=3:=by cases h with|mk h _=>exact h
theorem Few.kid{a:ExpT}{i:Nat}(h:Few a)(hi:i<a.kids.length):Few (a.kids.getD i default):=by
 cases h with
 |mk _ k=>exact k _ (by rw[a08,a09 hi];exact a0E hi)
theorem kid_lt{a:ExpT}{i:Nat}(h:i<a.kids.length):SizeOf.sizeOf (a.kids.getD i default)<SizeOf.sizeOf a:=by
 have E:a.kids.getD i default∈a.kids:=by rw[a08,a09 h];exact a0E h
 have O:=a1I E;cases a with
 |mk k n nm op kids=>
  have T:SizeOf.sizeOf (ExpT.mk k n nm op kids)=1+SizeOf.sizeOf k+SizeOf.sizeOf n+SizeOf.sizeOf nm+SizeOf.sizeOf op+SizeOf.sizeOf kids:=ExpT.mk.sizeOf_spec ..
  rw[T]
  have U:SizeOf.sizeOf ((ExpT.mk k n nm op kids).kids.getD i default)<SizeOf.sizeOf kids:=O
  omega
theorem lu{al:Option Addr}{a1:Nat}(a:List Str){ar:Option Addr}{a2:Nat}(b:List Str)(hs:HS (.of H []) F H [] R)(ha:SR F (sL al a.length a1) a)(hb:SR F (sL ar b.length a2) b)(a3:a=b)(a6:a.length<=1000000):kKt ex 28 [(sL al a.length a1),(sL ar b.length a2)] H fun v H'=> ∃(o:Bool),H'=H/\v= .bool o/\o=true:=by
 have a7:b.length=a.length:=by rw[a3]
 refine av Tryz.func28 V V (ai 1 V (wr 3 [] 4 4 [] [(4,(.bool false))] trivial V V fun _=>wr 1 [] 6 10 [] [(10,(.bool ((a.length:Int) !=(b.length:Int))))] trivial V V fun _=>zi 1 3 (fun T=>?_) fun T=>?_))
 ·try simp only[BS]at T
  refine wr 1 [] 4 4 [] [(4,(.bool false))] trivial V V fun _=>ae ⟨.inr V,_,V,_,V,V,(by(exfalso;simp_all))⟩
 try simp only[BS]at T
 refine wr 2 [] 11 13 [] [(12,(.int _ _)),(13,(.int _ 0))] trivial V V fun _=>aq (fun(mm:Nat) f H'=> ∃(i:Nat),H'=H/\aJ f [(0,(sL al _ a1)),(1,(sL ar _ a2)),(12,(.int _ _)),(13,(.int _ (i:Int)))]/\mm=a.length-i/\(i<=a.length)/\(a.length<=1000000)) _ ⟨0,V,⟨V,V,V,V,trivial⟩,V,M,M⟩ ?_
 rintro a0 f6 H ⟨i,rfl,O,rfl,h1,h2⟩ Z;refine az _ O (fun _=>?_);clear O;refine ai 1 V (wr 2 [] 14 14 [] [(14,(.bool (decide ((i:Int)<(a.length:Int)))))] trivial V V fun _=>zd 4 5 (fun c8=>?_) fun c8=>?_)
 ·refine wr 2 [] 15 15 [5] [(5,(.int _ _))] trivial V V fun _=>?_
  obtain⟨an,U⟩:=Sv.view (SR.sv ha hs);obtain⟨ax,Y⟩:=Sv.view (SR.sv hb hs);refine wrDp 1 16 24 [] [(24,(.bool ((a.getD i _).b !=(b.getD i _).b)))] (Ha_ (Sv.ix (SR.sv ha hs)) (Hl_ 3 (ql 9 0 (hc0 (vS (U i))) V V) (Ha_ (Sv.ix (SR.sv hb hs)) (Hl_ 7 (ql 9 0 (hc0 (vS (Y i))) V V) Hn_)))) V V V fun _=>zi 1 2 (fun E=>?_) fun E=>?_
  ·try simp only[BS]at E
   refine wr 1 [] 4 4 [] [(4,(.bool false))] trivial V V fun _=>ae ⟨.inr V,_,V,_,V,V,(by(exfalso;simp_all))⟩
  try simp only[BS]at E
  refine wr 1 [] 13 13 [25] [(13,(.int _ _))] (vA (vi) trivial) V V fun _=>?_
  refine Z _ _ _ ?_ ⟨i+1,V,⟨V,V,V,V,trivial⟩,V,M,M⟩;omega
 refine wr 1 [] 4 4 [] [(4,(.bool true))] trivial V V fun _=>ae ⟨.inr V,_,V,_,V,V,k_⟩
theorem md: ∀(fuel:Nat) {Z:Option Addr} {an:Nat} (a:ExpT) {al:Option Addr} {ax:Nat} (b:ExpT) {F:Fz} {H:Heap} {R:List Fp} (hs:HS (.of H []) F H [] R) (bl:in64 a.kind) (b0:in64 a.n) (b2:in64 a.op) (U:SR F (sL Z a.kids.length an) a.kids) (b4:in64 b.kind) (b5:in64 b.n) (b6:in64 b.op) (Y:SR F (sL al b.kids.length ax) b.kids) (a0:a=b) (ba:Few a),SizeOf.sizeOf a<fuel->kKt ex 10 [(aG [(iI a.kind),(iI a.n),(tX a.name.b),(iI a.op),(sL Z a.kids.length an)]),(aG [(iI b.kind),(iI b.n),(tX b.name.b),(iI b.op),(sL al b.kids.length ax)])] H fun v H'=> ∃(o:Bool) (F':Fz),Fz.le F F'/\HS (.of H []) F' H' [] R/\v= .bool o/\o=true:=by
 intro fuel;induction fuel with
 |zero=>intros;omega
 |succ fuel ih=>
 intro Z an a al ax b F H R hs bl b0 b2 U b4 b5 b6 Y a0 ba dp;have e4:b.kids.length=a.kids.length:=by rw[a0]
 have e5:=ba.len;refine av Tryz.func10 V V (ai 1 V (ab (dB (cV hs V V) V V ?_)));rintro _ H2 _ ⟨b1,rfl,ck,_⟩;refine dB (cV ck V V) V V ?_;rintro _ H4 _ ⟨b3,rfl,E,_⟩;refine za (.bool false) (ah 3 V (cP 1 6 40 [] [(40,(.bool (((((a.kind !=b.kind)||(a.n !=b.n))||(a.name.b !=b.name.b))||(a.op !=b.op))||((a.kids.length:Int) !=(b.kids.length:Int)))))] (Hr_ 1 0 (Hr_ 3 1 (Ho_ 7 (.o (iI a.n)) (fun(g1:_)=>(ql 2 1 (h_ E V) V V)) (Ho_ 9 (.o (iI b.n)) (fun(g1:_)=>(ql 2 1 (i_ E V) V V)) (Ho_ 14 (.o (tX a.name.b)) (fun(g1:_)=>(ql 9 2 (h_ E V) V V)) (Ho_ 16 (.o (tX b.name.b)) (fun(g1:_)=>(ql 9 2 (i_ E V) V V)) (Ho_ 21 (.o (iI _)) (fun(g1:_)=>(ql 3 3 (h_ E V) V V)) (Ho_ 23 (.o (iI _)) (fun(g1:_)=>(ql 3 3 (i_ E V) V V)) (Ho_ 28 (.o (sL _ _ _)) (fun(g1:_)=>(ql 40 4 (h_ E V) V V)) (Ho_ 31 (.o (sL _ _ _)) (fun(g1:_)=>(ql 40 4 (i_ E V) V V)) Hn_)))))))))) E V V fun _=>zi 1 3 (fun c6=>?_) fun c6=>?_))
 ·try simp only[BS]at c6
  refine wT 1 [] 4 4 [] [(4,(.bool false))] V fun _=>ae ⟨.inr V,_,V,false,_,fR,(HS.forget E),V,(by(exfalso;simp_all))⟩
 try simp only[BS]at c6
 refine cP 2 41 44 [] [(43,(iI (a.kids.length:Int))),(44,(iI 0))] (Hr_ 1 0 Hn_) E V V fun _=>aq (fun(mm:Nat) f H'=> ∃(i:Nat) (F':Fz),Fz.le F F'/\HS (Base.of H []) F' H' [(fP b1 [(iI a.kind),(iI a.n),(tX a.name.b),(iI a.op),(sL Z a.kids.length an)]),(fP b3 [(iI b.kind),(iI b.n),(tX b.name.b),(iI b.op),(sL al b.kids.length ax)])] R/\aJ f [(2,(pT b1 0)),(3,(pT b3 0)),(43,(iI (a.kids.length:Int))),(44,(iI (i:Int)))]/\mm=a.kids.length-i/\(i<=a.kids.length)) _ ⟨0,_,fR,E,⟨V,V,V,V,trivial⟩,V,M⟩ ?_
 rintro c8 f9 H9 ⟨i,F9,a1,T,a9,rfl,h1⟩ cm;refine az _ a9 (fun _=>?_);clear a9;replace U:=U.mono a1;replace Y:=Y.mono a1;refine ai 1 V (wT 2 [] 45 45 [] [(45,(.bool (decide ((i:Int)<(a.kids.length:Int)))))] V fun _=>zd 4 5 (fun ci=>?_) fun ci=>?_)
 ·refine wT 2 [] 46 46 [5] [(5,(iI (i:Int)))] V fun _=>aC V ?_
  obtain⟨a2,a4⟩:=Sv.view (SR.sv U T);obtain⟨co,cw,cL,a7⟩:=ExpT.fx (a4 i);obtain⟨a3,a5⟩:=Sv.view (SR.sv Y T);obtain⟨c0,c3,c4,a8⟩:=ExpT.fx (a5 i);refine de 10 47 56 [] [(51,(aG [(iI (a.kids.getD i default).kind),(iI (a.kids.getD i default).n),(tX (a.kids.getD i default).name.b),(iI (a.kids.getD i default).op),(sL (cA (a2 i) 4) (a.kids.getD i default).kids.length (cK (a2 i) 4))])),(56,(aG [(iI (b.kids.getD i default).kind),(iI (b.kids.getD i default).n),(tX (b.kids.getD i default).name.b),(iI (b.kids.getD i default).op),(sL (cA (a3 i) 4) (b.kids.getD i default).kids.length (cK (a3 i) 4))]))] (Hr_ 1 0 (Ha_ (Sv.ix (j:=(i:Int)) (SR.sv U T)) (Hl_ 4 (qn 42 0 5 (hc0 (ExpT.vw (a4 i))) V V V V) (Hr_ 6 1 (Ha_ (Sv.ix (j:=(i:Int)) (SR.sv Y T)) (Hl_ 9 (qn 42 0 5 (hc0 (ExpT.vw (a5 i))) V V V V) Hn_)))))) T V V fun _=>bH (W:=[]) (aX V V V) V V V (ih (a.kids.getD i default) (b.kids.getD i default) (HS.call T.log0) M M M a7 M M M a8 (by(rw[a0];done)) (ba.kid M) (by(have q:=kid_lt (a:=a) (i:=i) M;omega))) (kb V) ?_
  rintro _ b8 ⟨c9,c7,bb,O,rfl,rfl⟩;refine⟨Wr.did O.log,fun b7 a6=>?_⟩;replace O:=HS.back T.log0 V O;replace O:=HS.lg O T a6;generalize ({b8 with log:=b7}:Heap)=c5 at O⊢;refine wfv (v:=(.bool false)) (cg (b:=true) V) (bt 1 V (gK 2 (v:=false) V V V V (wU 1 [] 44 44 [59] [(44,(iI ((i:Int)+1)))] (vi (n:=(i:Int)+1)) V fun _=>?_)));refine cm _ _ _ ?_ ⟨i+1,_,(fT (a1) bb),O,⟨V,V,V,V,trivial⟩,V,M⟩;omega
 refine wT 1 [] 4 4 [] [(4,(.bool true))] V fun _=>ae ⟨.inr V,_,V,true,_,(a1),(HS.forget T),V,k_⟩
theorem ig{E:Option Addr}{T:Nat}(a:ExpT){O:Option Addr}{U:Nat}(b:ExpT)(hs:HS (.of H []) F H [] R)(Y:in64 a.kind)(Z:in64 a.n)(al:in64 a.op)(an:SR F (sL E a.kids.length T) a.kids)(ax:in64 b.kind)(a0:in64 b.n)(a1:in64 b.op)(a2:SR F (sL O b.kids.length U) b.kids)(ar:a=b)(a3:Few a):kKt ex 10 [(aG [(iI a.kind),(iI a.n),(tX a.name.b),(iI a.op),(sL E a.kids.length T)]),(aG [(iI b.kind),(iI b.n),(tX b.name.b),(iI b.op),(sL O b.kids.length U)])] H fun v H'=> ∃(o:Bool) (F':Fz),Fz.le F F'/\HS (.of H []) F' H' [] R/\v= .bool o/\o=true:=
 md ex (SizeOf.sizeOf a+1) a b hs Y Z al an ax a0 a1 a2 ar a3 (a0w _)
end Go.Proofs.YtapgbjedgcpffaaGreat.ra
