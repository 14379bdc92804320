/-
Comparing trees: a tree is equal to itself. No condition.
-/
import Derived.Test.YtapgbjedgcpffaaZQL1
import Derived.Test.YtapgbjedgcpffaaZQPH
noncomputable section
namespace Go.Proofs.Ytapgbjedgcpffaa.ra
open Go.R
set_option maxRecDepth 10000
set_option linter.unusedVariables false
set_option linter.unusedSimpArgs false
variable (ex:FuncId) {F:Fz} {H:Heap} {R:List Fp}
open w1 w3 l1 pt pa pb pc pd pe pf pg ph
inductive Few:ExpT->Prop
 |mk {a:ExpT} (h:a.kids.length<=3) (k: ∀x∈a.kids,Few x):Few a
theorem Few.len{a:ExpT}(h:Few a):a.kids.length<=3:=by cases h with|mk h _=>exact h
theorem Few.kid{a:ExpT}{i:Nat}(h:Few a)(hi:i<a.kids.length):Few (a.kids.getD i default):=by
 cases h with
 |mk _ k=>exact k _ (by rw[a0a,a09 hi];exact a0J hi)
theorem kid_lt{a:ExpT}{i:Nat}(h:i<a.kids.length):SizeOf.sizeOf (a.kids.getD i default)<SizeOf.sizeOf a:=by
 have E:a.kids.getD i default∈a.kids:=by rw[a0a,a09 h];exact a0J h
 have O:=a1G E;cases a with
 |mk k n nm op kids=>
  have T:SizeOf.sizeOf (ExpT.mk k n nm op kids)=1+SizeOf.sizeOf k+SizeOf.sizeOf n+SizeOf.sizeOf nm+SizeOf.sizeOf op+SizeOf.sizeOf kids:=ExpT.mk.sizeOf_spec ..
  rw[T]
  have U:SizeOf.sizeOf ((ExpT.mk k n nm op kids).kids.getD i default)<SizeOf.sizeOf kids:=O
  omega
theorem jO{h:Option Addr}{ar:Nat}(a:List Str){al:Option Addr}{a2:Nat}(b:List Str)(hs:HS (.of H []) F H [] R)(ha:SR F (sL h a.length ar) a)(hb:SR F (sL al b.length a2) b)(a3:a=b)(a6:a.length<=1000000):kKt ex 40 [(sL h a.length ar),(sL al b.length a2)] H fun v H'=> ∃(o:Bool),H'=H/\v= .bool o/\o=true:=by
 have a7:b.length=a.length:=by rw[a3]
 refine aB Try.func40 rfl rfl (ak 1 rfl (wT 3 [] 4 4 [] [(4,(.bool false))] rfl fun _=>wT 1 [] 6 10 [] [(10,(.bool ((a.length:Int) !=(b.length:Int))))] rfl fun _=>zi 1 3 (fun T=>?_) fun T=>?_))
 ·try simp only[BS]at T
  refine wT 1 [] 4 4 [] [(4,(.bool false))] rfl fun _=>aj ⟨.inr rfl,_,rfl,false,rfl,rfl,(by(exfalso;simp_all))⟩
 try simp only[BS]at T
 refine wT 2 [] 11 13 [] [(12,(iI (a.length:Int))),(13,(iI 0))] rfl fun _=>av (fun(mm:Nat) f H'=> ∃(i:Nat),H'=H/\aQ f [(0,(sL h a.length ar)),(1,(sL al b.length a2)),(12,(iI (a.length:Int))),(13,(iI (i:Int)))]/\mm=a.length-i/\(i<=a.length)/\(a.length<=1000000)) _ ⟨0,rfl,⟨rfl,rfl,rfl,rfl,trivial⟩,rfl,(by omega),(by omega)⟩ ?_
 rintro a1 f6 H ⟨i,rfl,O,rfl,h1,h2⟩ Z;refine aE _ O (fun _=>?_);clear O;refine ak 1 rfl (wT 2 [] 14 14 [] [(14,(.bool (decide ((i:Int)<(a.length:Int)))))] rfl fun _=>zd 4 5 (fun c8=>?_) fun c8=>?_)
 ·refine wT 2 [] 15 15 [5] [(5,(iI (i:Int)))] rfl fun _=>?_
  obtain⟨an,U⟩:=Sv.view (SR.sv ha hs);obtain⟨ax,Y⟩:=Sv.view (SR.sv hb hs);refine wRD 1 [(3,.o (tX (a.getD i default).b)),(7,.o (tX (b.getD i default).b))] 16 24 [] [(24,(.bool ((a.getD i default).b !=(b.getD i default).b)))] (vA (Sv.ix (j:=(i:Int)) (SR.sv ha hs)) (vA (ql 9 0 (hc0 (vS (U i))) rfl rfl) (vA (Sv.ix (j:=(i:Int)) (SR.sv hb hs)) (vA (ql 9 0 (hc0 (vS (Y i))) rfl rfl) trivial)))) rfl rfl fun _=>zi 1 2 (fun E=>?_) fun E=>?_
  ·try simp only[BS]at E
   refine wT 1 [] 4 4 [] [(4,(.bool false))] rfl fun _=>aj ⟨.inr rfl,_,rfl,false,rfl,rfl,(by(exfalso;simp_all))⟩
  try simp only[BS]at E
  refine wU 1 [] 13 13 [25] [(13,(iI ((i:Int)+1)))] (vi (n:=(i:Int)+1)) rfl fun _=>?_
  refine Z _ _ _ ?_ ⟨i+1,rfl,⟨rfl,rfl,rfl,rfl,trivial⟩,rfl,(by omega),(by omega)⟩;omega
 refine wT 1 [] 4 4 [] [(4,(.bool true))] rfl fun _=>aj ⟨.inr rfl,_,rfl,true,rfl,rfl,(by rfl)⟩
theorem kH: ∀(fuel:Nat) {T:Option Addr} {U:Nat} (a:ExpT) {Z:Option Addr} {h:Nat} (b:ExpT) {F:Fz} {H:Heap} {R:List Fp} (hs:HS (.of H []) F H [] R) (b6:in64 a.kind) (b7:in64 a.n) (b8:in64 a.op) (an:SR F (sL T a.kids.length U) a.kids) (b9:in64 b.kind) (ch:in64 b.n) (ci:in64 b.op) (ax:SR F (sL Z b.kids.length h) b.kids) (b0:a=b) (b2:Few a),SizeOf.sizeOf a<fuel->kKt ex 42 [(aG [(iI a.kind),(iI a.n),(tX a.name.b),(iI a.op),(sL T a.kids.length U)]),(aG [(iI b.kind),(iI b.n),(tX b.name.b),(iI b.op),(sL Z b.kids.length h)])] H fun v H'=> ∃(o:Bool) (F':Fz),Fz.le F F'/\HS (.of H []) F' H' [] R/\v= .bool o/\o=true:=by
 intro fuel;induction fuel with
 |zero=>intros;omega
 |succ fuel ih=>
 intro T U a Z h b F H R hs b6 b7 b8 an b9 ch ci ax b0 b2 cl;have fk:b.kids.length=a.kids.length:=by rw[b0]
 have fl:=b2.len;refine aB Try.func42 rfl rfl (ak 1 rfl (ab (aJ (cz hs rfl rfl) rfl rfl ?_)));rintro _ H2 _ ⟨b1,rfl,(c8:HS _ _ _ [(fP b1 [(iI a.kind),(iI a.n),(tX a.name.b),(iI a.op),(sL T a.kids.length U)])] _),_⟩;refine aJ (cz c8 rfl rfl) rfl rfl ?_;rintro _ H4 _ ⟨b3,rfl,(E:HS _ _ _ [_,(fP b3 [(iI b.kind),(iI b.n),(tX b.name.b),(iI b.op),(sL Z b.kids.length h)])] _),_⟩;refine za (.bool false) (ai 3 rfl (wR 1 [(1,.o (iI a.kind)),(3,.o (iI b.kind)),(7,.o (iI a.n)),(9,.o (iI b.n)),(14,.o (tX a.name.b)),(16,.o (tX b.name.b)),(21,.o (iI a.op)),(23,.o (iI b.op)),(28,.o (sL T a.kids.length U)),(31,.o (sL Z b.kids.length h))] 6 40 [] [(40,(.bool (((((a.kind !=b.kind)||(a.n !=b.n))||(a.name.b !=b.name.b))||(a.op !=b.op))||((a.kids.length:Int) !=(b.kids.length:Int)))))] (vA (ql 3 0 (HS.hc E (i:=0) rfl) rfl rfl) (vA (ql 3 0 (HS.hc E (i:=1) rfl) rfl rfl) (vA (fun(g1:(a.kind !=b.kind)=false)=>(ql 2 1 (HS.hc E (i:=0) rfl) rfl rfl)) (vA (fun(g1:(a.kind !=b.kind)=false)=>(ql 2 1 (HS.hc E (i:=1) rfl) rfl rfl)) (vA (fun(g1:((a.kind !=b.kind)||(a.n !=b.n))=false)=>(ql 9 2 (HS.hc E (i:=0) rfl) rfl rfl)) (vA (fun(g1:((a.kind !=b.kind)||(a.n !=b.n))=false)=>(ql 9 2 (HS.hc E (i:=1) rfl) rfl rfl)) (vA (fun(g1:(((a.kind !=b.kind)||(a.n !=b.n))||(a.name.b !=b.name.b))=false)=>(ql 3 3 (HS.hc E (i:=0) rfl) rfl rfl)) (vA (fun(g1:(((a.kind !=b.kind)||(a.n !=b.n))||(a.name.b !=b.name.b))=false)=>(ql 3 3 (HS.hc E (i:=1) rfl) rfl rfl)) (vA (fun(g1:((((a.kind !=b.kind)||(a.n !=b.n))||(a.name.b !=b.name.b))||(a.op !=b.op))=false)=>(ql 48 4 (HS.hc E (i:=0) rfl) rfl rfl)) (vA (fun(g1:((((a.kind !=b.kind)||(a.n !=b.n))||(a.name.b !=b.name.b))||(a.op !=b.op))=false)=>(ql 48 4 (HS.hc E (i:=1) rfl) rfl rfl)) trivial)))))))))) rfl fun _=>zi 1 3 (fun c6=>?_) fun c6=>?_))
 ·try simp only[BS]at c6
  refine wT 1 [] 4 4 [] [(4,(.bool false))] rfl fun _=>aj ⟨.inr rfl,_,rfl,false,_,fR,(HS.forget E),rfl,(by(exfalso;simp_all))⟩
 try simp only[BS]at c6
 refine wU 2 [(1,.o (sL T a.kids.length U))] 41 44 [] [(43,(iI (a.kids.length:Int))),(44,(iI 0))] (ql 48 4 (HS.hc E (i:=0) rfl) rfl rfl) rfl fun _=>av (fun(mm:Nat) f H'=> ∃(i:Nat) (F':Fz),Fz.le F F'/\HS (Base.of H []) F' H' [(fP b1 [(iI a.kind),(iI a.n),(tX a.name.b),(iI a.op),(sL T a.kids.length U)]),(fP b3 [(iI b.kind),(iI b.n),(tX b.name.b),(iI b.op),(sL Z b.kids.length h)])] R/\aQ f [(2,(pT b1 0)),(3,(pT b3 0)),(43,(iI (a.kids.length:Int))),(44,(iI (i:Int)))]/\mm=a.kids.length-i/\(i<=a.kids.length)) _ ⟨0,_,fR,E,⟨rfl,rfl,rfl,rfl,trivial⟩,rfl,(by omega)⟩ ?_
 rintro d8 f9 H9 ⟨i,F9,a2,Y,bb,rfl,h1⟩ c9;refine aE _ bb (fun _=>?_);clear bb;replace an:=an.mono a2;replace ax:=ax.mono a2;refine ak 1 rfl (wT 2 [] 45 45 [] [(45,(.bool (decide ((i:Int)<(a.kids.length:Int)))))] rfl fun _=>zd 4 5 (fun c7=>?_) fun c7=>?_)
 ·refine wT 2 [] 46 46 [5] [(5,(iI (i:Int)))] rfl fun _=>aI rfl (zp 4 (zl 4 (HS.hc Y.log0 (i:=0) rfl) (zfm (iI (i:Int)) (zx ExpT i (SR.sv an Y.log0) ?_))))
  obtain⟨d5,c0,co⟩:=Sv.at (SR.sv an Y.log0) (aS (x:=default) (show i<a.kids.length from by omega));obtain⟨a3,a6,rfl,dd,dn,dt,a8⟩:=(ExpT.out c0)
  refine aL (v:=(aG [(iI (a.kids.getD i default).kind),(iI (a.kids.getD i default).n),(tX (a.kids.getD i default).name.b),(iI (a.kids.getD i default).op),(sL a3 (a.kids.getD i default).kids.length a6)])) (id:= .l (sB (sL T a.kids.length U))) (bf (i:=0) rfl rfl rfl co rfl rfl rfl) rfl rfl (bW rfl) (kb rfl) (zp 4 (zl 4 (HS.hc Y.log0 (i:=1) rfl) (zfm (iI (i:Int)) (zx ExpT i (SR.sv ax Y.log0) ?_))));obtain⟨d6,c3,cL⟩:=Sv.at (SR.sv ax Y.log0) (aS (x:=default) (show i<b.kids.length from by omega));obtain⟨a4,a7,rfl,d1,d2,d3,a9⟩:=(ExpT.out c3)
  refine aL (v:=(aG [(iI (b.kids.getD i default).kind),(iI (b.kids.getD i default).n),(tX (b.kids.getD i default).name.b),(iI (b.kids.getD i default).op),(sL a4 (b.kids.getD i default).kids.length a7)])) (id:= .l (sB (sL Z b.kids.length h))) (bf (i:=0) rfl rfl rfl cL rfl rfl rfl) rfl rfl (bW rfl) (kb rfl) (aX (W:=[]) (aU rfl rfl rfl) rfl rfl rfl (ih (a.kids.getD i default) (b.kids.getD i default) (HS.call Y.log0) (by omega) (by omega) (by omega) a8 (by omega) (by omega) (by omega) a9 (by(rw[b0];done)) (b2.kid (by omega)) (by(have q:=kid_lt (a:=a) (i:=i) (by omega);omega))) (kb rfl) ?_);rintro _ c5 ⟨d9,d7,b5,O,rfl,rfl⟩;refine⟨Wr.did O.log,fun c4 a5=>?_⟩;replace O:=HS.back Y.log0 rfl O;replace O:=HS.lg O Y a5;generalize ({c5 with log:=c4}:Heap)=d4 at O⊢;have O:HS _ _ _ [_,_] _:=O;refine wfv (v:=(.bool false)) (bN (b:=true) rfl) (bh (ak 1 rfl (iP 2 (v:=false) rfl rfl rfl rfl (wU 1 [] 44 44 [59] [(44,(iI ((i:Int)+1)))] (vi (n:=(i:Int)+1)) rfl fun _=>?_))));refine c9 _ _ _ ?_ ⟨i+1,_,(fT (a2) b5),O,⟨rfl,rfl,rfl,rfl,trivial⟩,rfl,(by omega)⟩;omega
 refine wT 1 [] 4 4 [] [(4,(.bool true))] rfl fun _=>aj ⟨.inr rfl,_,rfl,true,_,(a2),(HS.forget Y),rfl,(by rfl)⟩
theorem gu{E:Option Addr}{T:Nat}(a:ExpT){O:Option Addr}{U:Nat}(b:ExpT)(hs:HS (.of H []) F H [] R)(Y:in64 a.kind)(Z:in64 a.n)(al:in64 a.op)(an:SR F (sL E a.kids.length T) a.kids)(ax:in64 b.kind)(a1:in64 b.n)(a2:in64 b.op)(a3:SR F (sL O b.kids.length U) b.kids)(h:a=b)(ar:Few a):kKt ex 42 [(aG [(iI a.kind),(iI a.n),(tX a.name.b),(iI a.op),(sL E a.kids.length T)]),(aG [(iI b.kind),(iI b.n),(tX b.name.b),(iI b.op),(sL O b.kids.length U)])] H fun v H'=> ∃(o:Bool) (F':Fz),Fz.le F F'/\HS (.of H []) F' H' [] R/\v= .bool o/\o=true:=
 kH ex (SizeOf.sizeOf a+1) a b hs Y Z al an ax a1 a2 a3 h ar (a0y _)
end Go.Proofs.Ytapgbjedgcpffaa.ra
