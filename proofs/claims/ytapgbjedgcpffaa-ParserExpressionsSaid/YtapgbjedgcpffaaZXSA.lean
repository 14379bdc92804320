/-
Comparing trees: a tree is equal to itself. No condition.
-/
import Derived.Test.YtapgbjedgcpffaaZXL1
import Derived.Test.YtapgbjedgcpffaaZXQG
noncomputable section
namespace Go.Proofs.Ytapgbjedgcpffaa.ra
open Go.R
set_option maxRecDepth 10000
set_option linter.unusedVariables false
set_option linter.unusedSimpArgs false
variable (ex:FuncId) {F:Fz} {H:Heap} {R:List Fp}
open w1 w3 l1 pt pa pb pc pd pe pf pg ph pi_ qa qb qc qp qd qe qr qf qg
inductive Few:ExpT->Prop
 |mk {a:ExpT} (h:a.kids.length<=3) (k: ∀x∈a.kids,Few x):Few a
theorem Few.len{a:ExpT}(h:Few a):a.kids.length<=3:=by cases h with|mk h _=>exact h
theorem Few.kid{a:ExpT}{i:Nat}(h:Few a)(hi:i<a.kids.length):Few (a.kids.getD i default):=by
 cases h with
 |mk _ k=>exact k _ (by rw[a08,a09 hi];exact a0w hi)
theorem kid_lt{a:ExpT}{i:Nat}(h:i<a.kids.length):SizeOf.sizeOf (a.kids.getD i default)<SizeOf.sizeOf a:=by
 have z:a.kids.getD i default∈a.kids:=by rw[a08,a09 h];exact a0w h
 have A:=a1r z;cases a with
 |mk k n nm op kids=>
  have E:SizeOf.sizeOf (ExpT.mk k n nm op kids)=1+SizeOf.sizeOf k+SizeOf.sizeOf n+SizeOf.sizeOf nm+SizeOf.sizeOf op+SizeOf.sizeOf kids:=ExpT.mk.sizeOf_spec ..
  rw[E]
  have O:SizeOf.sizeOf ((ExpT.mk k n nm op kids).kids.getD i default)<SizeOf.sizeOf kids:=A
  omega
theorem iL{h:Option Addr}{ax:Nat}(a:List Str){an:Option Addr}{a0:Nat}(b:List Str)(hs:HS (.of H []) F H [] R)(ha:SR F (sL h a.length ax) a)(hb:SR F (sL an b.length a0) b)(a2:a=b)(a8:a.length<=1000000):kKt ex 40 [(sL h a.length ax),(sL an b.length a0)] H fun v H'=> ∃(o:Bool),H'=H/\v= .bool o/\o=true:=by
 have a9:b.length=a.length:=by rw[a2]
 refine aD Try.func40 rfl rfl (am 1 rfl (wT 3 [] 4 4 [] [(4,(.bool false))] rfl fun _=>wT 1 [] 6 10 [] [(10,(.bool ((a.length:Int) !=(b.length:Int))))] rfl fun _=>zi 1 3 (fun E=>?_) fun E=>?_))
 ·try simp only[BS]at E
  refine wT 1 [] 4 4 [] [(4,(.bool false))] rfl fun _=>ah ⟨.inr rfl,_,rfl,false,rfl,rfl,(by(exfalso;simp_all))⟩
 try simp only[BS]at E
 refine wT 2 [] 11 13 [] [(12,(iI (a.length:Int))),(13,(iI 0))] rfl fun _=>aA (fun(mm:Nat) f H'=> ∃(i:Nat),H'=H/\aX f [(0,(sL h a.length ax)),(1,(sL an b.length a0)),(12,(iI (a.length:Int))),(13,(iI (i:Int)))]/\mm=a.length-i/\(i<=a.length)/\(a.length<=1000000)) _ ⟨0,rfl,⟨rfl,rfl,rfl,rfl,trivial⟩,rfl,(by omega),(by omega)⟩ ?_
 rintro al f6 H ⟨i,rfl,A,rfl,h1,h2⟩ U;refine aN _ A (fun _=>?_);clear A;refine am 1 rfl (wT 2 [] 14 14 [] [(14,(.bool (decide ((i:Int)<(a.length:Int)))))] rfl fun _=>zd 4 5 (fun V=>?_) fun V=>?_)
 ·refine wT 2 [] 15 15 [5] [(5,(iI (i:Int)))] rfl fun _=>?_
  obtain⟨Y,O⟩:=Sv.view (SR.sv ha hs);obtain⟨Z,T⟩:=Sv.view (SR.sv hb hs);refine wRD 1 [(3,.o (.string ⟨⟨(a.getD i default).b⟩⟩)),(7,.o (.string ⟨⟨(b.getD i default).b⟩⟩))] 16 24 [] [(24,(.bool ((a.getD i default).b !=(b.getD i default).b)))] (vA (Sv.ix (j:=(i:Int)) (SR.sv ha hs)) (vA (ql 9 0 (hc0 (vS (O i))) rfl rfl) (vA (Sv.ix (j:=(i:Int)) (SR.sv hb hs)) (vA (ql 9 0 (hc0 (vS (T i))) rfl rfl) trivial)))) rfl rfl fun _=>zi 1 2 (fun z=>?_) fun z=>?_
  ·try simp only[BS]at z
   refine wT 1 [] 4 4 [] [(4,(.bool false))] rfl fun _=>ah ⟨.inr rfl,_,rfl,false,rfl,rfl,(by(exfalso;simp_all))⟩
  try simp only[BS]at z
  refine wU 1 [] 13 13 [25] [(13,(iI ((i:Int)+1)))] (vi (n:=(i:Int)+1)) rfl fun _=>?_
  refine U _ _ _ ?_ ⟨i+1,rfl,⟨rfl,rfl,rfl,rfl,trivial⟩,rfl,(by omega),(by omega)⟩;omega
 refine wT 1 [] 4 4 [] [(4,(.bool true))] rfl fun _=>ah ⟨.inr rfl,_,rfl,true,rfl,rfl,(by rfl)⟩
theorem jp: ∀(fuel:Nat) {E:Option Addr} {O:Nat} (a:ExpT) {U:Option Addr} {V:Nat} (b:ExpT) {F:Fz} {H:Heap} {R:List Fp} (hs:HS (.of H []) F H [] R) (b2:in64 a.kind) (b4:in64 a.n) (b5:in64 a.op) (Y:SR F (sL E a.kids.length O) a.kids) (b6:in64 b.kind) (b7:in64 b.n) (b8:in64 b.op) (Z:SR F (sL U b.kids.length V) b.kids) (h:a=b) (al:Few a),SizeOf.sizeOf a<fuel->kKt ex 42 [(aG [(iI a.kind),(iI a.n),(.string ⟨⟨a.name.b⟩⟩),(iI a.op),(sL E a.kids.length O)]),(aG [(iI b.kind),(iI b.n),(.string ⟨⟨b.name.b⟩⟩),(iI b.op),(sL U b.kids.length V)])] H fun v H'=> ∃(o:Bool) (F':Fz),Fz.le F F'/\HS (.of H []) F' H' [] R/\v= .bool o/\o=true:=by
 intro fuel;induction fuel with
 |zero=>intros;omega
 |succ fuel ih=>
 intro E O a U V b F H R hs b2 b4 b5 Y b6 b7 b8 Z h al bb;have f1:b.kids.length=a.kids.length:=by rw[h]
 have f2:=al.len;refine aD Try.func42 rfl rfl (am 1 rfl (aa (aI (jz hs rfl rfl) rfl rfl ?_)));rintro _ H2 _ ⟨b1,rfl,(cl:HS _ _ _ [(fP b1 [(iI a.kind),(iI a.n),(.string ⟨⟨a.name.b⟩⟩),(iI a.op),(sL E a.kids.length O)])] _),_⟩;refine aI (jz cl rfl rfl) rfl rfl ?_;rintro _ H4 _ ⟨b3,rfl,(z:HS _ _ _ [_,(fP b3 [(iI b.kind),(iI b.n),(.string ⟨⟨b.name.b⟩⟩),(iI b.op),(sL U b.kids.length V)])] _),_⟩;refine za (.bool false) (ab 3 rfl (wR 1 [(1,.o (iI a.kind)),(3,.o (iI b.kind)),(7,.o (iI a.n)),(9,.o (iI b.n)),(14,.o (.string ⟨⟨a.name.b⟩⟩)),(16,.o (.string ⟨⟨b.name.b⟩⟩)),(21,.o (iI a.op)),(23,.o (iI b.op)),(28,.o (sL E a.kids.length O)),(31,.o (sL U b.kids.length V))] 6 40 [] [(40,(.bool (((((a.kind !=b.kind)||(a.n !=b.n))||(a.name.b !=b.name.b))||(a.op !=b.op))||((a.kids.length:Int) !=(b.kids.length:Int)))))] (vA (ql 3 0 (HS.hc z (i:=0) rfl) rfl rfl) (vA (ql 3 0 (HS.hc z (i:=1) rfl) rfl rfl) (vA (fun(g1:(a.kind !=b.kind)=false)=>(ql 2 1 (HS.hc z (i:=0) rfl) rfl rfl)) (vA (fun(g1:(a.kind !=b.kind)=false)=>(ql 2 1 (HS.hc z (i:=1) rfl) rfl rfl)) (vA (fun(g1:((a.kind !=b.kind)||(a.n !=b.n))=false)=>(ql 9 2 (HS.hc z (i:=0) rfl) rfl rfl)) (vA (fun(g1:((a.kind !=b.kind)||(a.n !=b.n))=false)=>(ql 9 2 (HS.hc z (i:=1) rfl) rfl rfl)) (vA (fun(g1:(((a.kind !=b.kind)||(a.n !=b.n))||(a.name.b !=b.name.b))=false)=>(ql 3 3 (HS.hc z (i:=0) rfl) rfl rfl)) (vA (fun(g1:(((a.kind !=b.kind)||(a.n !=b.n))||(a.name.b !=b.name.b))=false)=>(ql 3 3 (HS.hc z (i:=1) rfl) rfl rfl)) (vA (fun(g1:((((a.kind !=b.kind)||(a.n !=b.n))||(a.name.b !=b.name.b))||(a.op !=b.op))=false)=>(ql 48 4 (HS.hc z (i:=0) rfl) rfl rfl)) (vA (fun(g1:((((a.kind !=b.kind)||(a.n !=b.n))||(a.name.b !=b.name.b))||(a.op !=b.op))=false)=>(ql 48 4 (HS.hc z (i:=1) rfl) rfl rfl)) trivial)))))))))) rfl fun _=>zi 1 3 (fun c6=>?_) fun c6=>?_))
 ·try simp only[BS]at c6
  refine wT 1 [] 4 4 [] [(4,(.bool false))] rfl fun _=>ah ⟨.inr rfl,_,rfl,false,_,fR,(HS.forget z),rfl,(by(exfalso;simp_all))⟩
 try simp only[BS]at c6
 refine wU 2 [(1,.o (sL E a.kids.length O))] 41 44 [] [(43,(iI (a.kids.length:Int))),(44,(iI 0))] (ql 48 4 (HS.hc z (i:=0) rfl) rfl rfl) rfl fun _=>aA (fun(mm:Nat) f H'=> ∃(i:Nat) (F':Fz),Fz.le F F'/\HS (Base.of H []) F' H' [(fP b1 [(iI a.kind),(iI a.n),(.string ⟨⟨a.name.b⟩⟩),(iI a.op),(sL E a.kids.length O)]),(fP b3 [(iI b.kind),(iI b.n),(.string ⟨⟨b.name.b⟩⟩),(iI b.op),(sL U b.kids.length V)])] R/\aX f [(2,(pT b1 0)),(3,(pT b3 0)),(43,(iI (a.kids.length:Int))),(44,(iI (i:Int)))]/\mm=a.kids.length-i/\(i<=a.kids.length)) _ ⟨0,_,fR,z,⟨rfl,rfl,rfl,rfl,trivial⟩,rfl,(by omega)⟩ ?_
 rintro dk f9 H9 ⟨i,F9,an,T,a9,rfl,h1⟩ cm;refine aN _ a9 (fun _=>?_);clear a9;replace Y:=Y.mono an;replace Z:=Z.mono an;refine am 1 rfl (wT 2 [] 45 45 [] [(45,(.bool (decide ((i:Int)<(a.kids.length:Int)))))] rfl fun _=>zd 4 5 (fun ck=>?_) fun ck=>?_)
 ·refine wT 2 [] 46 46 [5] [(5,(iI (i:Int)))] rfl fun _=>aK rfl (zp 4 (zl 4 (HS.hc T.log0 (i:=0) rfl) (zfm (iI (i:Int)) (zx ExpT i (SR.sv Y T.log0) ?_))))
  obtain⟨c8,cc,b9⟩:=Sv.at (SR.sv Y T.log0) (aU (x:=default) (show i<a.kids.length from by omega));obtain⟨ax,a2,rfl,co,cw,c0,a4⟩:=(ExpT.out cc)
  refine a6 (v:=(aG [(iI (a.kids.getD i default).kind),(iI (a.kids.getD i default).n),(.string ⟨⟨(a.kids.getD i default).name.b⟩⟩),(iI (a.kids.getD i default).op),(sL ax (a.kids.getD i default).kids.length a2)])) (id:= .l (sB (sL E a.kids.length O))) (cp (i:=0) rfl rfl rfl b9 rfl rfl rfl) rfl rfl (fB rfl) (kb rfl) (zp 4 (zl 4 (HS.hc T.log0 (i:=1) rfl) (zfm (iI (i:Int)) (zx ExpT i (SR.sv Z T.log0) ?_))));obtain⟨c9,cd,cb⟩:=Sv.at (SR.sv Z T.log0) (aU (x:=default) (show i<b.kids.length from by omega));obtain⟨a0,a3,rfl,c3,c4,c5,a8⟩:=(ExpT.out cd)
  refine a6 (v:=(aG [(iI (b.kids.getD i default).kind),(iI (b.kids.getD i default).n),(.string ⟨⟨(b.kids.getD i default).name.b⟩⟩),(iI (b.kids.getD i default).op),(sL a0 (b.kids.getD i default).kids.length a3)])) (id:= .l (sB (sL U b.kids.length V))) (cp (i:=0) rfl rfl rfl cb rfl rfl rfl) rfl rfl (fB rfl) (kb rfl) (bo (W:=[]) (bk rfl rfl rfl) rfl rfl rfl (ih (a.kids.getD i default) (b.kids.getD i default) (HS.call T.log0) (by omega) (by omega) (by omega) a4 (by omega) (by omega) (by omega) a8 (by(rw[h];done)) (al.kid (by omega)) (by(have q:=kid_lt (a:=a) (i:=i) (by omega);omega))) (kb rfl) ?_);rintro _ ci ⟨dn,dd,b0,A,rfl,rfl⟩;refine⟨Wr.did A.log,fun ch a1=>?_⟩;replace A:=HS.back T.log0 rfl A;replace A:=HS.lg A T a1;generalize ({ci with log:=ch}:Heap)=c7 at A⊢;have A:HS _ _ _ [_,_] _:=A;refine wfv (v:=(.bool false)) (bH (b:=true) rfl) (aW (am 1 rfl (fD 2 (v:=false) rfl rfl rfl rfl (wU 1 [] 44 44 [59] [(44,(iI ((i:Int)+1)))] (vi (n:=(i:Int)+1)) rfl fun _=>?_))));refine cm _ _ _ ?_ ⟨i+1,_,(fT (an) b0),A,⟨rfl,rfl,rfl,rfl,trivial⟩,rfl,(by omega)⟩;omega
 refine wT 1 [] 4 4 [] [(4,(.bool true))] rfl fun _=>ah ⟨.inr rfl,_,rfl,true,_,(an),(HS.forget T),rfl,(by rfl)⟩
theorem fj{z:Option Addr}{E:Nat}(a:ExpT){A:Option Addr}{O:Nat}(b:ExpT)(hs:HS (.of H []) F H [] R)(T:in64 a.kind)(U:in64 a.n)(V:in64 a.op)(Y:SR F (sL z a.kids.length E) a.kids)(Z:in64 b.kind)(al:in64 b.n)(an:in64 b.op)(ax:SR F (sL A b.kids.length O) b.kids)(h:a=b)(a0:Few a):kKt ex 42 [(aG [(iI a.kind),(iI a.n),(.string ⟨⟨a.name.b⟩⟩),(iI a.op),(sL z a.kids.length E)]),(aG [(iI b.kind),(iI b.n),(.string ⟨⟨b.name.b⟩⟩),(iI b.op),(sL A b.kids.length O)])] H fun v H'=> ∃(o:Bool) (F':Fz),Fz.le F F'/\HS (.of H []) F' H' [] R/\v= .bool o/\o=true:=
 jp ex (SizeOf.sizeOf a+1) a b hs T U V Y Z al an ax h a0 (a1f _)
end Go.Proofs.Ytapgbjedgcpffaa.ra
