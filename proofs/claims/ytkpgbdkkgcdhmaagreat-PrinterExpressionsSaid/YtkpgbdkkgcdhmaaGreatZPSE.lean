/-
Comparing expressions: a tree is equal to itself. No condition.
-/
import Derived.Test.YtkpgbdkkgcdhmaaGreatZPL1
import Derived.Test.YtkpgbdkkgcdhmaaGreatZPPG
noncomputable section
namespace Go.Proofs.YtkpgbdkkgcdhmaaGreat.se
open Go.R
set_option maxRecDepth 10000
set_option linter.unusedVariables false
set_option linter.unusedSimpArgs false
variable (ex:FuncId) {F:Fz} {H:Heap} {R:List Fp}
open w1 w3 l1 pt pa pb pc pd pe pf pg
inductive Few:ExpT->Prop
 |mk {a:ExpT} (h:a.kids.length<=3) (k: ∀x∈a.kids,Few x):Few a
theorem Few.len{a:ExpT}(h:Few a):a.kids.length<=3:=by cases h with|mk h _=>exact h
theorem Few.kid{a:ExpT}{i:Nat}(h:Few a)(hi:i<a.kids.length):Few (a.kids.getD i default):=by
 cases h with
 |mk _ k=>exact k _ (by rw[a09,a08 hi];exact a1a hi)
theorem kid_lt{a:ExpT}{i:Nat}(h:i<a.kids.length):SizeOf.sizeOf (a.kids.getD i default)<SizeOf.sizeOf a:=by
 have A:a.kids.getD i default∈a.kids:=by rw[a09,a08 h];exact a1a h
 have E:=List.sizeOf_lt_of_mem A;cases a with
 |mk k n nm op kids=>
  have O:SizeOf.sizeOf (ExpT.mk k n nm op kids)=1+SizeOf.sizeOf k+SizeOf.sizeOf n+SizeOf.sizeOf nm+SizeOf.sizeOf op+SizeOf.sizeOf kids:=ExpT.mk.sizeOf_spec ..
  rw[O]
  have T:SizeOf.sizeOf ((ExpT.mk k n nm op kids).kids.getD i default)<SizeOf.sizeOf kids:=E
  omega
theorem kE: ∀(fuel:Nat) {O:Option Addr} {T:Nat} (a:ExpT) {V:Option Addr} {Y:Nat} (b:ExpT) {F:Fz} {H:Heap} {R:List Fp} (hs:HS (.of H []) F H [] R) (bf:in64 a.kind) (bk:in64 a.n) (bl:in64 a.op) (Z:SR F (sL O a.kids.length T) a.kids) (bn:in64 b.kind) (bt:in64 b.n) (bw:in64 b.op) (al:SR F (sL V b.kids.length Y) b.kids) (a8:a=b) (a9:Few a),SizeOf.sizeOf a<fuel->kKt ex 15 [(aG [(iI a.kind),(iI a.n),(.string ⟨⟨a.name.b⟩⟩),(iI a.op),(sL O a.kids.length T)]),(aG [(iI b.kind),(iI b.n),(.string ⟨⟨b.name.b⟩⟩),(iI b.op),(sL V b.kids.length Y)])] H fun v H'=> ∃(o:Bool) (F':Fz),Fz.le F F'/\HS (.of H []) F' H' [] R/\v= .bool o/\o=true:=by
 intro fuel;induction fuel with
 |zero=>intros;omega
 |succ fuel ih=>
 intro O T a V Y b F H R hs bf bk bl Z bn bt bw al a8 a9 cl;have e4:b.kids.length=a.kids.length:=by rw[a8]
 have e5:=a9.len;refine av Tryz.func15 rfl rfl (aj 1 rfl (ab (aw (bX hs rfl rfl) rfl rfl ?_)));rintro _ H2 _ ⟨b1,rfl,(b9:HS _ _ _ [(fP b1 [(iI a.kind),(iI a.n),(.string ⟨⟨a.name.b⟩⟩),(iI a.op),(sL O a.kids.length T)])] _),_⟩;refine aw (bX b9 rfl rfl) rfl rfl ?_;rintro _ H4 _ ⟨b3,rfl,(A:HS _ _ _ [_,(fP b3 [(iI b.kind),(iI b.n),(.string ⟨⟨b.name.b⟩⟩),(iI b.op),(sL V b.kids.length Y)])] _),_⟩;refine za (.bool false) (ad 3 rfl (wR 1 [(1,.o (iI a.kind)),(3,.o (iI b.kind)),(7,.o (iI a.n)),(9,.o (iI b.n)),(14,.o (.string ⟨⟨a.name.b⟩⟩)),(16,.o (.string ⟨⟨b.name.b⟩⟩)),(21,.o (iI a.op)),(23,.o (iI b.op)),(28,.o (sL O a.kids.length T)),(31,.o (sL V b.kids.length Y))] 6 40 [] [(40,(.bool (((((a.kind !=b.kind)||(a.n !=b.n))||(a.name.b !=b.name.b))||(a.op !=b.op))||((a.kids.length:Int) !=(b.kids.length:Int)))))] (vA (ql 3 0 (HS.hc A (i:=0) rfl) rfl rfl) (vA (ql 3 0 (HS.hc A (i:=1) rfl) rfl rfl) (vA (fun(g1:(a.kind !=b.kind)=false)=>(ql 2 1 (HS.hc A (i:=0) rfl) rfl rfl)) (vA (fun(g1:(a.kind !=b.kind)=false)=>(ql 2 1 (HS.hc A (i:=1) rfl) rfl rfl)) (vA (fun(g1:((a.kind !=b.kind)||(a.n !=b.n))=false)=>(ql 9 2 (HS.hc A (i:=0) rfl) rfl rfl)) (vA (fun(g1:((a.kind !=b.kind)||(a.n !=b.n))=false)=>(ql 9 2 (HS.hc A (i:=1) rfl) rfl rfl)) (vA (fun(g1:(((a.kind !=b.kind)||(a.n !=b.n))||(a.name.b !=b.name.b))=false)=>(ql 3 3 (HS.hc A (i:=0) rfl) rfl rfl)) (vA (fun(g1:(((a.kind !=b.kind)||(a.n !=b.n))||(a.name.b !=b.name.b))=false)=>(ql 3 3 (HS.hc A (i:=1) rfl) rfl rfl)) (vA (fun(g1:((((a.kind !=b.kind)||(a.n !=b.n))||(a.name.b !=b.name.b))||(a.op !=b.op))=false)=>(ql 44 4 (HS.hc A (i:=0) rfl) rfl rfl)) (vA (fun(g1:((((a.kind !=b.kind)||(a.n !=b.n))||(a.name.b !=b.name.b))||(a.op !=b.op))=false)=>(ql 44 4 (HS.hc A (i:=1) rfl) rfl rfl)) trivial)))))))))) rfl fun _=>zi 1 3 (fun c6=>?_) fun c6=>?_))
 ·try simp only[BS]at c6
  refine wT 1 [] 4 4 [] [(4,(.bool false))] rfl fun _=>ae ⟨.inr rfl,_,rfl,false,_,fR,(HS.forget A),rfl,(by(exfalso;simp_all))⟩
 try simp only[BS]at c6
 refine wU 2 [(1,.o (sL O a.kids.length T))] 41 44 [] [(43,(iI (a.kids.length:Int))),(44,(iI 0))] (ql 44 4 (HS.hc A (i:=0) rfl) rfl rfl) rfl fun _=>aq (fun(mm:Nat) f H'=> ∃(i:Nat) (F':Fz),Fz.le F F'/\HS (Base.of H []) F' H' [(fP b1 [(iI a.kind),(iI a.n),(.string ⟨⟨a.name.b⟩⟩),(iI a.op),(sL O a.kids.length T)]),(fP b3 [(iI b.kind),(iI b.n),(.string ⟨⟨b.name.b⟩⟩),(iI b.op),(sL V b.kids.length Y)])] R/\aN f [(2,(pT b1 0)),(3,(pT b3 0)),(43,(iI (a.kids.length:Int))),(44,(iI (i:Int)))]/\mm=a.kids.length-i/\(i<=a.kids.length)) _ ⟨0,_,fR,A,⟨rfl,rfl,rfl,rfl,trivial⟩,rfl,(by omega)⟩ ?_
 rintro dn f9 H9 ⟨i,F9,ar,U,a7,rfl,h1⟩ ch;refine aC _ a7 (fun _=>?_);clear a7;replace Z:=Z.mono ar;replace al:=al.mono ar;refine aj 1 rfl (wT 2 [] 45 45 [] [(45,(.bool (decide ((i:Int)<(a.kids.length:Int)))))] rfl fun _=>zd 4 5 (fun b8=>?_) fun b8=>?_)
 ·refine wT 2 [] 46 46 [5] [(5,(iI (i:Int)))] rfl fun _=>aS rfl (zp 4 (zl 4 (HS.hc U.log0 (i:=0) rfl) (zfm (iI (i:Int)) (zx ExpT i (SR.sv Z U.log0) ?_))))
  obtain⟨c8,b4,b0⟩:=Sv.at (SR.sv Z U.log0) (bo (x:=default) (show i<a.kids.length from by omega));obtain⟨ax,a3,rfl,ci,co,c0,a5⟩:=(ExpT.out b4)
  refine aV (v:=(aG [(iI (a.kids.getD i default).kind),(iI (a.kids.getD i default).n),(.string ⟨⟨(a.kids.getD i default).name.b⟩⟩),(iI (a.kids.getD i default).op),(sL ax (a.kids.getD i default).kids.length a3)])) (id:= .l (sB (sL O a.kids.length T))) (cV (i:=0) rfl rfl rfl b0 rfl rfl rfl) rfl rfl (ej rfl) (kb rfl) (zp 4 (zl 4 (HS.hc U.log0 (i:=1) rfl) (zfm (iI (i:Int)) (zx ExpT i (SR.sv al U.log0) ?_))));obtain⟨c9,b5,b2⟩:=Sv.at (SR.sv al U.log0) (bo (x:=default) (show i<b.kids.length from by omega));obtain⟨a1,a4,rfl,c3,c4,c5,a6⟩:=(ExpT.out b5)
  refine aV (v:=(aG [(iI (b.kids.getD i default).kind),(iI (b.kids.getD i default).n),(.string ⟨⟨(b.kids.getD i default).name.b⟩⟩),(iI (b.kids.getD i default).op),(sL a1 (b.kids.getD i default).kids.length a4)])) (id:= .l (sB (sL V b.kids.length Y))) (cV (i:=0) rfl rfl rfl b2 rfl rfl rfl) rfl rfl (ej rfl) (kb rfl) (bc (W:=[]) (aY rfl rfl rfl) rfl rfl rfl (ih (a.kids.getD i default) (b.kids.getD i default) (HS.call U.log0) (by omega) (by omega) (by omega) a5 (by omega) (by omega) (by omega) a6 (by(rw[a8];done)) (a9.kid (by omega)) (by(have q:=kid_lt (a:=a) (i:=i) (by omega);omega))) (kb rfl) ?_);rintro _ b7 ⟨ds,dk,bb,E,rfl,rfl⟩;refine⟨Wr.did E.log,fun b6 a2=>?_⟩;replace E:=HS.back U.log0 rfl E;replace E:=HS.lg E U a2;generalize ({b7 with log:=b6}:Heap)=c7 at E⊢;have E:HS _ _ _ [_,_] _:=E;refine wfv (v:=(.bool false)) (eb (b:=true) rfl) (bR (aj 1 rfl (kM 2 (v:=false) rfl rfl rfl rfl (wU 1 [] 44 44 [59] [(44,(iI ((i:Int)+1)))] (vi (n:=(i:Int)+1)) rfl fun _=>?_))));refine ch _ _ _ ?_ ⟨i+1,_,(fT (ar) bb),E,⟨rfl,rfl,rfl,rfl,trivial⟩,rfl,(by omega)⟩;omega
 refine wT 1 [] 4 4 [] [(4,(.bool true))] rfl fun _=>ae ⟨.inr rfl,_,rfl,true,_,(ar),(HS.forget U),rfl,(by rfl)⟩
theorem sameExpr_c{A:Option Addr}{O:Nat}(a:ExpT){E:Option Addr}{T:Nat}(b:ExpT)(hs:HS (.of H []) F H [] R)(U:in64 a.kind)(V:in64 a.n)(Y:in64 a.op)(Z:SR F (sL A a.kids.length O) a.kids)(al:in64 b.kind)(an:in64 b.n)(ar:in64 b.op)(ax:SR F (sL E b.kids.length T) b.kids)(a1:a=b)(a2:Few a):kKt ex 15 [(aG [(iI a.kind),(iI a.n),(.string ⟨⟨a.name.b⟩⟩),(iI a.op),(sL A a.kids.length O)]),(aG [(iI b.kind),(iI b.n),(.string ⟨⟨b.name.b⟩⟩),(iI b.op),(sL E b.kids.length T)])] H fun v H'=> ∃(o:Bool) (F':Fz),Fz.le F F'/\HS (.of H []) F' H' [] R/\v= .bool o/\o=true:=
 kE ex (SizeOf.sizeOf a+1) a b hs U V Y Z al an ar ax a1 a2 (a1b _)
end Go.Proofs.YtkpgbdkkgcdhmaaGreat.se
