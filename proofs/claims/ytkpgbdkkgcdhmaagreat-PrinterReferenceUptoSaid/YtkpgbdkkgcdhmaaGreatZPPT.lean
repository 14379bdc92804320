/-
What the parsers compute, in plain terms. No condition.
-/
import Derived.Test.YtkpgbdkkgcdhmaaGreatZPL1
import Derived.Test.YtkpgbdkkgcdhmaaGreatZPW3
noncomputable section
namespace Go.Proofs.YtkpgbdkkgcdhmaaGreat.pt
open Go.R
set_option maxRecDepth 10000
set_option linter.unusedVariables false
set_option linter.unusedSimpArgs false
open w1 w3 l1
structure ExpT where
 kind:Int
 n:Int
 name:Str
 op:Int
 kids:(List ExpT)
 deriving Inhabited
abbrev ExpT.body(F:Fz)(S:Value->List ExpT->Prop)(cs:List Value)(x:ExpT):Prop:= ∃a4 k4,cs=[iI x.kind,iI x.n,tX x.name.b,iI x.op,sL a4 x.kids.length k4]/\in64 x.kind/\in64 x.n/\in64 x.op/\S (sL a4 x.kids.length k4) x.kids
def ExpT.lv:Nat->Lv ExpT 5
 |0=>⟨fun _ _ _=>False,fun h=>h.elim,fun h=>h.elim,fun _ h=>h.elim⟩
 |d+1=>⟨fun F cs x=>ExpT.body F (@SR ExpT (ExpT.lv d).rp F) cs x,by rintro F cs x ⟨a4,k4,rfl,_⟩;rfl,by rintro F cs x ⟨a4,k4,rfl,_⟩;rfl,by
   rintro F F' cs x hF ⟨a4,k4,rfl,h0,h1,h2,h3⟩;exact⟨a4,k4,V,h0,h1,h2, @SR.mono ExpT (ExpT.lv d).rp F F' hF _ _ h3⟩⟩
theorem ExpT.up{F:Fz}: ∀d cs x,(ExpT.lv d).r F cs x->(ExpT.lv (d+1)).r F cs x
 |0,_,_,h=>h.elim
 |d+1,cs,x,⟨A,Z,e,E,O,U,a_⟩=>⟨A,Z,e,E,O,U,SR.imp (i:=(ExpT.lv d).rp) (j:=(ExpT.lv (d+1)).rp) V (fun cs x=>ExpT.up d cs x) a_⟩
instance :Rp ExpT:=rpOf ExpT.lv
theorem ExpT.out{F:Fz}{cs:List Value}{x:ExpT}(h:Rp.rep F cs x):ExpT.body F (SR F) cs x:=by
 obtain⟨d,h⟩:=h;cases d with
 |zero=>exact h.elim
 |succ d=>
  obtain⟨A,Z,e,E,O,U,a_⟩:=h
  exact⟨A,Z,e,E,O,U,SR.imp (i:=(ExpT.lv d).rp) (j:=rpOf ExpT.lv) V (fun cs x h=>⟨d,h⟩) a_⟩
theorem ExpT.mkr{F:Fz}{cs:List Value}{x:ExpT}(h:ExpT.body F (SR F) cs x):Rp.rep F cs x:=by obtain⟨A,Z,e,E,O,U,a_⟩:=h;obtain⟨d0,u0⟩:=SR.unif ExpT.up a_;exact⟨d0+1,A,Z,e,E,O,U,u0 d0 M⟩
theorem ExpT.vw{F:Fz}{get:Nat->Option AObj}{v:Value}{cf:Nat->List Value}{j:Nat}{l:List ExpT}(h:VW F get v l cf j)(Z:j<l.length:=by first|(dsimp only;omega)|omega):HC get (sB v) (sO v+j *Rp.sz ExpT) [iI (l.getD j default).kind,iI (l.getD j default).n,tX (l.getD j default).name.b,iI (l.getD j default).op,sL (cA (cf j) 4) (l.getD j default).kids.length (cK (cf j) 4)]:=by obtain⟨A,E⟩:=h.1 default Z;obtain⟨O,U,A,_⟩:=ExpT.out A;rw[show cf j=_ from A]at E⊢;exact E
theorem ExpT.fx{F:Fz}{get:Nat->Option AObj}{v:Value}{cf:Nat->List Value}{j:Nat}{l:List ExpT}(h:VW F get v l cf j):in64 (l.getD j default).kind/\in64 (l.getD j default).n/\in64 (l.getD j default).op/\SR F (sL (cA (cf j) 4) (l.getD j default).kids.length (cK (cf j) 4)) (l.getD j default).kids:=by
 rcases a0s j l.length with hj|hj
 ·obtain⟨A,_⟩:=h.1 default hj;obtain⟨Z,k4,E,O,A,U,a_⟩:=ExpT.out A;rw[show cf j=_ from E];exact⟨O,A,U,a_⟩
 rw[dG hj,h.2 hj];exact⟨by decide,by decide,by decide,SR.nil⟩
structure StmT where
 kind:Int
 name:Str
 to:Str
 n:Int
 at_:ExpT
 val:ExpT
 args:(List ExpT)
 thn:(List StmT)
 els:(List StmT)
 deriving Inhabited
abbrev StmT.body(F:Fz)(S:Value->List StmT->Prop)(cs:List Value)(x:StmT):Prop:= ∃a8 k8 a13 k13 a14 k14 a15 k15 a16 k16,cs=[iI x.kind,tX x.name.b,tX x.to.b,iI x.n,iI x.at_.kind,iI x.at_.n,tX x.at_.name.b,iI x.at_.op,sL a8 x.at_.kids.length k8,iI x.val.kind,iI x.val.n,tX x.val.name.b,iI x.val.op,sL a13 x.val.kids.length k13,sL a14 x.args.length k14,sL a15 x.thn.length k15,sL a16 x.els.length k16]/\in64 x.kind/\in64 x.n/\in64 x.at_.kind/\in64 x.at_.n/\in64 x.at_.op/\in64 x.val.kind/\in64 x.val.n/\in64 x.val.op/\SR F (sL a8 x.at_.kids.length k8) x.at_.kids/\SR F (sL a13 x.val.kids.length k13) x.val.kids/\SR F (sL a14 x.args.length k14) x.args/\S (sL a15 x.thn.length k15) x.thn/\S (sL a16 x.els.length k16) x.els
def StmT.lv:Nat->Lv StmT 17
 |0=>⟨fun _ _ _=>False,fun h=>h.elim,fun h=>h.elim,fun _ h=>h.elim⟩
 |d+1=>⟨fun F cs x=>StmT.body F (@SR StmT (StmT.lv d).rp F) cs x,by rintro F cs x ⟨a8,k8,a13,k13,a14,k14,a15,k15,a16,k16,rfl,_⟩;rfl,by rintro F cs x ⟨a8,k8,a13,k13,a14,k14,a15,k15,a16,k16,rfl,_⟩;rfl,by
   rintro F F' cs x hF ⟨a8,k8,a13,k13,a14,k14,a15,k15,a16,k16,rfl,h0,h1,h2,h3,h4,h5,h6,h7,h8,h9,h10,h11,h12⟩;exact⟨a8,k8,a13,k13,a14,k14,a15,k15,a16,k16,V,h0,h1,h2,h3,h4,h5,h6,h7,h8.mono hF,h9.mono hF,h10.mono hF, @SR.mono StmT (StmT.lv d).rp F F' hF _ _ h11, @SR.mono StmT (StmT.lv d).rp F F' hF _ _ h12⟩⟩
theorem StmT.up{F:Fz}: ∀d cs x,(StmT.lv d).r F cs x->(StmT.lv (d+1)).r F cs x
 |0,_,_,h=>h.elim
 |d+1,cs,x,⟨a8,k8,A,an,E,ar,O,ax,U,aA,e,h0,h1,h2,h3,h4,h5,h6,h7,h8,h9,a_,Z,al⟩=>⟨a8,k8,A,an,E,ar,O,ax,U,aA,e,h0,h1,h2,h3,h4,h5,h6,h7,h8,h9,a_,SR.imp (i:=(StmT.lv d).rp) (j:=(StmT.lv (d+1)).rp) V (fun cs x=>StmT.up d cs x) Z,SR.imp (i:=(StmT.lv d).rp) (j:=(StmT.lv (d+1)).rp) V (fun cs x=>StmT.up d cs x) al⟩
instance :Rp StmT:=rpOf StmT.lv
theorem StmT.out{F:Fz}{cs:List Value}{x:StmT}(h:Rp.rep F cs x):StmT.body F (SR F) cs x:=by
 obtain⟨d,h⟩:=h;cases d with
 |zero=>exact h.elim
 |succ d=>
  obtain⟨a8,k8,A,an,E,ar,O,ax,U,aA,e,h0,h1,h2,h3,h4,h5,h6,h7,h8,h9,a_,Z,al⟩:=h
  exact⟨a8,k8,A,an,E,ar,O,ax,U,aA,e,h0,h1,h2,h3,h4,h5,h6,h7,h8,h9,a_,SR.imp (i:=(StmT.lv d).rp) (j:=rpOf StmT.lv) V (fun cs x h=>⟨d,h⟩) Z,SR.imp (i:=(StmT.lv d).rp) (j:=rpOf StmT.lv) V (fun cs x h=>⟨d,h⟩) al⟩
theorem StmT.mkr{F:Fz}{cs:List Value}{x:StmT}(h:StmT.body F (SR F) cs x):Rp.rep F cs x:=by obtain⟨a8,k8,E,ar,O,ax,U,aA,a_,a0,e,h0,h1,h2,h3,h4,h5,h6,h7,h8,h9,Z,al,an⟩:=h;obtain⟨d0,u0⟩:=SR.unif StmT.up al;obtain⟨A,u1⟩:=SR.unif StmT.up an;exact⟨(max d0 A)+1,a8,k8,E,ar,O,ax,U,aA,a_,a0,e,h0,h1,h2,h3,h4,h5,h6,h7,h8,h9,Z,u0 (max d0 A) M,u1 (max d0 A) M⟩
theorem StmT.vw{F:Fz}{get:Nat->Option AObj}{v:Value}{cf:Nat->List Value}{j:Nat}{l:List StmT}(h:VW F get v l cf j)(hj:j<l.length:=by first|(dsimp only;omega)|omega):HC get (sB v) (sO v+j *Rp.sz StmT) [iI (l.getD j default).kind,tX (l.getD j default).name.b,tX (l.getD j default).to.b,iI (l.getD j default).n,iI (l.getD j default).at_.kind,iI (l.getD j default).at_.n,tX (l.getD j default).at_.name.b,iI (l.getD j default).at_.op,sL (cA (cf j) 8) (l.getD j default).at_.kids.length (cK (cf j) 8),iI (l.getD j default).val.kind,iI (l.getD j default).val.n,tX (l.getD j default).val.name.b,iI (l.getD j default).val.op,sL (cA (cf j) 13) (l.getD j default).val.kids.length (cK (cf j) 13),sL (cA (cf j) 14) (l.getD j default).args.length (cK (cf j) 14),sL (cA (cf j) 15) (l.getD j default).thn.length (cK (cf j) 15),sL (cA (cf j) 16) (l.getD j default).els.length (cK (cf j) 16)]:=by obtain⟨A,E⟩:=h.1 default hj;obtain⟨a8,k8,O,al,U,an,a_,ar,Z,ax,A,_⟩:=StmT.out A;rw[show cf j=_ from A]at E⊢;exact E
theorem StmT.fx{F:Fz}{get:Nat->Option AObj}{v:Value}{cf:Nat->List Value}{j:Nat}{l:List StmT}(h:VW F get v l cf j):in64 (l.getD j default).kind/\in64 (l.getD j default).n/\in64 (l.getD j default).at_.kind/\in64 (l.getD j default).at_.n/\in64 (l.getD j default).at_.op/\in64 (l.getD j default).val.kind/\in64 (l.getD j default).val.n/\in64 (l.getD j default).val.op/\SR F (sL (cA (cf j) 8) (l.getD j default).at_.kids.length (cK (cf j) 8)) (l.getD j default).at_.kids/\SR F (sL (cA (cf j) 13) (l.getD j default).val.kids.length (cK (cf j) 13)) (l.getD j default).val.kids/\SR F (sL (cA (cf j) 14) (l.getD j default).args.length (cK (cf j) 14)) (l.getD j default).args/\SR F (sL (cA (cf j) 15) (l.getD j default).thn.length (cK (cf j) 15)) (l.getD j default).thn/\SR F (sL (cA (cf j) 16) (l.getD j default).els.length (cK (cf j) 16)) (l.getD j default).els:=by
 rcases a0s j l.length with hj|hj
 ·obtain⟨A,_⟩:=h.1 default hj;obtain⟨a8,k8,a3,a7,a4,a9,a5,ba,a6,bb,a_,Z,A,h2,h3,h4,h5,h6,h7,h8,h9,E,O,U⟩:=StmT.out A;rw[show cf j=_ from a_];exact⟨Z,A,h2,h3,h4,h5,h6,h7,h8,h9,E,O,U⟩
 rw[dG hj,h.2 hj];exact⟨by decide,by decide,by decide,by decide,by decide,by decide,by decide,by decide,SR.nil,SR.nil,SR.nil,SR.nil,SR.nil⟩
structure FunT where
 name:Str
 pars:(List Str)
 locs:(List Str)
 body:(List StmT)
 val:ExpT
 deriving Inhabited
instance :Rp FunT where
 sz:=9
 rep F cs x:= ∃a1 k1 a2 k2 a3 k3 a8 k8,cs=[tX x.name.b,sL a1 x.pars.length k1,sL a2 x.locs.length k2,sL a3 x.body.length k3,iI x.val.kind,iI x.val.n,tX x.val.name.b,iI x.val.op,sL a8 x.val.kids.length k8]/\in64 x.val.kind/\in64 x.val.n/\in64 x.val.op/\SR F (sL a1 x.pars.length k1) x.pars/\SR F (sL a2 x.locs.length k2) x.locs/\SR F (sL a3 x.body.length k3) x.body/\SR F (sL a8 x.val.kids.length k8) x.val.kids
 len:=by rintro F cs x ⟨a1,k1,a2,k2,a3,k3,a8,k8,rfl,_⟩;rfl
 one:=by rintro F cs x ⟨a1,k1,a2,k2,a3,k3,a8,k8,rfl,_⟩;rfl
 mono:=by rintro F F' cs x hF ⟨a1,k1,a2,k2,a3,k3,a8,k8,rfl,h0,h1,h2,h3,h4,h5,h6⟩;exact⟨a1,k1,a2,k2,a3,k3,a8,k8,V,h0,h1,h2,h3.mono hF,h4.mono hF,h5.mono hF,h6.mono hF⟩
theorem FunT.vw{F:Fz}{get:Nat->Option AObj}{v:Value}{cf:Nat->List Value}{j:Nat}{l:List FunT}(h:VW F get v l cf j)(hj:j<l.length:=by first|(dsimp only;omega)|omega):HC get (sB v) (sO v+j *Rp.sz FunT) [tX (l.getD j default).name.b,sL (cA (cf j) 1) (l.getD j default).pars.length (cK (cf j) 1),sL (cA (cf j) 2) (l.getD j default).locs.length (cK (cf j) 2),sL (cA (cf j) 3) (l.getD j default).body.length (cK (cf j) 3),iI (l.getD j default).val.kind,iI (l.getD j default).val.n,tX (l.getD j default).val.name.b,iI (l.getD j default).val.op,sL (cA (cf j) 8) (l.getD j default).val.kids.length (cK (cf j) 8)]:=by obtain⟨⟨O,k1,U,k2,a_,k3,Z,k8,E,_⟩,A⟩:=h.1 default hj;rw[show cf j=_ from E]at A⊢;exact A
theorem FunT.fx{F:Fz}{get:Nat->Option AObj}{v:Value}{cf:Nat->List Value}{j:Nat}{l:List FunT}(h:VW F get v l cf j):in64 (l.getD j default).val.kind/\in64 (l.getD j default).val.n/\in64 (l.getD j default).val.op/\SR F (sL (cA (cf j) 1) (l.getD j default).pars.length (cK (cf j) 1)) (l.getD j default).pars/\SR F (sL (cA (cf j) 2) (l.getD j default).locs.length (cK (cf j) 2)) (l.getD j default).locs/\SR F (sL (cA (cf j) 3) (l.getD j default).body.length (cK (cf j) 3)) (l.getD j default).body/\SR F (sL (cA (cf j) 8) (l.getD j default).val.kids.length (cK (cf j) 8)) (l.getD j default).val.kids:=by
 rcases a0s j l.length with hj|hj
 ·obtain⟨⟨a1,k1,a2,k2,a3,k3,a8,k8,A,E,O,U,a_,Z,h5,h6⟩,_⟩:=h.1 default hj;rw[show cf j=_ from A];exact⟨E,O,U,a_,Z,h5,h6⟩
 rw[dG hj,h.2 hj];exact⟨by decide,by decide,by decide,SR.nil,SR.nil,SR.nil,SR.nil⟩
structure ArrT where
 name:Str
 len:Int
 deriving Inhabited
instance :Rp ArrT where
 sz:=2
 rep F cs x:=cs=[tX x.name.b,iI x.len]/\in64 x.len
 len:=by rintro F cs x ⟨rfl,_⟩;rfl
 one:=by rintro F cs x ⟨rfl,_⟩;rfl
 mono:=by intro F F' cs x _ h;exact h
theorem ArrT.vw{F:Fz}{get:Nat->Option AObj}{v:Value}{cf:Nat->List Value}{j:Nat}{l:List ArrT}(h:VW F get v l cf j)(O:j<l.length:=by first|(dsimp only;omega)|omega):HC get (sB v) (sO v+j *Rp.sz ArrT) [tX (l.getD j default).name.b,iI (l.getD j default).len]:=by obtain⟨⟨E,_⟩,A⟩:=h.1 default O;rw[show cf j=_ from E]at A;exact A
theorem ArrT.fx{F:Fz}{get:Nat->Option AObj}{v:Value}{cf:Nat->List Value}{j:Nat}{l:List ArrT}(h:VW F get v l cf j):in64 (l.getD j default).len:=by
 rcases a0s j l.length with hj|hj
 ·obtain⟨⟨E,A⟩,_⟩:=h.1 default hj;exact A
 rw[dG hj];decide
structure PrgT where
 arrs:(List ArrT)
 funs:(List FunT)
 deriving Inhabited
instance :Rp PrgT where
 sz:=2
 rep F cs x:= ∃a0 k0 a1 k1,cs=[sL a0 x.arrs.length k0,sL a1 x.funs.length k1]/\SR F (sL a0 x.arrs.length k0) x.arrs/\SR F (sL a1 x.funs.length k1) x.funs
 len:=by rintro F cs x ⟨a0,k0,a1,k1,rfl,_⟩;rfl
 one:=by rintro F cs x ⟨a0,k0,a1,k1,rfl,_⟩;rfl
 mono:=by rintro F F' cs x hF ⟨a0,k0,a1,k1,rfl,h0,h1⟩;exact⟨a0,k0,a1,k1,V,h0.mono hF,h1.mono hF⟩
theorem PrgT.vw{F:Fz}{get:Nat->Option AObj}{v:Value}{cf:Nat->List Value}{j:Nat}{l:List PrgT}(h:VW F get v l cf j)(Z:j<l.length:=by first|(dsimp only;omega)|omega):HC get (sB v) (sO v+j *Rp.sz PrgT) [sL (cA (cf j) 0) (l.getD j default).arrs.length (cK (cf j) 0),sL (cA (cf j) 1) (l.getD j default).funs.length (cK (cf j) 1)]:=by obtain⟨⟨O,a_,U,k1,E,_⟩,A⟩:=h.1 default Z;rw[show cf j=_ from E]at A⊢;exact A
theorem PrgT.fx{F:Fz}{get:Nat->Option AObj}{v:Value}{cf:Nat->List Value}{j:Nat}{l:List PrgT}(h:VW F get v l cf j):SR F (sL (cA (cf j) 0) (l.getD j default).arrs.length (cK (cf j) 0)) (l.getD j default).arrs/\SR F (sL (cA (cf j) 1) (l.getD j default).funs.length (cK (cf j) 1)) (l.getD j default).funs:=by
 rcases a0s j l.length with hj|hj
 ·obtain⟨⟨U,Z,a_,k1,A,E,O⟩,_⟩:=h.1 default hj;rw[show cf j=_ from A];exact⟨E,O⟩
 rw[dG hj,h.2 hj];exact⟨SR.nil,SR.nil⟩
structure RdrT where
 l:(List Token)
 at_:Int
 fin:Int
 bad:Bool
 deriving Inhabited
instance :Rp RdrT where
 sz:=4
 rep F cs x:= ∃a0 k0,cs=[sL a0 x.l.length k0,iI x.at_,iI x.fin,.bool x.bad]/\in64 x.at_/\in64 x.fin/\SR F (sL a0 x.l.length k0) x.l
 len:=by rintro F cs x ⟨a0,k0,rfl,_⟩;rfl
 one:=by rintro F cs x ⟨a0,k0,rfl,_⟩;rfl
 mono:=by rintro F F' cs x hF ⟨a0,k0,rfl,h0,h1,h2⟩;exact⟨a0,k0,V,h0,h1,h2.mono hF⟩
structure PrsT where
 l:(List Token)
 i:Int
 fin:Int
 e:ErrT
 deriving Inhabited
instance :Rp PrsT where
 sz:=5
 rep F cs x:= ∃a0 k0,cs=[sL a0 x.l.length k0,iI x.i,iI x.fin,iI x.e.why,iI x.e.at_]/\in64 x.i/\in64 x.fin/\in64 x.e.why/\in64 x.e.at_/\SR F (sL a0 x.l.length k0) x.l
 len:=by rintro F cs x ⟨a0,k0,rfl,_⟩;rfl
 one:=by rintro F cs x ⟨a0,k0,rfl,_⟩;rfl
 mono:=by rintro F F' cs x hF ⟨a0,k0,rfl,h0,h1,h2,h3,h4⟩;exact⟨a0,k0,V,h0,h1,h2,h3,h4.mono hF⟩
abbrev Rs(α:Type):=Except Nat (α×Nat)
def bnd{α β:Type}(m:Rs α)(f:α->Nat->Rs β):Rs β:=match m with
 | .error p=> .error p
 | .ok (x,i)=>f x i
def isS(ts:List Token)(i:Nat)(w:List UInt8):Bool:=decide ((ts.getD i default).kind=3)&&decide ((ts.getD i default).text.b=w)
def isK(ts:List Token)(i:Nat)(w:List UInt8):Bool:=decide ((ts.getD i default).kind=1)&&decide ((ts.getD i default).text.b=w)
def resL:List (List UInt8):=[[97,114,114,97,121],[102,117,110,99],[118,97,114],[114,101,116,117,114,110],[105,102],[101,108,115,101],[119,104,105,108,101],[111,117,116],[116,114,97,112]]
def resV(w:List UInt8):Bool:=decide (w∈resL)
def isN(ts:List Token)(i:Nat):Bool:=decide ((ts.getD i default).kind=1)&& !resV (ts.getD i default).text.b
def isM(ts:List Token)(i:Nat):Bool:=decide ((ts.getD i default).kind=2)
def expM(ts:List Token)(w:List UInt8)(i:Nat):Rs Unit:=if isS ts i w then .ok ((),i+1) else .error i
def keyM(ts:List Token)(w:List UInt8)(i:Nat):Rs Unit:=if isK ts i w then .ok ((),i+1) else .error i
def nameM(ts:List Token)(i:Nat):Rs Str:=if isN ts i then .ok ((ts.getD i default).text,i+1) else .error i
def numV(ts:List Token)(i:Nat):Option Int:=parseS (ts.getD i default).text.b
def smallM(ts:List Token)(i:Nat):Rs Int:=if isM ts i&&(numV ts i).isSome&&decide ((numV ts i).getD 0<=1000000) then .ok ((numV ts i).getD 0,i+1) else .error i
def opL:List (List UInt8×Int×Int×Bool):=[([124],10,0,false),([94],11,1,false),([38],9,2,false),([61,61],15,3,false),([33,61],16,3,false),([60],17,4,false),([60,61],18,4,false),([62],17,4,true),([62,61],18,4,true),([60,60],12,5,false),([62,62],14,5,false),([62,62,62],13,5,false),([43],4,6,false),([45],5,6,false),([42],6,7,false),([47],7,7,false),([37],8,7,false)]
def opT(s:List UInt8):Int×Int×Bool:=((opL.find? fun q=>decide (s=q.1)).map (·.2)).getD (0,0,false)
def opK(ts:List Token)(k:Nat)(i:Nat):Int:=if decide ((ts.getD i default).kind=3)&&decide ((opT (ts.getD i default).text.b).2.1=(k:Int)) then(opT (ts.getD i default).text.b).1 else 0
def mkE(E n:Int)(O:Str)(op:Int)(A:List ExpT):ExpT:=⟨E,n,O,op,A⟩
def ec:Str:=⟨[]⟩
def mkB(ts:List Token)(i:Nat)(a b:ExpT):ExpT:=mkE 4 0 ec (opT (ts.getD i default).text.b).1 (if(opT (ts.getD i default).text.b).2.2 then [b,a] else [a,b])
def numE(n:Int):ExpT:=mkE 1 n ec 0 []
mutual
def jv(ts:List Token):Nat->Nat->Rs ExpT
 |0,i=> .error i
 |n+1,i=>bnd (binM ts n 0 i) fun c i=>if isS ts i [63] then bnd (jv ts n (i+1)) fun a i=>bnd (expM ts [58] i) fun _ i=>bnd (jv ts n i) fun b i=> .ok (mkE 5 0 ec 0 [c,a,b],i) else .ok (c,i)
def binM(ts:List Token):Nat->Nat->Nat->Rs ExpT
 |0,_,i=> .error i
 |n+1,k,i=>if k=8 then unaM ts n i else bnd (binM ts n (k+1) i) fun a i=>loopM ts n k a i
def loopM(ts:List Token):Nat->Nat->ExpT->Nat->Rs ExpT
 |0,_,_,i=> .error i
 |n+1,k,a,i=>if opK ts k i=0 then .ok (a,i) else bnd (binM ts n (k+1) (i+1)) fun b j=>loopM ts n k (mkB ts i a b) j
def unaM(ts:List Token):Nat->Nat->Rs ExpT
 |0,i=> .error i
 |n+1,i=>
  if isS ts i [45] then(if isM ts (i+1) then .ok (numE ((parseS (45::(ts.getD (i+1) default).text.b)).getD 0),i+2) else bnd (unaM ts n (i+1)) fun x i=> .ok (mkE 4 0 ec 20 [x],i))
  else if isS ts i [126] then bnd (unaM ts n (i+1)) fun x i=> .ok (mkE 4 0 ec 21 [x],i)
  else if isS ts i [33] then bnd (unaM ts n (i+1)) fun x i=> .ok (mkE 4 0 ec 15 [x,numE 0],i)
  else if isS ts i [40] then bnd (jv ts n (i+1)) fun x i=>bnd (expM ts [41] i) fun _ i=> .ok (x,i)
  else priM ts n i
def priM(ts:List Token):Nat->Nat->Rs ExpT
 |0,i=> .error i
 |n+1,i=>
  if isM ts i then(if(numV ts i).isSome then .ok (numE ((numV ts i).getD 0),i+1) else .error i)
  else bnd (nameM ts i) fun s i=>if isS ts i [91] then bnd (jv ts n (i+1)) fun x i=>bnd (expM ts [93] i) fun _ i=> .ok (mkE 3 0 s 0 [x],i) else .ok (mkE 2 0 s 0 [],i)
end
def Lim{α:Type}(f:Nat->Rs α)(r:Rs α):Prop:= ∃A,∀n,A<=n->f n=r
def Outc{α:Type}(f:Nat->Rs α)(x:α)(i:Int)(b:Bool):Prop:=(b=false/\∃j:Nat,i=(j:Int)/\Lim f (.ok (x,j)))\/(b=true/\∃p:Nat,i=(p:Int)/\Lim f (.error p))
def mkS(A:Int)(E to:Str)(n:Int)(O val:ExpT)(args:List ExpT)(Z U:List StmT):StmT:=⟨A,E,to,n,O,val,args,Z,U⟩
def zE:ExpT:=mkE 0 0 ec 0 []
def argL(ts:List Token):Nat->List ExpT->Nat->Rs (List ExpT)
 |0,_,i=> .error i
 |n+1,l,i=>if isS ts i [44] then bnd (jv ts n (i+1)) fun b i=>argL ts n (l++[b]) i else bnd (expM ts [41] i) fun _ i=> .ok (l,i)
def argM(ts:List Token)(n:Nat)(i:Nat):Rs (List ExpT):=bnd (expM ts [40] i) fun _ i=>if isS ts i [41] then .ok ([],i+1) else bnd (jv ts n i) fun a i=>argL ts n [a] i
def condM(ts:List Token)(n:Nat)(i:Nat):Rs ExpT:=bnd (expM ts [40] i) fun _ i=>bnd (jv ts n i) fun x i=>bnd (expM ts [41] i) fun _ i=> .ok (x,i)
def simM(ts:List Token)(n:Nat)(i:Nat):Rs StmT:=
 if isK ts i [111,117,116] then bnd (jv ts n (i+1)) fun x i=> .ok (mkS 5 ec ec 0 zE x [] [] [],i)
 else if isK ts i [116,114,97,112] then bnd (smallM ts (i+1)) fun k i=> .ok (mkS 7 ec ec k zE zE [] [] [],i)
 else bnd (nameM ts i) fun s i=>if isS ts i [91] then bnd (jv ts n (i+1)) fun a i=>bnd (expM ts [93] i) fun _ i=>bnd (expM ts [61] i) fun _ i=>bnd (jv ts n i) fun v i=> .ok (mkS 2 s ec 0 a v [] [] [],i)
  else bnd (expM ts [61] i) fun _ i=>if isN ts i&&isS ts (i+1) [40] then bnd (nameM ts i) fun f i=>bnd (argM ts n i) fun l i=> .ok (mkS 6 s f 0 zE zE l [] [],i)
   else bnd (jv ts n i) fun v i=> .ok (mkS 1 s ec 0 zE v [] [] [],i)
mutual
def stmM(ts:List Token):Nat->Nat->Rs StmT
 |0,i=> .error i
 |n+1,i=>
  if isK ts i [105,102] then bnd (condM ts n (i+1)) fun v i=>bnd (blkM ts n i) fun t i=>if isK ts i [101,108,115,101] then bnd (blkM ts n (i+1)) fun e i=> .ok (mkS 3 ec ec 0 zE v [] t e,i) else .ok (mkS 3 ec ec 0 zE v [] t [],i)
  else if isK ts i [119,104,105,108,101] then bnd (condM ts n (i+1)) fun v i=>bnd (blkM ts n i) fun t i=> .ok (mkS 4 ec ec 0 zE v [] t [],i)
  else bnd (simM ts n i) fun s i=>bnd (expM ts [59] i) fun _ i=> .ok (s,i)
def blkM(ts:List Token):Nat->Nat->Rs (List StmT)
 |0,i=> .error i
 |n+1,i=>bnd (expM ts [123] i) fun _ i=>stsM ts n [] i
def stsM(ts:List Token):Nat->List StmT->Nat->Rs (List StmT)
 |0,_,i=> .error i
 |n+1,l,i=>if isS ts i [125] then .ok (l,i+1) else bnd (stmM ts n i) fun s i=>stsM ts n (l++[s]) i
end
def namL(ts:List Token):Nat->List Str->Nat->Rs (List Str)
 |0,_,i=> .error i
 |n+1,l,i=>if isS ts i [44] then bnd (nameM ts (i+1)) fun b i=>namL ts n (l++[b]) i else .ok (l,i)
def namM(ts:List Token)(n:Nat)(i:Nat):Rs (List Str):=bnd (nameM ts i) fun a i=>namL ts n [a] i
def bodL(ts:List Token):Nat->List StmT->Nat->Rs (List StmT)
 |0,_,i=> .error i
 |n+1,l,i=>if isK ts i [114,101,116,117,114,110] then .ok (l,i+1) else bnd (stmM ts n i) fun s i=>bodL ts n (l++[s]) i
def mkF(A:Str)(p l:List Str)(b:List StmT)(v:ExpT):FunT:=⟨A,p,l,b,v⟩
def funM(ts:List Token)(n:Nat)(i:Nat):Rs FunT:=
 bnd (nameM ts i) fun s i=>bnd (expM ts [40] i) fun _ i=>bnd (if isS ts i [41] then .ok (([]:List Str),i) else namM ts n i) fun p i=>bnd (expM ts [41] i) fun _ i=>
 bnd (if isK ts i [118,97,114] then namM ts n (i+1) else .ok (([]:List Str),i)) fun l i=>bnd (expM ts [123] i) fun _ i=>bnd (bodL ts n [] i) fun b i=>bnd (jv ts n i) fun v i=>bnd (expM ts [59] i) fun _ i=>bnd (expM ts [125] i) fun _ i=> .ok (mkF s p l b v,i)
def prgL(ts:List Token):Nat->List ArrT->List FunT->Nat->Rs (List ArrT×List FunT)
 |0,_,_,i=> .error i
 |n+1,a,f,i=>if ts.length<=i then .ok ((a,f),i) else
  if isK ts i [97,114,114,97,121] then bnd (nameM ts (i+1)) fun s i=>bnd (smallM ts i) fun k i=>bnd (expM ts [59] i) fun _ i=>prgL ts n (a++[⟨s,k⟩]) f i
  else bnd (keyM ts [102,117,110,99] i) fun _ i=>bnd (funM ts n i) fun g i=>prgL ts n a (f++[g]) i
def Fw{α:Type}(f g:Nat->Rs α):Prop:= ∀r,Lim f r->Lim g r
def Oc{α:Type}(f:Nat->Rs α)(b:Bool)(i:Int)(x:α)(E:Int)(A:Bool):Prop:=(b=true->A=true/\E=i)/\(b=false->Outc f x E A)
theorem ExpT.mq{F:Fz}{x:ExpT}{A:Option Addr}{E:Nat}(Z:SR F (sL A x.kids.length E) x.kids)(O:in64 x.kind:=by first|omega|(dsimp only;omega)|assumption)(U:in64 x.n:=by first|omega|(dsimp only;omega)|assumption)(a_:in64 x.op:=by first|omega|(dsimp only;omega)|assumption):Rp.rep F [(iI x.kind),(iI x.n),(tX x.name.b),(iI x.op),(sL A x.kids.length E)] x:=ExpT.mkr ⟨A,E,V,O,U,a_,Z⟩
theorem StmT.mq{F:Fz}{x:StmT}{a8:Option Addr}{k8:Nat}{A:Option Addr}{a_:Nat}{E:Option Addr}{Z:Nat}{O:Option Addr}{al:Nat}{U:Option Addr}{an:Nat}(s8:SR F (sL a8 x.at_.kids.length k8) x.at_.kids)(a1:SR F (sL A x.val.kids.length a_) x.val.kids)(a2:SR F (sL E x.args.length Z) x.args)(a3:SR F (sL O x.thn.length al) x.thn)(a4:SR F (sL U x.els.length an) x.els)(h0:in64 x.kind:=by first|omega|(dsimp only;omega)|assumption)(h3:in64 x.n:=by first|omega|(dsimp only;omega)|assumption)(h4:in64 x.at_.kind:=by first|omega|(dsimp only;omega)|assumption)(h5:in64 x.at_.n:=by first|omega|(dsimp only;omega)|assumption)(h7:in64 x.at_.op:=by first|omega|(dsimp only;omega)|assumption)(h9:in64 x.val.kind:=by first|omega|(dsimp only;omega)|assumption)(aA:in64 x.val.n:=by first|omega|(dsimp only;omega)|assumption)(a0:in64 x.val.op:=by first|omega|(dsimp only;omega)|assumption):Rp.rep F [(iI x.kind),(tX x.name.b),(tX x.to.b),(iI x.n),(iI x.at_.kind),(iI x.at_.n),(tX x.at_.name.b),(iI x.at_.op),(sL a8 x.at_.kids.length k8),(iI x.val.kind),(iI x.val.n),(tX x.val.name.b),(iI x.val.op),(sL A x.val.kids.length a_),(sL E x.args.length Z),(sL O x.thn.length al),(sL U x.els.length an)] x:=StmT.mkr ⟨a8,k8,A,a_,E,Z,O,al,U,an,V,h0,h3,h4,h5,h7,h9,aA,a0,s8,a1,a2,a3,a4⟩
abbrev rZ(b:Nat)(r:RdrT)(a:Option Addr)(k:Nat):Fp:=fP b [sL a r.l.length k,iI r.at_,iI r.fin,.bool r.bad]
abbrev tQ(ts:List Token):Prop:= ∀i,(ts.getD i default).text.b.length<=1000000
end Go.Proofs.YtkpgbdkkgcdhmaaGreat.pt
