/-
What the parsers compute, in plain terms. No condition.
-/
import Derived.Test.YtapgbjedgcpffaaZLL1
import Derived.Test.YtapgbjedgcpffaaZLW3
noncomputable section
namespace Go.Proofs.Ytapgbjedgcpffaa.pt
open Go.R
set_option maxRecDepth 10000
set_option linter.unusedVariables false
set_option linter.unusedSimpArgs false
open w1 w3 l1
structure ExpT where
 kind:Int
 n:Int
 name:Str
 op:Int
 kids:(List ExpT)
 deriving Inhabited
abbrev ExpT.body(F:Fz)(S:Value->List ExpT->Prop)(cs:List Value)(x:ExpT):Prop:= ∃a4 k4,cs=[.int .i64 x.kind,.int .i64 x.n,.string ⟨⟨x.name.b⟩⟩,.int .i64 x.op,.slice a4 x.kids.length k4]/\in64 x.kind/\in64 x.n/\in64 x.op/\S (.slice a4 x.kids.length k4) x.kids
def ExpT.lv:Nat->Lv ExpT 5
 |0=>⟨fun _ _ _=>False,fun h=>h.elim,fun h=>h.elim,fun _ h=>h.elim⟩
 |d+1=>⟨fun F cs x=>ExpT.body F (@SR ExpT (ExpT.lv d).rp F) cs x,by rintro F cs x ⟨a4,k4,rfl,_⟩;rfl,by rintro F cs x ⟨a4,k4,rfl,_⟩;rfl,by
   rintro F F' cs x hF ⟨a4,k4,rfl,h0,h1,h2,h3⟩;exact⟨a4,k4,rfl,h0,h1,h2, @SR.mono ExpT (ExpT.lv d).rp F F' hF _ _ h3⟩⟩
theorem ExpT.up{F:Fz}: ∀d cs x,(ExpT.lv d).r F cs x->(ExpT.lv (d+1)).r F cs x
 |0,_,_,h=>h.elim
 |d+1,cs,x,⟨E,Z,e,O,T,U,Y⟩=>⟨E,Z,e,O,T,U,SR.imp (i:=(ExpT.lv d).rp) (j:=(ExpT.lv (d+1)).rp) rfl (fun cs x=>ExpT.up d cs x) Y⟩
instance :Rp ExpT:=rpOf ExpT.lv
theorem ExpT.out{F:Fz}{cs:List Value}{x:ExpT}(h:Rp.rep F cs x):ExpT.body F (SR F) cs x:=by
 obtain⟨d,h⟩:=h;cases d with
 |zero=>exact h.elim
 |succ d=>
  obtain⟨E,Z,e,O,T,U,Y⟩:=h
  exact⟨E,Z,e,O,T,U,SR.imp (i:=(ExpT.lv d).rp) (j:=rpOf ExpT.lv) rfl (fun cs x h=>⟨d,h⟩) Y⟩
theorem ExpT.mkr{F:Fz}{cs:List Value}{x:ExpT}(h:ExpT.body F (SR F) cs x):Rp.rep F cs x:=by obtain⟨E,Z,e,O,T,U,Y⟩:=h;obtain⟨d0,u0⟩:=SR.unif ExpT.up Y;exact⟨d0+1,E,Z,e,O,T,U,u0 d0 (by omega)⟩
theorem ExpT.vw{F:Fz}{get:Nat->Option AObj}{v:Value}{cf:Nat->List Value}{j:Nat}{l:List ExpT}(h:VW F get v l cf j)(Y:j<l.length:=by first|(dsimp only;omega)|omega):HC get (sB v) (sO v+j *Rp.sz ExpT) [.int .i64 (l.getD j default).kind,.int .i64 (l.getD j default).n,.string ⟨⟨(l.getD j default).name.b⟩⟩,.int .i64 (l.getD j default).op,sL (cA (cf j) 4) (l.getD j default).kids.length (cK (cf j) 4)]:=by obtain⟨E,O⟩:=h.1 default Y;obtain⟨T,U,E,_⟩:=ExpT.out E;rw[show cf j=_ from E]at O⊢;exact O
theorem ExpT.fx{F:Fz}{get:Nat->Option AObj}{v:Value}{cf:Nat->List Value}{j:Nat}{l:List ExpT}(h:VW F get v l cf j):in64 (l.getD j default).kind/\in64 (l.getD j default).n/\in64 (l.getD j default).op/\SR F (sL (cA (cf j) 4) (l.getD j default).kids.length (cK (cf j) 4)) (l.getD j default).kids:=by
 rcases a0k j l.length with hj|hj
 ·obtain⟨E,_⟩:=h.1 default hj;obtain⟨Z,k4,O,T,E,U,Y⟩:=ExpT.out E;rw[show cf j=_ from O];exact⟨T,E,U,Y⟩
 rw[dz hj,h.2 hj];exact⟨by decide,by decide,by decide,SR.nil⟩
structure StmT where
 kind:Int
 name:Str
 to:Str
 n:Int
 at_:ExpT
 val:ExpT
 args:(List ExpT)
 thn:(List StmT)
 els:(List StmT)
 deriving Inhabited
abbrev StmT.body(F:Fz)(S:Value->List StmT->Prop)(cs:List Value)(x:StmT):Prop:= ∃a8 k8 a13 k13 a14 k14 a15 k15 a16 k16,cs=[.int .i64 x.kind,.string ⟨⟨x.name.b⟩⟩,.string ⟨⟨x.to.b⟩⟩,.int .i64 x.n,.int .i64 x.at_.kind,.int .i64 x.at_.n,.string ⟨⟨x.at_.name.b⟩⟩,.int .i64 x.at_.op,.slice a8 x.at_.kids.length k8,.int .i64 x.val.kind,.int .i64 x.val.n,.string ⟨⟨x.val.name.b⟩⟩,.int .i64 x.val.op,.slice a13 x.val.kids.length k13,.slice a14 x.args.length k14,.slice a15 x.thn.length k15,.slice a16 x.els.length k16]/\in64 x.kind/\in64 x.n/\in64 x.at_.kind/\in64 x.at_.n/\in64 x.at_.op/\in64 x.val.kind/\in64 x.val.n/\in64 x.val.op/\SR F (.slice a8 x.at_.kids.length k8) x.at_.kids/\SR F (.slice a13 x.val.kids.length k13) x.val.kids/\SR F (.slice a14 x.args.length k14) x.args/\S (.slice a15 x.thn.length k15) x.thn/\S (.slice a16 x.els.length k16) x.els
def StmT.lv:Nat->Lv StmT 17
 |0=>⟨fun _ _ _=>False,fun h=>h.elim,fun h=>h.elim,fun _ h=>h.elim⟩
 |d+1=>⟨fun F cs x=>StmT.body F (@SR StmT (StmT.lv d).rp F) cs x,by rintro F cs x ⟨a8,k8,a13,k13,a14,k14,a15,k15,a16,k16,rfl,_⟩;rfl,by rintro F cs x ⟨a8,k8,a13,k13,a14,k14,a15,k15,a16,k16,rfl,_⟩;rfl,by
   rintro F F' cs x hF ⟨a8,k8,a13,k13,a14,k14,a15,k15,a16,k16,rfl,h0,h1,h2,h3,h4,h5,h6,h7,h8,h9,h10,h11,h12⟩;exact⟨a8,k8,a13,k13,a14,k14,a15,k15,a16,k16,rfl,h0,h1,h2,h3,h4,h5,h6,h7,h8.mono hF,h9.mono hF,h10.mono hF, @SR.mono StmT (StmT.lv d).rp F F' hF _ _ h11, @SR.mono StmT (StmT.lv d).rp F F' hF _ _ h12⟩⟩
theorem StmT.up{F:Fz}: ∀d cs x,(StmT.lv d).r F cs x->(StmT.lv (d+1)).r F cs x
 |0,_,_,h=>h.elim
 |d+1,cs,x,⟨a8,k8,E,an,O,ax,T,a0,U,a1,e,h0,h1,h2,h3,h4,h5,h6,h7,h8,h9,Y,Z,al⟩=>⟨a8,k8,E,an,O,ax,T,a0,U,a1,e,h0,h1,h2,h3,h4,h5,h6,h7,h8,h9,Y,SR.imp (i:=(StmT.lv d).rp) (j:=(StmT.lv (d+1)).rp) rfl (fun cs x=>StmT.up d cs x) Z,SR.imp (i:=(StmT.lv d).rp) (j:=(StmT.lv (d+1)).rp) rfl (fun cs x=>StmT.up d cs x) al⟩
instance :Rp StmT:=rpOf StmT.lv
theorem StmT.out{F:Fz}{cs:List Value}{x:StmT}(h:Rp.rep F cs x):StmT.body F (SR F) cs x:=by
 obtain⟨d,h⟩:=h;cases d with
 |zero=>exact h.elim
 |succ d=>
  obtain⟨a8,k8,E,an,O,ax,T,a0,U,a1,e,h0,h1,h2,h3,h4,h5,h6,h7,h8,h9,Y,Z,al⟩:=h
  exact⟨a8,k8,E,an,O,ax,T,a0,U,a1,e,h0,h1,h2,h3,h4,h5,h6,h7,h8,h9,Y,SR.imp (i:=(StmT.lv d).rp) (j:=rpOf StmT.lv) rfl (fun cs x h=>⟨d,h⟩) Z,SR.imp (i:=(StmT.lv d).rp) (j:=rpOf StmT.lv) rfl (fun cs x h=>⟨d,h⟩) al⟩
theorem StmT.mkr{F:Fz}{cs:List Value}{x:StmT}(h:StmT.body F (SR F) cs x):Rp.rep F cs x:=by obtain⟨a8,k8,O,ax,T,a0,U,a1,Y,a2,e,h0,h1,h2,h3,h4,h5,h6,h7,h8,h9,Z,al,an⟩:=h;obtain⟨d0,u0⟩:=SR.unif StmT.up al;obtain⟨E,u1⟩:=SR.unif StmT.up an;exact⟨(max d0 E)+1,a8,k8,O,ax,T,a0,U,a1,Y,a2,e,h0,h1,h2,h3,h4,h5,h6,h7,h8,h9,Z,u0 (max d0 E) (by omega),u1 (max d0 E) (by omega)⟩
theorem StmT.vw{F:Fz}{get:Nat->Option AObj}{v:Value}{cf:Nat->List Value}{j:Nat}{l:List StmT}(h:VW F get v l cf j)(hj:j<l.length:=by first|(dsimp only;omega)|omega):HC get (sB v) (sO v+j *Rp.sz StmT) [.int .i64 (l.getD j default).kind,.string ⟨⟨(l.getD j default).name.b⟩⟩,.string ⟨⟨(l.getD j default).to.b⟩⟩,.int .i64 (l.getD j default).n,.int .i64 (l.getD j default).at_.kind,.int .i64 (l.getD j default).at_.n,.string ⟨⟨(l.getD j default).at_.name.b⟩⟩,.int .i64 (l.getD j default).at_.op,sL (cA (cf j) 8) (l.getD j default).at_.kids.length (cK (cf j) 8),.int .i64 (l.getD j default).val.kind,.int .i64 (l.getD j default).val.n,.string ⟨⟨(l.getD j default).val.name.b⟩⟩,.int .i64 (l.getD j default).val.op,sL (cA (cf j) 13) (l.getD j default).val.kids.length (cK (cf j) 13),sL (cA (cf j) 14) (l.getD j default).args.length (cK (cf j) 14),sL (cA (cf j) 15) (l.getD j default).thn.length (cK (cf j) 15),sL (cA (cf j) 16) (l.getD j default).els.length (cK (cf j) 16)]:=by obtain⟨E,O⟩:=h.1 default hj;obtain⟨a8,k8,T,al,U,an,Y,ax,Z,a0,E,_⟩:=StmT.out E;rw[show cf j=_ from E]at O⊢;exact O
theorem StmT.fx{F:Fz}{get:Nat->Option AObj}{v:Value}{cf:Nat->List Value}{j:Nat}{l:List StmT}(h:VW F get v l cf j):in64 (l.getD j default).kind/\in64 (l.getD j default).n/\in64 (l.getD j default).at_.kind/\in64 (l.getD j default).at_.n/\in64 (l.getD j default).at_.op/\in64 (l.getD j default).val.kind/\in64 (l.getD j default).val.n/\in64 (l.getD j default).val.op/\SR F (sL (cA (cf j) 8) (l.getD j default).at_.kids.length (cK (cf j) 8)) (l.getD j default).at_.kids/\SR F (sL (cA (cf j) 13) (l.getD j default).val.kids.length (cK (cf j) 13)) (l.getD j default).val.kids/\SR F (sL (cA (cf j) 14) (l.getD j default).args.length (cK (cf j) 14)) (l.getD j default).args/\SR F (sL (cA (cf j) 15) (l.getD j default).thn.length (cK (cf j) 15)) (l.getD j default).thn/\SR F (sL (cA (cf j) 16) (l.getD j default).els.length (cK (cf j) 16)) (l.getD j default).els:=by
 rcases a0k j l.length with hj|hj
 ·obtain⟨E,_⟩:=h.1 default hj;obtain⟨a8,k8,a5,bb,a6,b0,a7,b1,a9,b2,Y,Z,E,h2,h3,h4,h5,h6,h7,h8,h9,O,T,U⟩:=StmT.out E;rw[show cf j=_ from Y];exact⟨Z,E,h2,h3,h4,h5,h6,h7,h8,h9,O,T,U⟩
 rw[dz hj,h.2 hj];exact⟨by decide,by decide,by decide,by decide,by decide,by decide,by decide,by decide,SR.nil,SR.nil,SR.nil,SR.nil,SR.nil⟩
structure FunT where
 name:Str
 pars:(List Str)
 locs:(List Str)
 body:(List StmT)
 val:ExpT
 deriving Inhabited
instance :Rp FunT where
 sz:=9
 rep F cs x:= ∃a1 k1 a2 k2 a3 k3 a8 k8,cs=[.string ⟨⟨x.name.b⟩⟩,.slice a1 x.pars.length k1,.slice a2 x.locs.length k2,.slice a3 x.body.length k3,.int .i64 x.val.kind,.int .i64 x.val.n,.string ⟨⟨x.val.name.b⟩⟩,.int .i64 x.val.op,.slice a8 x.val.kids.length k8]/\in64 x.val.kind/\in64 x.val.n/\in64 x.val.op/\SR F (.slice a1 x.pars.length k1) x.pars/\SR F (.slice a2 x.locs.length k2) x.locs/\SR F (.slice a3 x.body.length k3) x.body/\SR F (.slice a8 x.val.kids.length k8) x.val.kids
 len:=by rintro F cs x ⟨a1,k1,a2,k2,a3,k3,a8,k8,rfl,_⟩;rfl
 one:=by rintro F cs x ⟨a1,k1,a2,k2,a3,k3,a8,k8,rfl,_⟩;rfl
 mono:=by rintro F F' cs x hF ⟨a1,k1,a2,k2,a3,k3,a8,k8,rfl,h0,h1,h2,h3,h4,h5,h6⟩;exact⟨a1,k1,a2,k2,a3,k3,a8,k8,rfl,h0,h1,h2,h3.mono hF,h4.mono hF,h5.mono hF,h6.mono hF⟩
theorem FunT.vw{F:Fz}{get:Nat->Option AObj}{v:Value}{cf:Nat->List Value}{j:Nat}{l:List FunT}(h:VW F get v l cf j)(hj:j<l.length:=by first|(dsimp only;omega)|omega):HC get (sB v) (sO v+j *Rp.sz FunT) [.string ⟨⟨(l.getD j default).name.b⟩⟩,sL (cA (cf j) 1) (l.getD j default).pars.length (cK (cf j) 1),sL (cA (cf j) 2) (l.getD j default).locs.length (cK (cf j) 2),sL (cA (cf j) 3) (l.getD j default).body.length (cK (cf j) 3),.int .i64 (l.getD j default).val.kind,.int .i64 (l.getD j default).val.n,.string ⟨⟨(l.getD j default).val.name.b⟩⟩,.int .i64 (l.getD j default).val.op,sL (cA (cf j) 8) (l.getD j default).val.kids.length (cK (cf j) 8)]:=by obtain⟨⟨T,k1,U,k2,Y,k3,Z,k8,O,_⟩,E⟩:=h.1 default hj;rw[show cf j=_ from O]at E⊢;exact E
theorem FunT.fx{F:Fz}{get:Nat->Option AObj}{v:Value}{cf:Nat->List Value}{j:Nat}{l:List FunT}(h:VW F get v l cf j):in64 (l.getD j default).val.kind/\in64 (l.getD j default).val.n/\in64 (l.getD j default).val.op/\SR F (sL (cA (cf j) 1) (l.getD j default).pars.length (cK (cf j) 1)) (l.getD j default).pars/\SR F (sL (cA (cf j) 2) (l.getD j default).locs.length (cK (cf j) 2)) (l.getD j default).locs/\SR F (sL (cA (cf j) 3) (l.getD j default).body.length (cK (cf j) 3)) (l.getD j default).body/\SR F (sL (cA (cf j) 8) (l.getD j default).val.kids.length (cK (cf j) 8)) (l.getD j default).val.kids:=by
 rcases a0k j l.length with hj|hj
 ·obtain⟨⟨a1,k1,a2,k2,a3,k3,a8,k8,E,O,T,U,Y,Z,h5,h6⟩,_⟩:=h.1 default hj;rw[show cf j=_ from E];exact⟨O,T,U,Y,Z,h5,h6⟩
 rw[dz hj,h.2 hj];exact⟨by decide,by decide,by decide,SR.nil,SR.nil,SR.nil,SR.nil⟩
structure ArrT where
 name:Str
 len:Int
 deriving Inhabited
instance :Rp ArrT where
 sz:=2
 rep F cs x:=cs=[.string ⟨⟨x.name.b⟩⟩,.int .i64 x.len]/\in64 x.len
 len:=by rintro F cs x ⟨rfl,_⟩;rfl
 one:=by rintro F cs x ⟨rfl,_⟩;rfl
 mono:=by intro F F' cs x _ h;exact h
theorem ArrT.vw{F:Fz}{get:Nat->Option AObj}{v:Value}{cf:Nat->List Value}{j:Nat}{l:List ArrT}(h:VW F get v l cf j)(T:j<l.length:=by first|(dsimp only;omega)|omega):HC get (sB v) (sO v+j *Rp.sz ArrT) [.string ⟨⟨(l.getD j default).name.b⟩⟩,.int .i64 (l.getD j default).len]:=by obtain⟨⟨O,_⟩,E⟩:=h.1 default T;rw[show cf j=_ from O]at E;exact E
theorem ArrT.fx{F:Fz}{get:Nat->Option AObj}{v:Value}{cf:Nat->List Value}{j:Nat}{l:List ArrT}(h:VW F get v l cf j):in64 (l.getD j default).len:=by
 rcases a0k j l.length with hj|hj
 ·obtain⟨⟨O,E⟩,_⟩:=h.1 default hj;exact E
 rw[dz hj];decide
structure PrgT where
 arrs:(List ArrT)
 funs:(List FunT)
 deriving Inhabited
instance :Rp PrgT where
 sz:=2
 rep F cs x:= ∃a0 k0 a1 k1,cs=[.slice a0 x.arrs.length k0,.slice a1 x.funs.length k1]/\SR F (.slice a0 x.arrs.length k0) x.arrs/\SR F (.slice a1 x.funs.length k1) x.funs
 len:=by rintro F cs x ⟨a0,k0,a1,k1,rfl,_⟩;rfl
 one:=by rintro F cs x ⟨a0,k0,a1,k1,rfl,_⟩;rfl
 mono:=by rintro F F' cs x hF ⟨a0,k0,a1,k1,rfl,h0,h1⟩;exact⟨a0,k0,a1,k1,rfl,h0.mono hF,h1.mono hF⟩
structure RdrT where
 l:(List Token)
 at_:Int
 fin:Int
 bad:Bool
 deriving Inhabited
instance :Rp RdrT where
 sz:=4
 rep F cs x:= ∃a0 k0,cs=[.slice a0 x.l.length k0,.int .i64 x.at_,.int .i64 x.fin,.bool x.bad]/\in64 x.at_/\in64 x.fin/\SR F (.slice a0 x.l.length k0) x.l
 len:=by rintro F cs x ⟨a0,k0,rfl,_⟩;rfl
 one:=by rintro F cs x ⟨a0,k0,rfl,_⟩;rfl
 mono:=by rintro F F' cs x hF ⟨a0,k0,rfl,h0,h1,h2⟩;exact⟨a0,k0,rfl,h0,h1,h2.mono hF⟩
structure PrsT where
 l:(List Token)
 i:Int
 fin:Int
 e:ErrT
 deriving Inhabited
instance :Rp PrsT where
 sz:=5
 rep F cs x:= ∃a0 k0,cs=[.slice a0 x.l.length k0,.int .i64 x.i,.int .i64 x.fin,.int .i64 x.e.why,.int .i64 x.e.at_]/\in64 x.i/\in64 x.fin/\in64 x.e.why/\in64 x.e.at_/\SR F (.slice a0 x.l.length k0) x.l
 len:=by rintro F cs x ⟨a0,k0,rfl,_⟩;rfl
 one:=by rintro F cs x ⟨a0,k0,rfl,_⟩;rfl
 mono:=by rintro F F' cs x hF ⟨a0,k0,rfl,h0,h1,h2,h3,h4⟩;exact⟨a0,k0,rfl,h0,h1,h2,h3,h4.mono hF⟩
abbrev Rs(α:Type):=Except Nat (α×Nat)
def bnd{α β:Type}(m:Rs α)(f:α->Nat->Rs β):Rs β:=match m with
 | .error p=> .error p
 | .ok (x,i)=>f x i
def isS(h:List Token)(i:Nat)(w:List UInt8):Bool:=decide ((h.getD i default).kind=3)&&decide ((h.getD i default).text.b=w)
def isK(h:List Token)(i:Nat)(w:List UInt8):Bool:=decide ((h.getD i default).kind=1)&&decide ((h.getD i default).text.b=w)
def jX:List (List UInt8):=[[97,114,114,97,121],[102,117,110,99],[118,97,114],[114,101,116,117,114,110],[105,102],[101,108,115,101],[119,104,105,108,101],[111,117,116],[116,114,97,112]]
def gv(w:List UInt8):Bool:=decide (w∈jX)
def isN(h:List Token)(i:Nat):Bool:=decide ((h.getD i default).kind=1)&& !gv (h.getD i default).text.b
def isM(h:List Token)(i:Nat):Bool:=decide ((h.getD i default).kind=2)
def expM(h:List Token)(w:List UInt8)(i:Nat):Rs Unit:=if isS h i w then .ok ((),i+1) else .error i
def keyM(h:List Token)(w:List UInt8)(i:Nat):Rs Unit:=if isK h i w then .ok ((),i+1) else .error i
def nameM(h:List Token)(i:Nat):Rs Str:=if isN h i then .ok ((h.getD i default).text,i+1) else .error i
def numV(h:List Token)(i:Nat):Option Int:=parseS (h.getD i default).text.b
def smallM(h:List Token)(i:Nat):Rs Int:=if isM h i&&(numV h i).isSome&&decide ((numV h i).getD 0<=1000000) then .ok ((numV h i).getD 0,i+1) else .error i
def opL:List (List UInt8×Int×Int×Bool):=[([124],10,0,false),([94],11,1,false),([38],9,2,false),([61,61],15,3,false),([33,61],16,3,false),([60],17,4,false),([60,61],18,4,false),([62],17,4,true),([62,61],18,4,true),([60,60],12,5,false),([62,62],14,5,false),([62,62,62],13,5,false),([43],4,6,false),([45],5,6,false),([42],6,7,false),([47],7,7,false),([37],8,7,false)]
def opT(s:List UInt8):Int×Int×Bool:=((opL.find? fun q=>decide (s=q.1)).map (·.2)).getD (0,0,false)
def opK(h:List Token)(k:Nat)(i:Nat):Int:=if decide ((h.getD i default).kind=3)&&decide ((opT (h.getD i default).text.b).2.1=(k:Int)) then(opT (h.getD i default).text.b).1 else 0
def mkE(E n:Int)(O:Str)(op:Int)(h:List ExpT):ExpT:=⟨E,n,O,op,h⟩
def dK:Str:=⟨[]⟩
def mkB(h:List Token)(i:Nat)(a b:ExpT):ExpT:=mkE 4 0 dK (opT (h.getD i default).text.b).1 (if(opT (h.getD i default).text.b).2.2 then [b,a] else [a,b])
def numE(n:Int):ExpT:=mkE 1 n dK 0 []
mutual
def iX(h:List Token):Nat->Nat->Rs ExpT
 |0,i=> .error i
 |n+1,i=>bnd (binM h n 0 i) fun c i=>if isS h i [63] then bnd (iX h n (i+1)) fun a i=>bnd (expM h [58] i) fun _ i=>bnd (iX h n i) fun b i=> .ok (mkE 5 0 dK 0 [c,a,b],i) else .ok (c,i)
def binM(h:List Token):Nat->Nat->Nat->Rs ExpT
 |0,_,i=> .error i
 |n+1,k,i=>if k=8 then unaM h n i else bnd (binM h n (k+1) i) fun a i=>loopM h n k a i
def loopM(h:List Token):Nat->Nat->ExpT->Nat->Rs ExpT
 |0,_,_,i=> .error i
 |n+1,k,a,i=>if opK h k i=0 then .ok (a,i) else bnd (binM h n (k+1) (i+1)) fun b j=>loopM h n k (mkB h i a b) j
def unaM(h:List Token):Nat->Nat->Rs ExpT
 |0,i=> .error i
 |n+1,i=>
  if isS h i [45] then(if isM h (i+1) then .ok (numE ((parseS (45::(h.getD (i+1) default).text.b)).getD 0),i+2) else bnd (unaM h n (i+1)) fun x i=> .ok (mkE 4 0 dK 20 [x],i))
  else if isS h i [126] then bnd (unaM h n (i+1)) fun x i=> .ok (mkE 4 0 dK 21 [x],i)
  else if isS h i [33] then bnd (unaM h n (i+1)) fun x i=> .ok (mkE 4 0 dK 15 [x,numE 0],i)
  else if isS h i [40] then bnd (iX h n (i+1)) fun x i=>bnd (expM h [41] i) fun _ i=> .ok (x,i)
  else priM h n i
def priM(h:List Token):Nat->Nat->Rs ExpT
 |0,i=> .error i
 |n+1,i=>
  if isM h i then(if(numV h i).isSome then .ok (numE ((numV h i).getD 0),i+1) else .error i)
  else bnd (nameM h i) fun s i=>if isS h i [91] then bnd (iX h n (i+1)) fun x i=>bnd (expM h [93] i) fun _ i=> .ok (mkE 3 0 s 0 [x],i) else .ok (mkE 2 0 s 0 [],i)
end
def Lim{α:Type}(f:Nat->Rs α)(r:Rs α):Prop:= ∃h,∀n,h<=n->f n=r
def Outc{α:Type}(f:Nat->Rs α)(x:α)(i:Int)(b:Bool):Prop:=(b=false/\∃j:Nat,i=(j:Int)/\Lim f (.ok (x,j)))\/(b=true/\∃p:Nat,i=(p:Int)/\Lim f (.error p))
def mkS(h:Int)(E to:Str)(n:Int)(O val:ExpT)(args:List ExpT)(U T:List StmT):StmT:=⟨h,E,to,n,O,val,args,U,T⟩
def zE:ExpT:=mkE 0 0 dK 0 []
def argL(h:List Token):Nat->List ExpT->Nat->Rs (List ExpT)
 |0,_,i=> .error i
 |n+1,l,i=>if isS h i [44] then bnd (iX h n (i+1)) fun b i=>argL h n (l++[b]) i else bnd (expM h [41] i) fun _ i=> .ok (l,i)
def argM(h:List Token)(n:Nat)(i:Nat):Rs (List ExpT):=bnd (expM h [40] i) fun _ i=>if isS h i [41] then .ok ([],i+1) else bnd (iX h n i) fun a i=>argL h n [a] i
def condM(h:List Token)(n:Nat)(i:Nat):Rs ExpT:=bnd (expM h [40] i) fun _ i=>bnd (iX h n i) fun x i=>bnd (expM h [41] i) fun _ i=> .ok (x,i)
def simM(h:List Token)(n:Nat)(i:Nat):Rs StmT:=
 if isK h i [111,117,116] then bnd (iX h n (i+1)) fun x i=> .ok (mkS 5 dK dK 0 zE x [] [] [],i)
 else if isK h i [116,114,97,112] then bnd (smallM h (i+1)) fun k i=> .ok (mkS 7 dK dK k zE zE [] [] [],i)
 else bnd (nameM h i) fun s i=>if isS h i [91] then bnd (iX h n (i+1)) fun a i=>bnd (expM h [93] i) fun _ i=>bnd (expM h [61] i) fun _ i=>bnd (iX h n i) fun v i=> .ok (mkS 2 s dK 0 a v [] [] [],i)
  else bnd (expM h [61] i) fun _ i=>if isN h i&&isS h (i+1) [40] then bnd (nameM h i) fun f i=>bnd (argM h n i) fun l i=> .ok (mkS 6 s f 0 zE zE l [] [],i)
   else bnd (iX h n i) fun v i=> .ok (mkS 1 s dK 0 zE v [] [] [],i)
mutual
def stmM(h:List Token):Nat->Nat->Rs StmT
 |0,i=> .error i
 |n+1,i=>
  if isK h i [105,102] then bnd (condM h n (i+1)) fun v i=>bnd (blkM h n i) fun t i=>if isK h i [101,108,115,101] then bnd (blkM h n (i+1)) fun e i=> .ok (mkS 3 dK dK 0 zE v [] t e,i) else .ok (mkS 3 dK dK 0 zE v [] t [],i)
  else if isK h i [119,104,105,108,101] then bnd (condM h n (i+1)) fun v i=>bnd (blkM h n i) fun t i=> .ok (mkS 4 dK dK 0 zE v [] t [],i)
  else bnd (simM h n i) fun s i=>bnd (expM h [59] i) fun _ i=> .ok (s,i)
def blkM(h:List Token):Nat->Nat->Rs (List StmT)
 |0,i=> .error i
 |n+1,i=>bnd (expM h [123] i) fun _ i=>stsM h n [] i
def stsM(h:List Token):Nat->List StmT->Nat->Rs (List StmT)
 |0,_,i=> .error i
 |n+1,l,i=>if isS h i [125] then .ok (l,i+1) else bnd (stmM h n i) fun s i=>stsM h n (l++[s]) i
end
def namL(h:List Token):Nat->List Str->Nat->Rs (List Str)
 |0,_,i=> .error i
 |n+1,l,i=>if isS h i [44] then bnd (nameM h (i+1)) fun b i=>namL h n (l++[b]) i else .ok (l,i)
def namM(h:List Token)(n:Nat)(i:Nat):Rs (List Str):=bnd (nameM h i) fun a i=>namL h n [a] i
def bodL(h:List Token):Nat->List StmT->Nat->Rs (List StmT)
 |0,_,i=> .error i
 |n+1,l,i=>if isK h i [114,101,116,117,114,110] then .ok (l,i+1) else bnd (stmM h n i) fun s i=>bodL h n (l++[s]) i
def mkF(h:Str)(p l:List Str)(b:List StmT)(v:ExpT):FunT:=⟨h,p,l,b,v⟩
def funM(h:List Token)(n:Nat)(i:Nat):Rs FunT:=
 bnd (nameM h i) fun s i=>bnd (expM h [40] i) fun _ i=>bnd (if isS h i [41] then .ok (([]:List Str),i) else namM h n i) fun p i=>bnd (expM h [41] i) fun _ i=>
 bnd (if isK h i [118,97,114] then namM h n (i+1) else .ok (([]:List Str),i)) fun l i=>bnd (expM h [123] i) fun _ i=>bnd (bodL h n [] i) fun b i=>bnd (iX h n i) fun v i=>bnd (expM h [59] i) fun _ i=>bnd (expM h [125] i) fun _ i=> .ok (mkF s p l b v,i)
def prgL(h:List Token):Nat->List ArrT->List FunT->Nat->Rs (List ArrT×List FunT)
 |0,_,_,i=> .error i
 |n+1,a,f,i=>if h.length<=i then .ok ((a,f),i) else
  if isK h i [97,114,114,97,121] then bnd (nameM h (i+1)) fun s i=>bnd (smallM h i) fun k i=>bnd (expM h [59] i) fun _ i=>prgL h n (a++[⟨s,k⟩]) f i
  else bnd (keyM h [102,117,110,99] i) fun _ i=>bnd (funM h n i) fun g i=>prgL h n a (f++[g]) i
def Fw{α:Type}(f g:Nat->Rs α):Prop:= ∀r,Lim f r->Lim g r
def Oc{α:Type}(f:Nat->Rs α)(b:Bool)(i:Int)(x:α)(E:Int)(h:Bool):Prop:=(b=true->h=true/\E=i)/\(b=false->Outc f x E h)
end Go.Proofs.Ytapgbjedgcpffaa.pt
