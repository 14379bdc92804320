/-
Soundness of an allocation. No condition but bounds on lengths.
-/
import Derived.Test.YtknafdcgpaejlaaDoorZMNI
noncomputable section
namespace Go.Proofs.YtknafdcgpaejlaaDoor.nv
open Go.R
set_option maxRecDepth 10000
set_option linter.unusedVariables false
set_option linter.unusedSimpArgs false
structure LocT where
 inS:Bool
 idx:Int
 deriving Inhabited,DecidableEq
instance :Rp LocT where
 sz:=2
 rep F cs x:=cs=[.bool x.inS,.int .i64 x.idx]/\in64 x.idx
 len:=by rintro F cs x ⟨rfl,_⟩;rfl
 one:=by rintro F cs x ⟨rfl,_⟩;rfl
 mono:=by intro F F' cs x _ h;exact h
theorem LocT.vw{F:Fz}{get:Nat->Option AObj}{v:Value}{cf:Nat->List Value}{j:Nat}{l:List LocT}(h:VW F get v l cf j)(N:j<l.length:=by first|(dsimp only;omega)|omega):HC get (sB v) (sO v+j*Rp.sz LocT) [.bool (l.getD j default).inS,.int .i64 (l.getD j default).idx]:=by obtain⟨⟨E,_⟩,A⟩:=h.1 default N;rw[show cf j=_ from E]at A;exact A
theorem LocT.fx{F:Fz}{get:Nat->Option AObj}{v:Value}{cf:Nat->List Value}{j:Nat}{l:List LocT}(h:VW F get v l cf j):in64 (l.getD j default).idx:=by
 rcases a0i j l.length with hj|hj
 ·obtain⟨⟨A,h0⟩,_⟩:=h.1 default hj;exact h0
 rw[cp hj];decide
structure SpiT where
 reg:Int
 why:Int
 blk:Int
 idx:Int
 oth:(List Int)
 deriving Inhabited,DecidableEq
instance :Rp SpiT where
 sz:=5
 rep F cs x:= ∃a4 k4,cs=[.int .i64 x.reg,.int .i64 x.why,.int .i64 x.blk,.int .i64 x.idx,.slice a4 x.oth.length k4]/\in64 x.reg/\in64 x.why/\in64 x.blk/\in64 x.idx/\SR F (.slice a4 x.oth.length k4) x.oth
 len:=by rintro F cs x ⟨a4,k4,rfl,_⟩;rfl
 one:=by rintro F cs x ⟨a4,k4,rfl,_⟩;rfl
 mono:=by rintro F F' cs x hF ⟨a4,k4,rfl,h0,h1,h2,h3,h4⟩;exact⟨a4,k4,rfl,h0,h1,h2,h3,h4.mono hF⟩
structure AllT where
 locs:(List LocT)
 spi:(List SpiT)
 slots:Int
 deriving Inhabited,DecidableEq
instance :Rp AllT where
 sz:=3
 rep F cs x:= ∃a0 k0 a1 k1,cs=[.slice a0 x.locs.length k0,.slice a1 x.spi.length k1,.int .i64 x.slots]/\in64 x.slots/\SR F (.slice a0 x.locs.length k0) x.locs/\SR F (.slice a1 x.spi.length k1) x.spi
 len:=by rintro F cs x ⟨a0,k0,a1,k1,rfl,_⟩;rfl
 one:=by rintro F cs x ⟨a0,k0,a1,k1,rfl,_⟩;rfl
 mono:=by rintro F F' cs x hF ⟨a0,k0,a1,k1,rfl,h0,h1,h2⟩;exact⟨a0,k0,a1,k1,rfl,h0,h1.mono hF,h2.mono hF⟩
open m1 m2 m3 m4 m5 m6 ma ml mb mc md mf mg mh mi mj na nb nc ni
theorem gS{c:VFnT}{l:List Int}{S:Nat->Prop}(h:Lst l S)(hs: ∀r,S r->(r:Int)<c.regs): ∀x∈l,0<=x/\x<c.regs:=fun x N=>by obtain⟨E,A⟩:=(h.mem x).1 N;have:=hs _ A;omega
theorem lst_some{l:List Int}{S:Nat->Prop}(h:Lst l S)(A:0<l.length): ∃r,S r:=by
 cases l with
 |nil=>exact absurd A (Nat.lt_irrefl _)
 |cons x l=>exact⟨_,((h.mem x).1 (a0y ..)).2⟩
theorem inte_lt{c:VFnT}(v:VF c){a x:Nat}(h:kT c a x):(a:Int)<c.regs/\(x:Int)<c.regs:=by obtain⟨b,i,A,E,N,T,_⟩:=h;exact⟨((bu (v.ins b A i E)).2.1 _ N).2,eZ v A T⟩
theorem sy_lt2{c:VFnT}(v:VF c){r y:Nat}(h:Sy (kT c) r y):(y:Int)<c.regs:=h.elim (fun h=>(inte_lt v h).2) fun h=>(inte_lt v h).1
theorem in_some{c:VFnT}{x:List (List Int)}(h:Lst (x.getD 0 default) (LIn c 0))(A:0<c.blocks.length)(E:0<(x.getD 0 default).length): ∃r,ptS c 0 0 r:=by obtain⟨r,N⟩:=lst_some h E;exact⟨r,(pt_in A _).2 N⟩
theorem in_none{c:VFnT}{x:List (List Int)}(h:Lst (x.getD 0 default) (LIn c 0))(E:0<c.blocks.length)(T: ¬0<(x.getD 0 default).length): ∀r,¬ptS c 0 0 r:=fun r N=>by have:=(pt_in E _).1 N;have A:=List.length_pos_of_mem ((h.mem (r:Int)).2 ⟨by omega,by rw[show((r:Nat):Int).toNat=r by omega];exact this⟩);omega
def okL(c:VFnT)(a:AllT)(x:LocT):Prop:=(x.inS=true->c.params<=x.idx/\x.idx<a.slots)/\(x.inS=false->0<=x.idx/\x.idx<5)
def locN(a:AllT)(r:Nat):LocT:=a.locs.getD r default
structure SndP(c:VFnT)(a:AllT):Prop where
 val:bY c=true
 len:(a.locs.length:Int)=c.regs
 lo:c.params<=a.slots
 hi:a.slots<=3000
 z: ∀r,¬ptS c 0 0 r
 loc: ∀q,q<a.locs.length->okL c a (locN a q)
 dis: ∀q y,q<a.locs.length->Sy (kT c) q y->locN a q≠locN a y
 acr: ∀r,acS c r->(locN a r).inS=true
theorem gg{P:Nat->Prop}{k:Nat}(h: ∀q,q<k->P q)(E:P k): ∀q,q<k+1->P q:=fun q N=>by
 rcases Nat.lt_or_eq_of_le (Nat.le_of_lt_succ N) with A|rfl
 ·exact h q A
 exact E
theorem lst_at{S:Nat->Prop}{l:List Int}{p:Nat}(A:Lst l S)(E:p<l.length):S (l.getD p 0).toNat:=((A.mem _).1 (eW E)).2
end Go.Proofs.YtknafdcgpaejlaaDoor.nv
