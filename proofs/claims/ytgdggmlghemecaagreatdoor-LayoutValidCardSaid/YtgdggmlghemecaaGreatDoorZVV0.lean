/-
Symbolic runs of the code that the law reaches, part 1. No condition but bounds on lengths.
-/
import Derived.Test.YtgdggmlghemecaaGreatDoorZVRD
import Derived.Test.YtgdggmlghemecaaGreatDoorChecked
noncomputable section
namespace Go.Proofs.YtgdggmlghemecaaGreatDoor
open Go.R
open Inhabited renaming default→v_
set_option maxRecDepth 10000
set_option maxHeartbeats 2000000
set_option linter.unusedVariables false
set_option linter.unusedSimpArgs false
namespace m1
variable (ex:FuncId) {F:Fz} {H:Heap} {R:List Fp}
theorem ql{H:Heap}{b o:Nat}{cs:List Value}{w:Value}(t:TypeId)(i:Nat)(hc:HC H.get b o cs)(E:eX Tryz.prog t=some false)(N:cs[i]?=some w):LDv Tryz.prog H t (.pointer (some ⟨b,o+i,none⟩)) w:=ld1 hc E N
theorem qn{H:Heap}{b o:Nat}{cs l:List Value}(t:TypeId)(i n:Nat)(hc:HC H.get b o cs)(E:eX Tryz.prog t=some true)(hs:cZ Tryz.prog t=some n)(T:Nat.ble (i+n) cs.length=true)(N:dU (dY cs i) n=l):LDv Tryz.prog H t (.pointer (some ⟨b,o+i,none⟩)) (.agg ⟨l⟩):=ldN hc E hs T N
structure InfT where
 name:Str
 f:Int
 ra:Bool
 wa:Bool
 rb:Bool
 mt:Bool
 w:Int
 deriving Inhabited
instance :Rp InfT where
 sz:=7
 rep F cs x:=cs=[tX x.name.b,iI x.f,.bool x.ra,.bool x.wa,.bool x.rb,.bool x.mt,iI x.w]/\in64 x.f/\in64 x.w
 len:=by rintro F cs x ⟨rfl,_⟩;rfl
 one:=by rintro F cs x ⟨rfl,_⟩;rfl
 mono:=by intro F F' cs x _ h;exact h
theorem InfT.vw{F:Fz}{get:Nat->Option AObj}{v:Value}{cf:Nat->List Value}{j:Nat}{l:List InfT}(h:VW F get v l cf j)(T:j<l.length:=by first|(dsimp only;omega)|omega):HC get (sB v) (sO v+j *Rp.sz InfT) [tX (l.getD j v_).name.b,iI (l.getD j v_).f,.bool (l.getD j v_).ra,.bool (l.getD j v_).wa,.bool (l.getD j v_).rb,.bool (l.getD j v_).mt,iI (l.getD j v_).w]:=by obtain⟨⟨N,_⟩,E⟩:=h.1 v_ T;rw[show cf j=_ from N]at E;exact E
theorem InfT.fx{F:Fz}{get:Nat->Option AObj}{v:Value}{cf:Nat->List Value}{j:Nat}{l:List InfT}(h:VW F get v l cf j):in64 (l.getD j v_).f/\in64 (l.getD j v_).w:=by
 rcases a0g j l.length with hj|hj
 ·obtain⟨⟨T,E,N⟩,_⟩:=h.1 v_ hj;exact⟨E,N⟩
 rw[cb hj];exact⟨by decide,by decide⟩
theorem jl{B:Base}{F:Fz}{L R:List Fp}{H:Heap}(hs:HS B F H L R){b:Nat}{cs:List Value}{w:Value}(t:TypeId)(i j:Nat)(E:eX Tryz.prog t=some false)(h:L[j]?=some [(b,.cells cs none false)])(N:cs[i]?=some w): ∀H,JJ B F L R H->LDv Tryz.prog H t (pT b i) w:=jl0 hs t i j E h N
theorem jn{B:Base}{F:Fz}{L R:List Fp}{H:Heap}(hs:HS B F H L R){b:Nat}{cs l:List Value}(t:TypeId)(i n j:Nat)(E:eX Tryz.prog t=some true)(U:cZ Tryz.prog t=some n)(h:L[j]?=some [(b,.cells cs none false)])(T:Nat.ble (i+n) cs.length=true)(N:dU (dY cs i) n=l): ∀H,JJ B F L R H->LDv Tryz.prog H t (pT b i) (.agg ⟨l⟩):=jn0 hs t i n j E U h T N
structure InsT where
 op:Int
 a:Int
 b:Int
 c:Int
 n:Int
 deriving Inhabited,DecidableEq
instance :Rp InsT where
 sz:=5
 rep F cs x:=cs=[iI x.op,iI x.a,iI x.b,iI x.c,iI x.n]/\in64 x.op/\in64 x.a/\in64 x.b/\in64 x.c/\in64 x.n
 len:=by rintro F cs x ⟨rfl,_⟩;rfl
 one:=by rintro F cs x ⟨rfl,_⟩;rfl
 mono:=by intro F F' cs x _ h;exact h
theorem InsT.vw{F:Fz}{get:Nat->Option AObj}{v:Value}{cf:Nat->List Value}{j:Nat}{l:List InsT}(h:VW F get v l cf j)(T:j<l.length:=by first|(dsimp only;omega)|omega):HC get (sB v) (sO v+j *Rp.sz InsT) [iI (l.getD j v_).op,iI (l.getD j v_).a,iI (l.getD j v_).b,iI (l.getD j v_).c,iI (l.getD j v_).n]:=by obtain⟨⟨N,_⟩,E⟩:=h.1 v_ T;rw[show cf j=_ from N]at E;exact E
theorem InsT.fx{F:Fz}{get:Nat->Option AObj}{v:Value}{cf:Nat->List Value}{j:Nat}{l:List InsT}(h:VW F get v l cf j):in64 (l.getD j v_).op/\in64 (l.getD j v_).a/\in64 (l.getD j v_).b/\in64 (l.getD j v_).c/\in64 (l.getD j v_).n:=by
 rcases a0g j l.length with hj|hj
 ·obtain⟨⟨Z,E,N,T,U,a_⟩,_⟩:=h.1 v_ hj;exact⟨E,N,T,U,a_⟩
 rw[cb hj];exact⟨by decide,by decide,by decide,by decide,by decide⟩
structure VInT where
 i:InsT
 args:(List Int)
 deriving Inhabited,DecidableEq
instance :Rp VInT where
 sz:=6
 rep F cs x:= ∃a5 k5,cs=[iI x.i.op,iI x.i.a,iI x.i.b,iI x.i.c,iI x.i.n,sL a5 x.args.length k5]/\in64 x.i.op/\in64 x.i.a/\in64 x.i.b/\in64 x.i.c/\in64 x.i.n/\SR F (sL a5 x.args.length k5) x.args
 len:=by rintro F cs x ⟨a5,k5,rfl,_⟩;rfl
 one:=by rintro F cs x ⟨a5,k5,rfl,_⟩;rfl
 mono:=by rintro F F' cs x hF ⟨a5,k5,rfl,h0,h1,h2,h3,h4,h5⟩;exact⟨a5,k5,V,h0,h1,h2,h3,h4,h5.mono hF⟩
theorem VInT.vw{F:Fz}{get:Nat->Option AObj}{v:Value}{cf:Nat->List Value}{j:Nat}{l:List VInT}(h:VW F get v l cf j)(Z:j<l.length:=by first|(dsimp only;omega)|omega):HC get (sB v) (sO v+j *Rp.sz VInT) [iI (l.getD j v_).i.op,iI (l.getD j v_).i.a,iI (l.getD j v_).i.b,iI (l.getD j v_).i.c,iI (l.getD j v_).i.n,sL (cA (cf j) 5) (l.getD j v_).args.length (cK (cf j) 5)]:=by obtain⟨⟨T,U,N,_⟩,E⟩:=h.1 v_ Z;rw[show cf j=_ from N]at E⊢;exact E
theorem VInT.fx{F:Fz}{get:Nat->Option AObj}{v:Value}{cf:Nat->List Value}{j:Nat}{l:List VInT}(h:VW F get v l cf j):in64 (l.getD j v_).i.op/\in64 (l.getD j v_).i.a/\in64 (l.getD j v_).i.b/\in64 (l.getD j v_).i.c/\in64 (l.getD j v_).i.n/\SR F (sL (cA (cf j) 5) (l.getD j v_).args.length (cK (cf j) 5)) (l.getD j v_).args:=by
 rcases a0g j l.length with hj|hj
 ·obtain⟨⟨a5,k5,E,N,T,U,a_,Z,h5⟩,_⟩:=h.1 v_ hj;rw[show cf j=_ from E];exact⟨N,T,U,a_,Z,h5⟩
 rw[cb hj,h.2 hj];exact⟨by decide,by decide,by decide,by decide,by decide,SR.nil⟩
structure BlkT where
 v:(List VInT)
 f:Int
 r:Int
 t:Int
 e:Int
 deriving Inhabited,DecidableEq
instance :Rp BlkT where
 sz:=5
 rep F cs x:= ∃a0 k0,cs=[sL a0 x.v.length k0,iI x.f,iI x.r,iI x.t,iI x.e]/\in64 x.f/\in64 x.r/\in64 x.t/\in64 x.e/\SR F (sL a0 x.v.length k0) x.v
 len:=by rintro F cs x ⟨a0,k0,rfl,_⟩;rfl
 one:=by rintro F cs x ⟨a0,k0,rfl,_⟩;rfl
 mono:=by rintro F F' cs x hF ⟨a0,k0,rfl,h0,h1,h2,h3,h4⟩;exact⟨a0,k0,V,h0,h1,h2,h3,h4.mono hF⟩
theorem BlkT.vw{F:Fz}{get:Nat->Option AObj}{v:Value}{cf:Nat->List Value}{j:Nat}{l:List BlkT}(h:VW F get v l cf j)(U:j<l.length:=by first|(dsimp only;omega)|omega):HC get (sB v) (sO v+j *Rp.sz BlkT) [sL (cA (cf j) 0) (l.getD j v_).v.length (cK (cf j) 0),iI (l.getD j v_).f,iI (l.getD j v_).r,iI (l.getD j v_).t,iI (l.getD j v_).e]:=by obtain⟨⟨Z,T,N,_⟩,E⟩:=h.1 v_ U;rw[show cf j=_ from N]at E⊢;exact E
theorem BlkT.fx{F:Fz}{get:Nat->Option AObj}{v:Value}{cf:Nat->List Value}{j:Nat}{l:List BlkT}(h:VW F get v l cf j):in64 (l.getD j v_).f/\in64 (l.getD j v_).r/\in64 (l.getD j v_).t/\in64 (l.getD j v_).e/\SR F (sL (cA (cf j) 0) (l.getD j v_).v.length (cK (cf j) 0)) (l.getD j v_).v:=by
 rcases a0g j l.length with hj|hj
 ·obtain⟨⟨a0,k0,E,N,T,U,a_,Z⟩,_⟩:=h.1 v_ hj;rw[show cf j=_ from E];exact⟨N,T,U,a_,Z⟩
 rw[cb hj,h.2 hj];exact⟨by decide,by decide,by decide,by decide,SR.nil⟩
structure VFnT where
 m:Int
 r:Int
 u:(List BlkT)
 deriving Inhabited,DecidableEq
instance :Rp VFnT where
 sz:=3
 rep F cs x:= ∃a2 k2,cs=[iI x.m,iI x.r,sL a2 x.u.length k2]/\in64 x.m/\in64 x.r/\SR F (sL a2 x.u.length k2) x.u
 len:=by rintro F cs x ⟨a2,k2,rfl,_⟩;rfl
 one:=by rintro F cs x ⟨a2,k2,rfl,_⟩;rfl
 mono:=by rintro F F' cs x hF ⟨a2,k2,rfl,h0,h1,h2⟩;exact⟨a2,k2,V,h0,h1,h2.mono hF⟩
theorem VFnT.vw{F:Fz}{get:Nat->Option AObj}{v:Value}{cf:Nat->List Value}{j:Nat}{l:List VFnT}(h:VW F get v l cf j)(U:j<l.length:=by first|(dsimp only;omega)|omega):HC get (sB v) (sO v+j *Rp.sz VFnT) [iI (l.getD j v_).m,iI (l.getD j v_).r,sL (cA (cf j) 2) (l.getD j v_).u.length (cK (cf j) 2)]:=by obtain⟨⟨T,k2,N,_⟩,E⟩:=h.1 v_ U;rw[show cf j=_ from N]at E⊢;exact E
theorem VFnT.fx{F:Fz}{get:Nat->Option AObj}{v:Value}{cf:Nat->List Value}{j:Nat}{l:List VFnT}(h:VW F get v l cf j):in64 (l.getD j v_).m/\in64 (l.getD j v_).r/\SR F (sL (cA (cf j) 2) (l.getD j v_).u.length (cK (cf j) 2)) (l.getD j v_).u:=by
 rcases a0g j l.length with hj|hj
 ·obtain⟨⟨a_,k2,E,N,T,U⟩,_⟩:=h.1 v_ hj;rw[show cf j=_ from E];exact⟨N,T,U⟩
 rw[cb hj,h.2 hj];exact⟨by decide,by decide,SR.nil⟩
structure DigT where
 n:Int
 deriving Inhabited,DecidableEq
instance :Rp DigT where
 sz:=1
 rep F cs x:=cs=[iI x.n]/\in64 x.n
 len:=by rintro F cs x ⟨rfl,_⟩;rfl
 one:=by rintro F cs x ⟨rfl,_⟩;rfl
 mono:=by intro F F' cs x _ h;exact h
def dy(n m:Int):Int:=bif decide (Int.tmod n m<0) then Int.tmod n m+m else Int.tmod n m
theorem pick_rng{n m:Int}(T:0<m):0<=dy n m/\dy n m<m:=by
 have E: -m<n.tmod m:=Int.lt_tmod_of_pos n T;have N:n.tmod m<m:=Int.tmod_lt_of_pos n T;unfold dy;by_cases hc:n.tmod m<0
 ·simp only[decide_eq_true hc,cond_true];omega
 simp only[decide_eq_false hc,cond_false];omega
theorem ny(n m:Int):0<m->0<=dy n m/\dy n m<m:=pick_rng
def tabL:List InfT:=[⟨⟨[110,111,112]⟩,1,false,false,false,false,1⟩,⟨⟨[114,101,116]⟩,1,false,false,false,false,1⟩,⟨⟨[116,105,99,107]⟩,1,false,false,false,false,1⟩,⟨⟨[116,114,97,112]⟩,8,false,false,false,true,1⟩,⟨⟨[106,109,112]⟩,8,false,false,false,false,1⟩,⟨⟨[99,97,108,108]⟩,5,false,false,false,false,1⟩,⟨⟨[106,122]⟩,5,true,false,false,false,1⟩,⟨⟨[106,110,122]⟩,5,true,false,false,false,1⟩,⟨⟨[111,117,116]⟩,2,true,false,false,false,1⟩,⟨⟨[109,111,118]⟩,3,false,true,true,false,1⟩,⟨⟨[99,109,111,118,122]⟩,4,true,true,true,false,1⟩,⟨⟨[99,109,111,118,110,122]⟩,4,true,true,true,false,1⟩,⟨⟨[108,100,105]⟩,5,false,true,false,false,1⟩,⟨⟨[108,100,99]⟩,6,false,true,false,false,3⟩,⟨⟨[110,101,103]⟩,2,true,true,false,false,1⟩,⟨⟨[110,111,116]⟩,2,true,true,false,false,1⟩,⟨⟨[97,100,100]⟩,3,true,true,true,false,1⟩,⟨⟨[115,117,98]⟩,3,true,true,true,false,1⟩,⟨⟨[109,117,108]⟩,3,true,true,true,false,1⟩,⟨⟨[100,105,118]⟩,3,true,true,true,true,1⟩,⟨⟨[114,101,109]⟩,3,true,true,true,true,1⟩,⟨⟨[97,110,100]⟩,3,true,true,true,false,1⟩,⟨⟨[111,114]⟩,3,true,true,true,false,1⟩,⟨⟨[120,111,114]⟩,3,true,true,true,false,1⟩,⟨⟨[115,104,108]⟩,3,true,true,true,false,1⟩,⟨⟨[115,104,114]⟩,3,true,true,true,false,1⟩,⟨⟨[115,97,114]⟩,3,true,true,true,false,1⟩,⟨⟨[101,113]⟩,3,true,true,true,false,1⟩,⟨⟨[110,101]⟩,3,true,true,true,false,1⟩,⟨⟨[108,116]⟩,3,true,true,true,false,1⟩,⟨⟨[108,101]⟩,3,true,true,true,false,1⟩,⟨⟨[108,116,117]⟩,3,true,true,true,false,1⟩,⟨⟨[97,100,100,105]⟩,5,true,true,false,false,1⟩,⟨⟨[108,100]⟩,7,false,true,true,true,1⟩,⟨⟨[115,116]⟩,7,true,false,true,true,1⟩,⟨⟨[108,100,115]⟩,5,false,true,false,false,1⟩,⟨⟨[115,116,115]⟩,5,true,false,false,false,1⟩]
def infC(x:InfT):List Value:=[tX x.name.b,iI x.f,.bool x.ra,.bool x.wa,.bool x.rb,.bool x.mt,iI x.w]
def tabC:List Value:=tabL.flatMap infC
abbrev kKt(e:FuncId):=C Tryz.prog 1 (KT 60 e 37 tabC)
theorem rl_of{α:Type} [Rp α]{F:Fz}{c:α->List Value}: ∀(l:List α),(∀x∈l,Rp.rep F (c x) x)->RL F (l.flatMap c) l
 | [],_=>rfl
 |x::l,h=>⟨c x,l.flatMap c,V,h x (a0n ..),rl_of l fun y E=>h y (a0f _ E)⟩
theorem tab_rng: ∀x∈tabL,in64 x.f/\in64 x.w:=by decide
theorem tab_sr{F:Fz}(h:TB 37 tabC F):SR F (sL (some ⟨1,0,none⟩) tabL.length 37) tabL:=h.sr V (rl_of tabL fun x E=>⟨V,tab_rng x E⟩)
def aE(op:Int):InfT:=if 1<=op/\op<=37 then tabL.getD (op-1).toNat v_ else v_
def infO(op:Int):Bool:=decide (1<=op/\op<=37)
def aI(op:Int):Int:=if op=1\/op=2\/op=3 then 1 else if op=9\/op=15\/op=16 then 2 else if op=10\/(17<=op/\op<=32) then 3 else if op=11\/op=12 then 4 else if op=6\/op=7\/op=8\/op=13\/op=33\/op=36\/op=37 then 5 else if op=14 then 6 else if op=34\/op=35 then 7 else if op=4\/op=5 then 8 else 0
def alV(op:Int):Bool:=decide (op=3\/op=6\/(9<=op/\op<=13)\/(15<=op/\op<=35)\/op=38)
def namesL:List Str:=[⟨[]⟩,⟨[110,111,112]⟩,⟨[114,101,116]⟩,⟨[116,105,99,107]⟩,⟨[116,114,97,112]⟩,⟨[106,109,112]⟩,⟨[99,97,108,108]⟩,⟨[106,122]⟩,⟨[106,110,122]⟩,⟨[111,117,116]⟩,⟨[109,111,118]⟩,⟨[99,109,111,118,122]⟩,⟨[99,109,111,118,110,122]⟩,⟨[108,100,105]⟩,⟨[108,100,99]⟩,⟨[110,101,103]⟩,⟨[110,111,116]⟩,⟨[97,100,100]⟩,⟨[115,117,98]⟩,⟨[109,117,108]⟩,⟨[100,105,118]⟩,⟨[114,101,109]⟩,⟨[97,110,100]⟩,⟨[111,114]⟩,⟨[120,111,114]⟩,⟨[115,104,108]⟩,⟨[115,104,114]⟩,⟨[115,97,114]⟩,⟨[101,113]⟩,⟨[110,101]⟩,⟨[108,116]⟩,⟨[108,101]⟩,⟨[108,116,117]⟩,⟨[97,100,100,105]⟩,⟨[108,100]⟩,⟨[115,116]⟩,⟨[108,100,115]⟩,⟨[115,116,115]⟩]
theorem infV_no{op:Int}(h: ¬(1<=op/\op<=37)):(⟨⟨[]⟩,0,false,false,false,false,0⟩:InfT)=aE op:=by unfold aE;rw[if_neg h];rfl
theorem infV_at{op:Int}(h:1<=op/\op<=37):tabL.getD (op-1).toNat v_=aE op:=by unfold aE;rw[if_pos h]
theorem infO_no{op:Int}(h: ¬(1<=op/\op<=37)):infO op=false:=decide_eq_false h
theorem infO_at{op:Int}(h:1<=op/\op<=37):infO op=true:=decide_eq_true h
theorem iP(op:Int):(aI op=0/\¬(1<=op/\op<=37))\/(1<=aI op/\aI op<=8/\1<=op/\op<=37):=by unfold aI;(repeat' split)<;>omega
instance :DecidableEq Str:=fun a b=>decidable_of_iff (a.b=b.b) ⟨fun h=>by cases a;cases b;simp_all,fun h=>by rw[h]⟩
instance :DecidableEq InfT:=fun a b=>decidable_of_iff ((a.name=b.name/\a.f=b.f/\a.ra=b.ra)/\(a.wa=b.wa/\a.rb=b.rb/\a.mt=b.mt/\a.w=b.w)) ⟨fun h=>by cases a;cases b;simp_all,fun h=>by rw[h];simp⟩
theorem ex37{op:Int}(E:1<=op/\op<=37): ∃k:Fin 37,op=(k.val:Int)+1:=⟨⟨(op-1).toNat,by omega⟩,by show op=((op-1).toNat:Int)+1;omega⟩
theorem bN{op k r:Int}(h:op=k)(E:r=aI k):r=aI op:=by rw[h];exact E
theorem bH{op:Int}{b:Bool}(h:b=true↔(op=3\/op=6\/(9<=op/\op<=13)\/(15<=op/\op<=35)\/op=38)):b=alV op:=by unfold alV;cases b<;>simp_all
theorem pick_c(n:Int)(m:Int)(H:Heap)(U:0<m/\m<9223372036854775808):kKt ex 11 [(iI n),(iI m)] H fun v H'=> ∃(r:Int),H'=H/\v=iI r/\r=dy n m:=by
 have N: -m<n.tmod m:=Int.lt_tmod_of_pos n U.1;have T:n.tmod m<m:=Int.tmod_lt_of_pos n U.1;refine aC Tryz.func11 V V (am 1 V (wT 2 [] 4 4 [] [(4,(iI 0))] V fun _=>wU 3 [] 5 7 [0] [(0,(iI (Int.tmod n m)))] (show m≠0 from by omega) V fun _=>wT 1 [] 8 9 [] [(9,(.bool (decide (Int.tmod n m<0))))] V fun _=>zi 0 2 (fun E=>?_) fun E=>?_))
 ·have c4:=E;try simp only[BS]at c4
  refine wU 2 [] 10 12 [0] [(0,(iI ((Int.tmod n m)+m)))] (vi (n:=(Int.tmod n m)+m)) V fun _=>wT 1 [] 4 4 [13] [(4,(iI ((Int.tmod n m)+m)))] V fun _=>aj ⟨.inr V,_,V,(Int.tmod n m)+m,V,V,(by simp only[dy,E,cond_true,cond_false])⟩
 refine wT 1 [] 4 4 [13] [(4,(iI (Int.tmod n m)))] V fun _=>aj ⟨.inr V,_,V,Int.tmod n m,V,V,(by simp only[dy,E,cond_true,cond_false])⟩
theorem nz(n:Int)(m:Int)(H:Heap)(E:0<m/\m<9223372036854775808):kKt ex 11 [(iI n),(iI m)] H fun v H'=>v=(iI (dy n m))/\H'=H:=
 cq (pick_c ex n m H E) (by rintro _ _ ⟨_,rfl,rfl,rfl⟩;exact⟨V,V⟩)
theorem ic(op:Int)(hs:HS (.of H []) F H [] R)(ai:in64 op)(hT:TB 37 tabC F):kKt ex 122 [(iI op)] H fun v H'=> ∃(x:InfT) (o:Bool) (F':Fz),Fz.le F F'/\HS (.of H []) F' H' [] R/\v= .tuple ⟨[.agg ⟨[tX x.name.b,iI x.f,.bool x.ra,.bool x.wa,.bool x.rb,.bool x.mt,iI x.w]⟩,.bool o]⟩/\in64 x.f/\in64 x.w/\x=aE op/\o=infO op:=by
 have tl:tabL.length=37:=rfl;refine aC Tryz.func122 V V (am 1 V (ab (zn hs V fun b1 H2 E=>za (.bool false) (ah 3 V ?_))));refine wT 1 [] 4 9 [] [(9,(.bool ((decide (op<1))||(decide ((37:Int)<op)))))] V fun _=>zI 1 2 (fun c4=>?_) fun c4=>?_
 ·refine sgr 1 3 3 [10] [(3,(.bool false))] (Hr_ 1 0 Hn_) E V V fun ag H5 N=>aj ⟨.inr V,_,(rC V (ldVN V V (h_ N V) V) (rT V rN)),(⟨⟨[]⟩,0,false,false,false,false,0⟩:InfT),false,_,fR,(HS.forget N),V,M,M,(infV_no (op:=op) M),(infO_no (op:=op) M).symm⟩
 obtain⟨aa,U⟩:=Sv.view (SR.sv (tab_sr hT) E);obtain⟨a_,Z⟩:=InfT.fx (U (op-1).toNat);refine sgr 1 11 15 [3] [(3,(.bool true))] (Hl_ 0 (ql 206 0 (TB.hc (hT.heap E)) V V) (Ha_ (vi (n:=op-1)) (Ha_ (Sv.ix (j:=op-1) (SR.sv (tab_sr hT) E)) (Hl_ 4 (qn 149 0 7 (InfT.vw (U (op-1).toNat)) V V V V) (Hr_ 5 0 Hn_))))) E V V fun an H8 T=>aj ⟨.inr V,_,(rC V (ldVN V V (h_ T V) V) (rT V rN)),(⟨⟨(tabL.getD (op-1).toNat v_).name.b⟩,(tabL.getD (op-1).toNat v_).f,(tabL.getD (op-1).toNat v_).ra,(tabL.getD (op-1).toNat v_).wa,(tabL.getD (op-1).toNat v_).rb,(tabL.getD (op-1).toNat v_).mt,(tabL.getD (op-1).toNat v_).w⟩:InfT),true,_,fR,(HS.forget T),V,M,M,(infV_at (op:=op) M),(infO_at (op:=op) M).symm⟩
theorem isBin_c(op:Int)(H:Heap):kKt ex 128 [(iI op)] H fun v H'=> ∃(r:Bool),H'=H/\v= .bool r/\r=decide (17<=op/\op<=32):=by refine aC Tryz.func128 V V (am 1 V (wT 2 [] 2 2 [] [(2,(.bool false))] V fun _=>wT 1 [] 2 8 [] [(2,(.bool ((decide ((17:Int)<=op))&&(decide (op<=32)))))] V fun _=>aj ⟨.inr V,_,V,((decide ((17:Int)<=op))&&(decide (op<=32))),V,V,(by rw[a0s];simp)⟩))
theorem iM(op:Int)(H:Heap):kKt ex 128 [(iI op)] H fun v H'=>v=(.bool (decide (17<=op/\op<=32)))/\H'=H:=
 cq (isBin_c ex op H) (by rintro _ _ ⟨_,rfl,rfl,rfl⟩;exact⟨V,V⟩)
theorem form_c(op:Int)(H:Heap):kKt ex 85 [(iI op)] H fun v H'=> ∃(r:Int),H'=H/\v=iI r/\r=aI op:=by
 refine aC Tryz.func85 V V (am 1 V (wT 3 [] 2 2 [] [(2,(iI 0))] V fun _=>wT 4 [] 3 3 [] [(3,(iI op))] V fun _=>wT 1 [] 4 5 [] [(4,(.bool (op==1)))] V fun _=>zi 1 1 (fun ar=>?_) fun ar=>?_))
 ·have c4:=ar;try simp only[BS]at c4
  refine aS 1 (v:=(op==1)) V ar V V (wT 1 [] 2 2 [] [(2,(iI 1))] V fun _=>aj ⟨.inr V,_,V,1,V,V,(bN X e_)⟩)
 have c4:=ar;try simp only[BS]at c4
 refine wT 1 [] 4 6 [] [(4,(.bool (op==2)))] V fun _=>zi 1 0 (fun av=>?_) fun av=>?_
 ·have c7:=av;try simp only[BS]at c7
  refine aS 1 (v:=(op==2)) V av V V (wT 1 [] 2 2 [] [(2,(iI 1))] V fun _=>aj ⟨.inr V,_,V,1,V,V,(bN X e_)⟩)
 have c7:=av;try simp only[BS]at c7
 refine wT 1 [] 4 7 [] [(4,(.bool (op==3)))] V fun _=>zI 1 2 (fun bb=>?_) fun bb=>?_
 ·refine wT 1 [] 2 2 [] [(2,(iI 1))] V fun _=>aj ⟨.inr V,_,V,1,V,V,(bN X e_)⟩
 refine wT 1 [] 8 9 [] [(8,(.bool (op==4)))] V fun _=>zi 1 0 (fun E=>?_) fun E=>?_
 ·have aw:=E;try simp only[BS]at aw
  refine aS 1 (v:=(op==4)) V E V V (wT 1 [] 2 2 [] [(2,(iI 8))] V fun _=>aj ⟨.inr V,_,V,8,V,V,(bN X e_)⟩)
 have aw:=E;try simp only[BS]at aw
 refine wT 1 [] 8 10 [] [(8,(.bool (op==5)))] V fun _=>zI 1 2 (fun bk=>?_) fun bk=>?_
 ·refine wT 1 [] 2 2 [] [(2,(iI 8))] V fun _=>aj ⟨.inr V,_,V,8,V,V,(bN X e_)⟩
 refine wT 1 [] 11 12 [] [(11,(.bool (op==6)))] V fun _=>zi 1 1 (fun N=>?_) fun N=>?_
 ·have ax:=N;try simp only[BS]at ax
  refine aS 1 (v:=(op==6)) V N V V (wT 1 [] 2 2 [] [(2,(iI 5))] V fun _=>aj ⟨.inr V,_,V,5,V,V,(bN X e_)⟩)
 have ax:=N;try simp only[BS]at ax
 refine wT 1 [] 11 13 [] [(11,(.bool (op==7)))] V fun _=>zi 1 1 (fun T=>?_) fun T=>?_
 ·have ay:=T;try simp only[BS]at ay
  refine aS 1 (v:=(op==7)) V T V V (wT 1 [] 2 2 [] [(2,(iI 5))] V fun _=>aj ⟨.inr V,_,V,5,V,V,(bN X e_)⟩)
 have ay:=T;try simp only[BS]at ay
 refine wT 1 [] 11 14 [] [(11,(.bool (op==8)))] V fun _=>zi 1 1 (fun U=>?_) fun U=>?_
 ·have aA:=U;try simp only[BS]at aA
  refine aS 1 (v:=(op==8)) V U V V (wT 1 [] 2 2 [] [(2,(iI 5))] V fun _=>aj ⟨.inr V,_,V,5,V,V,(bN X e_)⟩)
 have aA:=U;try simp only[BS]at aA
 refine wT 1 [] 11 15 [] [(11,(.bool (op==13)))] V fun _=>zi 1 1 (fun a_=>?_) fun a_=>?_
 ·have a1:=a_;try simp only[BS]at a1
  refine aS 1 (v:=(op==13)) V a_ V V (wT 1 [] 2 2 [] [(2,(iI 5))] V fun _=>aj ⟨.inr V,_,V,5,V,V,(bN X e_)⟩)
 have a1:=a_;try simp only[BS]at a1
 refine wT 1 [] 11 16 [] [(11,(.bool (op==33)))] V fun _=>zi 1 1 (fun Z=>?_) fun Z=>?_
 ·have a2:=Z;try simp only[BS]at a2
  refine aS 1 (v:=(op==33)) V Z V V (wT 1 [] 2 2 [] [(2,(iI 5))] V fun _=>aj ⟨.inr V,_,V,5,V,V,(bN X e_)⟩)
 have a2:=Z;try simp only[BS]at a2
 refine wT 1 [] 11 17 [] [(11,(.bool (op==36)))] V fun _=>zi 1 0 (fun aa=>?_) fun aa=>?_
 ·have a3:=aa;try simp only[BS]at a3
  refine aS 1 (v:=(op==36)) V aa V V (wT 1 [] 2 2 [] [(2,(iI 5))] V fun _=>aj ⟨.inr V,_,V,5,V,V,(bN X e_)⟩)
 have a3:=aa;try simp only[BS]at a3
 refine wT 1 [] 11 18 [] [(11,(.bool (op==37)))] V fun _=>zI 1 2 (fun bl=>?_) fun bl=>?_
 ·refine wT 1 [] 2 2 [] [(2,(iI 5))] V fun _=>aj ⟨.inr V,_,V,5,V,V,(bN X e_)⟩
 refine wT 1 [] 19 20 [] [(19,(.bool (op==9)))] V fun _=>zi 1 1 (fun ag=>?_) fun ag=>?_
 ·have a4:=ag;try simp only[BS]at a4
  refine aS 1 (v:=(op==9)) V ag V V (wT 1 [] 2 2 [] [(2,(iI 2))] V fun _=>aj ⟨.inr V,_,V,2,V,V,(bN X e_)⟩)
 have a4:=ag;try simp only[BS]at a4
 refine wT 1 [] 19 21 [] [(19,(.bool (op==15)))] V fun _=>zi 1 0 (fun an=>?_) fun an=>?_
 ·have a5:=an;try simp only[BS]at a5
  refine aS 1 (v:=(op==15)) V an V V (wT 1 [] 2 2 [] [(2,(iI 2))] V fun _=>aj ⟨.inr V,_,V,2,V,V,(bN X e_)⟩)
 have a5:=an;try simp only[BS]at a5
 refine wT 1 [] 19 22 [] [(19,(.bool (op==16)))] V fun _=>zI 1 2 (fun bz=>?_) fun bz=>?_
 ·refine wT 1 [] 2 2 [] [(2,(iI 2))] V fun _=>aj ⟨.inr V,_,V,2,V,V,(bN X e_)⟩
 refine wT 1 [] 23 24 [] [(23,(.bool (op==11)))] V fun _=>zi 1 0 (fun ap=>?_) fun ap=>?_
 ·have a7:=ap;try simp only[BS]at a7
  refine aS 1 (v:=(op==11)) V ap V V (wT 1 [] 2 2 [] [(2,(iI 4))] V fun _=>aj ⟨.inr V,_,V,4,V,V,(bN X e_)⟩)
 have a7:=ap;try simp only[BS]at a7
 refine wT 1 [] 23 25 [] [(23,(.bool (op==12)))] V fun _=>zI 1 1 (fun b1=>?_) fun b1=>?_
 ·refine wT 1 [] 2 2 [] [(2,(iI 4))] V fun _=>aj ⟨.inr V,_,V,4,V,V,(bN X e_)⟩
 refine wT 1 [] 26 27 [] [(26,(.bool (op==14)))] V fun _=>zI 1 2 (fun b2=>?_) fun b2=>?_
 ·refine wT 1 [] 2 2 [] [(2,(iI 6))] V fun _=>aj ⟨.inr V,_,V,6,V,V,(bN X e_)⟩
 refine wT 1 [] 28 29 [] [(28,(.bool (op==34)))] V fun _=>zi 1 0 (fun aq=>?_) fun aq=>?_
 ·have a8:=aq;try simp only[BS]at a8
  refine aS 1 (v:=(op==34)) V aq V V (wT 1 [] 2 2 [] [(2,(iI 7))] V fun _=>aj ⟨.inr V,_,V,7,V,V,(bN X e_)⟩)
 have a8:=aq;try simp only[BS]at a8
 refine wT 1 [] 28 30 [] [(28,(.bool (op==35)))] V fun _=>zI 1 4 (fun b3=>?_) fun b3=>?_
 ·refine wT 1 [] 2 2 [] [(2,(iI 7))] V fun _=>aj ⟨.inr V,_,V,7,V,V,(bN X e_)⟩
 refine wU 1 [(4,.o (.bool (decide (17<=op/\op<=32))))] 31 36 [] [(36,(.bool ((op==10)||decide (17<=op/\op<=32))))] (fun(g1:(op==10)=false)=>(iM ex op H)) V fun _=>zI 1 2 (fun b4=>?_) fun b4=>?_
 ·refine wT 1 [] 2 2 [] [(2,(iI 3))] V fun _=>aj ⟨.inr V,_,V,3,V,V,(by(unfold aI;(repeat' split)<;>omega))⟩
 refine wT 1 [] 2 2 [] [(2,(iI 0))] V fun _=>aj ⟨.inr V,_,V,0,V,V,(by(unfold aI;(repeat' split)<;>omega))⟩
theorem ke(op:Int)(H:Heap):kKt ex 85 [(iI op)] H fun v H'=>v=(iI (aI op))/\H'=H:=
 cq (form_c ex op H) (by rintro _ _ ⟨_,rfl,rfl,rfl⟩;exact⟨V,V⟩)
theorem names_c(hs:HS (.of H []) F H [] R)(hT:TB 37 tabC F):kKt ex 127 [] H fun v H'=> ∃(Z:Option Addr) (kr:Nat) (r:List Str) (p:Fp) (F':Fz),Fz.le F F'/\HS (.of H []) F' H' [p] R/\v=sL Z r.length kr/\OS F' (sL Z r.length kr) r p/\r=namesL:=by refine aC Tryz.func127 V V (am 1 V (wT 2 [] 0 0 [] [(0,(sL none 0 0))] V fun _=>ab (zlo ([⟨[]⟩,⟨[110,111,112]⟩,⟨[114,101,116]⟩,⟨[116,105,99,107]⟩,⟨[116,114,97,112]⟩,⟨[106,109,112]⟩,⟨[99,97,108,108]⟩,⟨[106,122]⟩,⟨[106,110,122]⟩,⟨[111,117,116]⟩,⟨[109,111,118]⟩,⟨[99,109,111,118,122]⟩,⟨[99,109,111,118,110,122]⟩,⟨[108,100,105]⟩,⟨[108,100,99]⟩,⟨[110,101,103]⟩,⟨[110,111,116]⟩,⟨[97,100,100]⟩,⟨[115,117,98]⟩,⟨[109,117,108]⟩,⟨[100,105,118]⟩,⟨[114,101,109]⟩,⟨[97,110,100]⟩,⟨[111,114]⟩,⟨[120,111,114]⟩,⟨[115,104,108]⟩,⟨[115,104,114]⟩,⟨[115,97,114]⟩,⟨[101,113]⟩,⟨[110,101]⟩,⟨[108,116]⟩,⟨[108,101]⟩,⟨[108,116,117]⟩,⟨[97,100,100,105]⟩,⟨[108,100]⟩,⟨[115,116]⟩,⟨[108,100,115]⟩,⟨[115,116,115]⟩]:List Str) hs V k_ V fun E k2 U a_ N T=>za (sL E ([⟨[]⟩,⟨[110,111,112]⟩,⟨[114,101,116]⟩,⟨[116,105,99,107]⟩,⟨[116,114,97,112]⟩,⟨[106,109,112]⟩,⟨[99,97,108,108]⟩,⟨[106,122]⟩,⟨[106,110,122]⟩,⟨[111,117,116]⟩,⟨[109,111,118]⟩,⟨[99,109,111,118,122]⟩,⟨[99,109,111,118,110,122]⟩,⟨[108,100,105]⟩,⟨[108,100,99]⟩,⟨[110,101,103]⟩,⟨[110,111,116]⟩,⟨[97,100,100]⟩,⟨[115,117,98]⟩,⟨[109,117,108]⟩,⟨[100,105,118]⟩,⟨[114,101,109]⟩,⟨[97,110,100]⟩,⟨[111,114]⟩,⟨[120,111,114]⟩,⟨[115,104,108]⟩,⟨[115,104,114]⟩,⟨[115,97,114]⟩,⟨[101,113]⟩,⟨[110,101]⟩,⟨[108,116]⟩,⟨[108,101]⟩,⟨[108,116,117]⟩,⟨[97,100,100,105]⟩,⟨[108,100]⟩,⟨[115,116]⟩,⟨[108,100,115]⟩,⟨[115,116,115]⟩]:List Str).length k2) ?_)));refine ah 1 V (aj ⟨.inr V,_,V,E,k2,([⟨[]⟩,⟨[110,111,112]⟩,⟨[114,101,116]⟩,⟨[116,105,99,107]⟩,⟨[116,114,97,112]⟩,⟨[106,109,112]⟩,⟨[99,97,108,108]⟩,⟨[106,122]⟩,⟨[106,110,122]⟩,⟨[111,117,116]⟩,⟨[109,111,118]⟩,⟨[99,109,111,118,122]⟩,⟨[99,109,111,118,110,122]⟩,⟨[108,100,105]⟩,⟨[108,100,99]⟩,⟨[110,101,103]⟩,⟨[110,111,116]⟩,⟨[97,100,100]⟩,⟨[115,117,98]⟩,⟨[109,117,108]⟩,⟨[100,105,118]⟩,⟨[114,101,109]⟩,⟨[97,110,100]⟩,⟨[111,114]⟩,⟨[120,111,114]⟩,⟨[115,104,108]⟩,⟨[115,104,114]⟩,⟨[115,97,114]⟩,⟨[101,113]⟩,⟨[110,101]⟩,⟨[108,116]⟩,⟨[108,101]⟩,⟨[108,116,117]⟩,⟨[97,100,100,105]⟩,⟨[108,100]⟩,⟨[115,116]⟩,⟨[108,100,115]⟩,⟨[115,116,115]⟩]:List Str),U,_,fR,(HS.only T (i:=0) V),V,N,m_⟩)
theorem rInfo_c(op:Int)(hs:HS (.of H []) F H [] R)(dt:in64 op)(hT:TB 37 tabC F):kKt ex 75 [(iI op)] H fun v H'=> ∃(x:InfT) (o:Bool) (F':Fz),Fz.le F F'/\HS (.of H []) F' H' [] R/\v= .tuple ⟨[.agg ⟨[tX x.name.b,iI x.f,.bool x.ra,.bool x.wa,.bool x.rb,.bool x.mt,iI x.w]⟩,.bool o]⟩/\in64 x.f/\in64 x.w/\x=aE op/\o=infO op:=by
 have nl:namesL.length=38:=rfl;refine aC Tryz.func75 V V (am 1 V (ab (zn hs V fun b1 H2 a_=>za (.bool false) (ah 2 V ?_))));have c9:=iP op;refine wU 3 [(1,.o (iI (aI op)))] 8 9 [4] [(4,(iI (aI op)))] (ke ex op H2) V fun _=>wT 1 [] 10 11 [] [(11,(.bool (aI op==0)))] V fun _=>zI 1 2 (fun c6=>?_) fun c6=>?_
 ·refine sgr 1 3 3 [12] [(3,(.bool false))] (Hr_ 1 0 Hn_) a_ V V fun dd H7 an=>aj ⟨.inr V,_,(rC V (ldVN V V (h_ an V) V) (rT V rN)),(⟨⟨[]⟩,0,false,false,false,false,0⟩:InfT),false,_,fR,(HS.forget an),V,M,M,(infV_no (op:=op) M),(infO_no (op:=op) M).symm⟩
 refine ab (zc (names_c ex (HS.call a_) hT) ?_);rintro _ H8 ⟨c5,dk,r8,p8,F8,a7,E,rfl,T,rfl⟩;replace E:=HS.back a_ V E;obtain⟨c7,a8⟩:=Sv.view (OS.sv T E (i:=1) V);refine bL 5 1 14 18 [] [(18,(aG [(tX (namesL.getD op.toNat v_).b),(iI (aI op)),(.bool false),(.bool false),(.bool false),(.bool false),(iI 1)]))] (Ha_ (Sv.ix (j:=op) (OS.sv T E (i:=1) V)) (Hl_ 3 (ql 9 0 (vS (a8 op.toNat)) V V) Hn_)) (by kernel_rfl) V fun _=>zn E V fun ag b9 aq=>sgo 1 7 1 0 [] [] (Hr_ 7 2 Hn_) aq V V fun bl cc U=>ah 3 V (wT 1 [] 19 20 [] [(20,(.bool (op==14)))] V fun _=>bj (fun f H'=> ∃(w1:Int) (F':Fz),Fz.le F8 F'/\HS (Base.of H []) F' H' [(fP b1 [(tX []),(iI 0),(.bool false),(.bool false),(.bool false),(.bool false),(iI 0)]),p8,(fP ag [(tX (namesL.getD op.toNat v_).b),(iI (aI op)),(.bool false),(.bool false),(.bool false),(.bool false),(iI w1)])] R/\aB f [(0,(iI op)),(2,(pT b1 0)),(5,(pT ag 0))]/\(w1=if op=14 then 3 else 1)/\(in64 w1)) (fun aa=>?_) ?_)
 ·refine zI 0 0 (fun a5=>?_) fun a5=>?_
  ·refine sgr 0 21 21 [] [] (Hr_ 1 2 Hn_) U V V fun bz cg av=>?_
   exact aa _ _ ⟨3,_,fR,av,⟨V,V,V,trivial⟩,M,M⟩
  exact aa _ _ ⟨1,_,fR,U,⟨V,V,V,trivial⟩,M,M⟩
 skip;rintro c8 a1 ⟨w1,b8,ap,ar,N,hw,hwr⟩;refine au _ N (fun _=>?_);clear N;refine am 2 V (wT 2 [] 22 27 [6] [(6,(.bool ((op==11)||(op==12))))] V fun _=>wT 2 [] 28 33 [7] [(7,(.bool ((op==15)||(op==16))))] V fun _=>sgr 2 34 66 [] [] (Hc1_ 6 (fun _=>(iM ex op a1)) (Hr_ 33 2 Hn_)) ar V V fun b2 a2 aw=>sgr 2 67 99 [] [] (Hc1_ 6 (fun _=>(iM ex op a2)) (Hr_ 33 2 Hn_)) aw V V fun b3 a3 ax=>sgr 2 100 117 [] [] (Hc1_ 3 (fun _=>(iM ex op a3)) (Hr_ 18 2 Hn_)) ax V V fun b4 ch ay=>?_);refine sgr 2 118 136 [] [] (Hr_ 19 2 Hn_) ay V V fun b5 ci aA=>sgr 1 3 3 [137] [(3,(.bool true))] (Hr_ 0 2 (Hr_ 1 0 Hn_)) aA V V fun b6 co Z=>aj ⟨.inr V,_,(rC V (ldVN V V (h_ Z V) V) (rT V rN)),(⟨⟨(namesL.getD op.toNat v_).b⟩,aI op,((((((((((op==11)||(op==12))||((op==15)||(op==16)))||decide (17<=op/\op<=32))||(op==7))||(op==8))||(op==9))||(op==33))||(op==35))||(op==37)),((((((((((op==11)||(op==12))||((op==15)||(op==16)))||decide (17<=op/\op<=32))||(op==10))||(op==13))||(op==14))||(op==33))||(op==34))||(op==36)),((((((op==11)||(op==12))||decide (17<=op/\op<=32))||(op==10))||(op==34))||(op==35)),(((((op==4)||(op==20))||(op==21))||(op==34))||(op==35)),w1⟩:InfT),true,_,(fT (a7) ap),(HS.forget Z),V,M,M,(by(rw[hw];obtain⟨k,hk⟩:=ex37 (op:=op) ⟨by omega,by omega⟩;rw[hk];clear hk;revert k;decide+kernel)),(infO_at (op:=op) M).symm⟩
theorem valw_c(op:Int)(H:Heap):kKt ex 131 [(iI op)] H fun v H'=> ∃(r:Bool),H'=H/\v= .bool r/\r=alV op:=by
 refine aC Tryz.func131 V V (am 1 V (wT 3 [] 2 2 [] [(2,(.bool false))] V fun _=>wT 4 [] 3 3 [] [(3,(iI op))] V fun _=>wT 1 [] 4 5 [] [(4,(.bool (op==3)))] V fun _=>zi 1 1 (fun an=>?_) fun an=>?_))
 ·have c4:=an;try simp only[BS]at c4
  refine aS 1 (v:=(op==3)) V an V V (wT 1 [] 2 2 [] [(2,(.bool true))] V fun _=>aj ⟨.inr V,_,V,true,V,V,(bH l_)⟩)
 have c4:=an;try simp only[BS]at c4
 refine wT 1 [] 4 6 [] [(4,(.bool (op==6)))] V fun _=>zi 1 1 (fun ap=>?_) fun ap=>?_
 ·have c7:=ap;try simp only[BS]at c7
  refine aS 1 (v:=(op==6)) V ap V V (wT 1 [] 2 2 [] [(2,(.bool true))] V fun _=>aj ⟨.inr V,_,V,true,V,V,(bH l_)⟩)
 have c7:=ap;try simp only[BS]at c7
 refine wT 1 [] 4 7 [] [(4,(.bool (op==9)))] V fun _=>zi 1 1 (fun E=>?_) fun E=>?_
 ·have aq:=E;try simp only[BS]at aq
  refine aS 1 (v:=(op==9)) V E V V (wT 1 [] 2 2 [] [(2,(.bool true))] V fun _=>aj ⟨.inr V,_,V,true,V,V,(bH l_)⟩)
 have aq:=E;try simp only[BS]at aq
 refine wT 1 [] 4 8 [] [(4,(.bool (op==10)))] V fun _=>zi 1 1 (fun N=>?_) fun N=>?_
 ·have ar:=N;try simp only[BS]at ar
  refine aS 1 (v:=(op==10)) V N V V (wT 1 [] 2 2 [] [(2,(.bool true))] V fun _=>aj ⟨.inr V,_,V,true,V,V,(bH l_)⟩)
 have ar:=N;try simp only[BS]at ar
 refine wT 1 [] 4 9 [] [(4,(.bool (op==11)))] V fun _=>zi 1 1 (fun T=>?_) fun T=>?_
 ·have av:=T;try simp only[BS]at av
  refine aS 1 (v:=(op==11)) V T V V (wT 1 [] 2 2 [] [(2,(.bool true))] V fun _=>aj ⟨.inr V,_,V,true,V,V,(bH l_)⟩)
 have av:=T;try simp only[BS]at av
 refine wT 1 [] 4 10 [] [(4,(.bool (op==12)))] V fun _=>zi 1 1 (fun U=>?_) fun U=>?_
 ·have aw:=U;try simp only[BS]at aw
  refine aS 1 (v:=(op==12)) V U V V (wT 1 [] 2 2 [] [(2,(.bool true))] V fun _=>aj ⟨.inr V,_,V,true,V,V,(bH l_)⟩)
 have aw:=U;try simp only[BS]at aw
 refine wT 1 [] 4 11 [] [(4,(.bool (op==13)))] V fun _=>zi 1 1 (fun a_=>?_) fun a_=>?_
 ·have ax:=a_;try simp only[BS]at ax
  refine aS 1 (v:=(op==13)) V a_ V V (wT 1 [] 2 2 [] [(2,(.bool true))] V fun _=>aj ⟨.inr V,_,V,true,V,V,(bH l_)⟩)
 have ax:=a_;try simp only[BS]at ax
 refine wT 1 [] 4 12 [] [(4,(.bool (op==33)))] V fun _=>zi 1 1 (fun Z=>?_) fun Z=>?_
 ·have ay:=Z;try simp only[BS]at ay
  refine aS 1 (v:=(op==33)) V Z V V (wT 1 [] 2 2 [] [(2,(.bool true))] V fun _=>aj ⟨.inr V,_,V,true,V,V,(bH l_)⟩)
 have ay:=Z;try simp only[BS]at ay
 refine wT 1 [] 4 13 [] [(4,(.bool (op==34)))] V fun _=>zi 1 1 (fun aa=>?_) fun aa=>?_
 ·have aA:=aa;try simp only[BS]at aA
  refine aS 1 (v:=(op==34)) V aa V V (wT 1 [] 2 2 [] [(2,(.bool true))] V fun _=>aj ⟨.inr V,_,V,true,V,V,(bH l_)⟩)
 have aA:=aa;try simp only[BS]at aA
 refine wT 1 [] 4 14 [] [(4,(.bool (op==35)))] V fun _=>zi 1 0 (fun ag=>?_) fun ag=>?_
 ·have a1:=ag;try simp only[BS]at a1
  refine aS 1 (v:=(op==35)) V ag V V (wT 1 [] 2 2 [] [(2,(.bool true))] V fun _=>aj ⟨.inr V,_,V,true,V,V,(bH l_)⟩)
 have a1:=ag;try simp only[BS]at a1
 refine wT 1 [] 4 15 [] [(4,(.bool (op==38)))] V fun _=>zI 1 3 (fun a3=>?_) fun a3=>?_
 ·refine wT 1 [] 2 2 [] [(2,(.bool true))] V fun _=>aj ⟨.inr V,_,V,true,V,V,(bH l_)⟩
 refine wT 1 [] 16 21 [2] [(2,(.bool ((decide ((15:Int)<=op))&&(decide (op<=32)))))] V fun _=>aj ⟨.inr V,_,V,((decide ((15:Int)<=op))&&(decide (op<=32))),V,V,(bH l_)⟩
theorem ng(op:Int)(H:Heap):kKt ex 131 [(iI op)] H fun v H'=>v=(.bool (alV op))/\H'=H:=
 cq (valw_c ex op H) (by rintro _ _ ⟨_,rfl,rfl,rfl⟩;exact⟨V,V⟩)
theorem ralw_c(op:Int)(H:Heap):kKt ex 76 [(iI op)] H fun v H'=> ∃(r:Bool),H'=H/\v= .bool r/\r=alV op:=by
 refine aC Tryz.func76 V V (am 1 V (wT 3 [] 2 2 [] [(2,(.bool false))] V fun _=>wT 4 [] 3 3 [] [(3,(iI op))] V fun _=>wT 1 [] 4 5 [] [(4,(.bool (op==3)))] V fun _=>zi 1 1 (fun an=>?_) fun an=>?_))
 ·have c4:=an;try simp only[BS]at c4
  refine aS 1 (v:=(op==3)) V an V V (wT 1 [] 2 2 [] [(2,(.bool true))] V fun _=>aj ⟨.inr V,_,V,true,V,V,(bH l_)⟩)
 have c4:=an;try simp only[BS]at c4
 refine wT 1 [] 4 6 [] [(4,(.bool (op==6)))] V fun _=>zi 1 1 (fun ap=>?_) fun ap=>?_
 ·have c7:=ap;try simp only[BS]at c7
  refine aS 1 (v:=(op==6)) V ap V V (wT 1 [] 2 2 [] [(2,(.bool true))] V fun _=>aj ⟨.inr V,_,V,true,V,V,(bH l_)⟩)
 have c7:=ap;try simp only[BS]at c7
 refine wT 1 [] 4 7 [] [(4,(.bool (op==9)))] V fun _=>zi 1 1 (fun E=>?_) fun E=>?_
 ·have aq:=E;try simp only[BS]at aq
  refine aS 1 (v:=(op==9)) V E V V (wT 1 [] 2 2 [] [(2,(.bool true))] V fun _=>aj ⟨.inr V,_,V,true,V,V,(bH l_)⟩)
 have aq:=E;try simp only[BS]at aq
 refine wT 1 [] 4 8 [] [(4,(.bool (op==10)))] V fun _=>zi 1 1 (fun N=>?_) fun N=>?_
 ·have ar:=N;try simp only[BS]at ar
  refine aS 1 (v:=(op==10)) V N V V (wT 1 [] 2 2 [] [(2,(.bool true))] V fun _=>aj ⟨.inr V,_,V,true,V,V,(bH l_)⟩)
 have ar:=N;try simp only[BS]at ar
 refine wT 1 [] 4 9 [] [(4,(.bool (op==11)))] V fun _=>zi 1 1 (fun T=>?_) fun T=>?_
 ·have av:=T;try simp only[BS]at av
  refine aS 1 (v:=(op==11)) V T V V (wT 1 [] 2 2 [] [(2,(.bool true))] V fun _=>aj ⟨.inr V,_,V,true,V,V,(bH l_)⟩)
 have av:=T;try simp only[BS]at av
 refine wT 1 [] 4 10 [] [(4,(.bool (op==12)))] V fun _=>zi 1 1 (fun U=>?_) fun U=>?_
 ·have aw:=U;try simp only[BS]at aw
  refine aS 1 (v:=(op==12)) V U V V (wT 1 [] 2 2 [] [(2,(.bool true))] V fun _=>aj ⟨.inr V,_,V,true,V,V,(bH l_)⟩)
 have aw:=U;try simp only[BS]at aw
 refine wT 1 [] 4 11 [] [(4,(.bool (op==13)))] V fun _=>zi 1 1 (fun a_=>?_) fun a_=>?_
 ·have ax:=a_;try simp only[BS]at ax
  refine aS 1 (v:=(op==13)) V a_ V V (wT 1 [] 2 2 [] [(2,(.bool true))] V fun _=>aj ⟨.inr V,_,V,true,V,V,(bH l_)⟩)
 have ax:=a_;try simp only[BS]at ax
 refine wT 1 [] 4 12 [] [(4,(.bool (op==33)))] V fun _=>zi 1 1 (fun Z=>?_) fun Z=>?_
 ·have ay:=Z;try simp only[BS]at ay
  refine aS 1 (v:=(op==33)) V Z V V (wT 1 [] 2 2 [] [(2,(.bool true))] V fun _=>aj ⟨.inr V,_,V,true,V,V,(bH l_)⟩)
 have ay:=Z;try simp only[BS]at ay
 refine wT 1 [] 4 13 [] [(4,(.bool (op==34)))] V fun _=>zi 1 1 (fun aa=>?_) fun aa=>?_
 ·have aA:=aa;try simp only[BS]at aA
  refine aS 1 (v:=(op==34)) V aa V V (wT 1 [] 2 2 [] [(2,(.bool true))] V fun _=>aj ⟨.inr V,_,V,true,V,V,(bH l_)⟩)
 have aA:=aa;try simp only[BS]at aA
 refine wT 1 [] 4 14 [] [(4,(.bool (op==35)))] V fun _=>zi 1 0 (fun ag=>?_) fun ag=>?_
 ·have a1:=ag;try simp only[BS]at a1
  refine aS 1 (v:=(op==35)) V ag V V (wT 1 [] 2 2 [] [(2,(.bool true))] V fun _=>aj ⟨.inr V,_,V,true,V,V,(bH l_)⟩)
 have a1:=ag;try simp only[BS]at a1
 refine wT 1 [] 4 15 [] [(4,(.bool (op==38)))] V fun _=>zI 1 3 (fun a3=>?_) fun a3=>?_
 ·refine wT 1 [] 2 2 [] [(2,(.bool true))] V fun _=>aj ⟨.inr V,_,V,true,V,V,(bH l_)⟩
 refine wT 1 [] 16 21 [2] [(2,(.bool ((decide ((15:Int)<=op))&&(decide (op<=32)))))] V fun _=>aj ⟨.inr V,_,V,((decide ((15:Int)<=op))&&(decide (op<=32))),V,V,(bH l_)⟩
theorem ralw_c_q(op:Int)(H:Heap):kKt ex 76 [(iI op)] H fun v H'=>v=(.bool (alV op))/\H'=H:=
 cq (ralw_c ex op H) (by rintro _ _ ⟨_,rfl,rfl,rfl⟩;exact⟨V,V⟩)
end m1
open m1
namespace m2
open Go.R m1
def bh(regs n:Int):Bool:=decide (0<=n/\n<regs)
def aK(op:Int):Int:=if op=38 then 5 else(aE op).f
def aN(op:Int):InfT:=if op=38 then⟨⟨[]⟩,5,false,true,false,false,0⟩ else aE op
def fE(E:Bool)(n regs:Int):Bool:=bif E then bh regs n else decide (n=0)
def gU(params op n:Int):Bool:=if op=13 then true else if op=33 then decide (-4194304<=n/\n<4194304) else if op=6 then decide (0<=n/\n<8) else if op=34\/op=35 then decide (0<=n/\n<4) else if op=38 then decide (0<=n/\n<params) else decide (n=0)
def eP(params regs:Int)(v:VInT):Bool:=
 alV v.i.op&&decide (v.i.op=6\/v.args.length=0)&&decide (v.args.length<=6)&&v.args.all (bh regs)&&fE (decide (aK v.i.op≠1)) v.i.a regs&&
  fE (decide (aK v.i.op=3\/aK v.i.op=4\/aK v.i.op=7)) v.i.b regs&&fE (decide (aK v.i.op=4)) v.i.c regs&&gU params v.i.op v.i.n
def lL(nb regs:Int)(b:BlkT):Bool:=
 if b.f=1 then bh nb b.t&&decide (b.e=0)&&decide (b.r=0)
 else if b.f=2 then bh nb b.t&&bh nb b.e&&bh regs b.r
 else if b.f=3 then bh regs b.r&&decide (b.t=0)&&decide (b.e=0)
 else if b.f=4 then decide (1<=b.t/\b.t<33554432)&&decide (b.e=0)&&decide (b.r=0) else false
def jM(params regs nb:Int)(b:BlkT):Bool:=b.v.all (eP params regs)&&lL nb regs b
def ca(c:VFnT):Bool:=decide (0<=c.m/\c.m<=6/\0<=c.r/\c.r<=3000/\1<=c.u.length/\c.u.length<=1000)&&c.u.all (jM c.m c.r c.u.length)
theorem bm{op:Int}(h:alV op=true):(op=3/\aK op=1)\/((op=6\/op=13\/op=33\/op=38)/\aK op=5)\/((op=9\/op=15\/op=16)/\aK op=2)\/((op=10\/(17<=op/\op<=32))/\aK op=3)\/((op=11\/op=12)/\aK op=4)\/((op=34\/op=35)/\aK op=7):=by
 unfold alV at h;have h:=of_decide_eq_true h;have e: ∃k:Fin 39,op=(k.val:Int):=⟨⟨op.toNat,by omega⟩,by simp;omega⟩
 obtain⟨k,rfl⟩:=e;revert k;decide
theorem cT{α:Type} [Inhabited α]{p:α->Bool}{l:List α}: ∀j,j<0->p (l.getD j default)=true:=fun j h=>by omega
theorem bR{α:Type} [Inhabited α]{p:α->Bool}{l:List α}{k:Nat}(h: ∀j,j<k->p (l.getD j default)=true)(c:p (l.getD k default)=true): ∀j,j<k+1->p (l.getD j default)=true:=fun j N=>by
 rcases Nat.lt_succ_iff_lt_or_eq.1 N with E|rfl
 ·exact h j E
 exact c
theorem dQ{α:Type} [Inhabited α]{p:α->Bool}{l:List α}{k:Nat}(h: ∀j,j<k->p (l.getD j default)=true)(T:l.length<=k):l.all p=true:=by rw[a0m];intro x N;obtain⟨j,E,rfl⟩:=a0t.1 N;have:=h j M;rwa [a02,a06 E]at this
theorem lH{α:Type} [Inhabited α]{p:α->Bool}{l:List α}(h:l.all p=true){k:Nat}(E:k<l.length):p (l.getD k default)=true:=a0m.1 h _ (by rw[a02,a06 E];exact a10 E)
theorem cH{α:Type} [Inhabited α]{p:α->Bool}{l:List α}{k:Nat}(E:k<l.length)(c:p (l.getD k default)=false):l.all p=false:=by
 cases h:l.all p with
 |false=>rfl
 |true=>rw[lH h E]at c;cases c
theorem vin_no{params regs:Int}{v:VInT}(h:v.args.all (bh regs)=false):false=eP params regs v:=by unfold eP;rw[h];simp
theorem vin_bad2{params regs:Int}{v:VInT}(h:(alV v.i.op=false\/v.i.op≠6/\0<(v.args.length:Int))\/6<(v.args.length:Int)):false=eP params regs v:=by
 unfold eP;rcases h with(h|⟨h,E⟩)|h
 ·rw[h];simp
 ·rw[decide_eq_false (p:=v.i.op=6\/v.args.length=0) M];simp
 rw[decide_eq_false (p:=v.args.length<=6) M];simp
theorem vinf_form{op:Int}:(aN op).f=aK op:=by unfold aN aK;split<;>rfl
theorem aZ{r n:Int}:bh r n=true↔0<=n/\n<r:=by unfold bh;exact decide_eq_true_iff
theorem dw{r n:Int}:bh r n=false↔ ¬(0<=n/\n<r):=by unfold bh;exact decide_eq_false_iff_not
theorem bM{nb regs:Int}{b:BlkT}:lL nb regs b=true↔(b.f=1/\0<=b.t/\b.t<nb/\b.e=0/\b.r=0\/b.f=2/\0<=b.t/\b.t<nb/\0<=b.e/\b.e<nb/\0<=b.r/\b.r<regs\/b.f=3/\0<=b.r/\b.r<regs/\b.t=0/\b.e=0\/b.f=4/\1<=b.t/\b.t<33554432/\b.e=0/\b.r=0):=by
 unfold lL
 (repeat' split)<;>(try simp only[a09,aZ,decide_eq_true_eq])<;>first|omega|(simp only[a0P,false_iff];omega)
theorem vin_bad{params regs:Int}{v:VInT}(h:(alV v.i.op=false\/6<(v.args.length:Int))\/(¬v.i.op=6/\0<(v.args.length:Int))):false=eP params regs v:=by
 unfold eP;rcases h with(h|h)|⟨h,E⟩
 ·rw[h];simp
 ·rw[decide_eq_false (p:=v.args.length<=6) M];simp
 rw[decide_eq_false (p:=v.i.op=6\/v.args.length=0) M];simp
theorem imm0{params op n:Int}(h:op=3\/op=9\/op=15\/op=16\/op=10\/(17<=op/\op<=32)\/op=11\/op=12):gU params op n=decide (n=0):=by unfold gU;rw[if_neg M,if_neg M,if_neg M,if_neg M,if_neg M]
def badV(E bv N nv:Bool)(regs a b c n:Int):Bool:=
 ((((((((E&&(!(bh regs a)))||(bv&&(!(bh regs b))))||(N&&(!(bh regs c))))||((!E)&&(a !=0)))||((!bv)&&(b !=0)))||((!N)&&(c !=0)))||((!nv)&&(n !=0))))
theorem bad_eq(av bv dv nv:Bool)(regs a b c n:Int):badV av bv dv nv regs a b c n= !(fE av a regs&&fE bv b regs&&fE dv c regs&&(nv||decide (n=0))):=by
 have aa: ∀n:Int,(n !=0)= !decide (n=0):=fun n=>by by_cases h:n=0<;>simp[h]
 unfold badV fE;rw[aa,aa,aa,aa];generalize decide (a=0)=E;generalize decide (b=0)=N;generalize decide (c=0)=T;generalize decide (n=0)=U;generalize bh regs a=a_;generalize bh regs b=Z;generalize bh regs c=z3;revert av bv dv nv E N T U a_ Z z3;decide
section
variable {params regs:Int} {v:VInT}
theorem imm_form(E:alV v.i.op=true)(h:(decide (aK v.i.op=5\/aK v.i.op=7)||decide (v.i.n=0))=false):gU params v.i.op v.i.n=false:=by rw[a1l,decide_eq_false_iff_not,decide_eq_false_iff_not]at h;rw[imm0 (by have:=bm E;omega)];exact decide_eq_false h.2
theorem m9(T:alV v.i.op=true)(E:v.i.op=6\/v.args.length=0)(U:v.args.length<=6)(N:v.args.all (bh regs)=true):eP params regs v=
  (fE (decide (aK v.i.op≠1)) v.i.a regs&&fE (decide (aK v.i.op=3\/aK v.i.op=4\/aK v.i.op=7)) v.i.b regs&&fE (decide (aK v.i.op=4)) v.i.c regs&&gU params v.i.op v.i.n):=by
 unfold eP
 rw[T,N,decide_eq_true E,decide_eq_true U];simp
theorem vin_bad3(N:alV v.i.op=true)(E:v.i.op=6\/v.args.length=0)(U:v.args.length<=6)(T:v.args.all (bh regs)=true)
  (h:badV (decide (aK v.i.op≠1)) (decide (aK v.i.op=3\/aK v.i.op=4\/aK v.i.op=7)) (decide (aK v.i.op=4)) (decide (aK v.i.op=5\/aK v.i.op=7)) regs v.i.a v.i.b v.i.c v.i.n=true):false=eP params regs v:=by
 rw[m9 N E U T]
 rw[bad_eq,a0G,Bool.and_eq_false_iff]at h
 rcases h with h|h
 ·rw[h];rfl
 rw[imm_form N h,a1O]
theorem vin_good3(U:alV v.i.op=true)(N:v.i.op=6\/v.args.length=0)(Z:v.args.length<=6)(T:v.args.all (bh regs)=true)
  (h:badV (decide (aK v.i.op≠1)) (decide (aK v.i.op=3\/aK v.i.op=4\/aK v.i.op=7)) (decide (aK v.i.op=4)) (decide (aK v.i.op=5\/aK v.i.op=7)) regs v.i.a v.i.b v.i.c v.i.n=false):
  eP params regs v=gU params v.i.op v.i.n/\(aK v.i.op=5\/aK v.i.op=7\/v.i.n=0):=by
 rw[m9 U N Z T]
 rw[bad_eq,a28,a09]at h
 refine⟨by rw[h.1,a1L],?_⟩
 have E:=h.2
 rw[a0A,decide_eq_true_eq,decide_eq_true_eq]at E
 omega
theorem vin_bad3v{T bv U nv:Bool}(Z:alV v.i.op=true)(E:v.i.op=6\/v.args.length=0)(hl:v.args.length<=6)(N:v.args.all (bh regs)=true)(ha:T=decide (aK v.i.op≠1))(hb:bv=decide (aK v.i.op=3\/aK v.i.op=4\/aK v.i.op=7))(hd:U=decide (aK v.i.op=4))(hn:nv=decide (aK v.i.op=5\/aK v.i.op=7))
  (h:badV T bv U nv regs v.i.a v.i.b v.i.c v.i.n=true):false=eP params regs v:=by subst ha hb hd hn;exact vin_bad3 Z E hl N h
theorem vin_good3v{T bv U nv:Bool}(Z:alV v.i.op=true)(E:v.i.op=6\/v.args.length=0)(hl:v.args.length<=6)(N:v.args.all (bh regs)=true)(ha:T=decide (aK v.i.op≠1))(hb:bv=decide (aK v.i.op=3\/aK v.i.op=4\/aK v.i.op=7))(hd:U=decide (aK v.i.op=4))(hn:nv=decide (aK v.i.op=5\/aK v.i.op=7))
  (h:badV T bv U nv regs v.i.a v.i.b v.i.c v.i.n=false):eP params regs v=gU params v.i.op v.i.n/\(aK v.i.op=5\/aK v.i.op=7\/v.i.n=0):=by subst ha hb hd hn;exact vin_good3 Z E hl N h
theorem dL(Z:alV v.i.op=true)(hn:aK v.i.op=5\/aK v.i.op=7\/v.i.n=0)(E: ¬v.i.op=33)(N: ¬v.i.op=6)(T: ¬(v.i.op=34\/v.i.op=35))(U: ¬v.i.op=38):gU params v.i.op v.i.n=true:=by
 unfold gU;rw[if_neg E,if_neg N,if_neg T,if_neg U];split
 ·rfl
 have:=bm Z;exact decide_eq_true M
theorem refbad_eq:((!(fE ((aN v.i.op).f !=1) v.i.a regs))||(!(fE ((((aN v.i.op).f==3)||((aN v.i.op).f==4))||((aN v.i.op).f==7)) v.i.b regs))||(!(fE ((aN v.i.op).f==4) v.i.c regs)))=
  !(fE (decide (aK v.i.op≠1)) v.i.a regs&&fE (decide (aK v.i.op=3\/aK v.i.op=4\/aK v.i.op=7)) v.i.b regs&&fE (decide (aK v.i.op=4)) v.i.c regs):=by
 rw[vinf_form]
 have E:(aK v.i.op !=1)=decide (aK v.i.op≠1):=by by_cases h:aK v.i.op=1<;>simp[h]
 have N:(((aK v.i.op==3)||(aK v.i.op==4))||(aK v.i.op==7))=decide (aK v.i.op=3\/aK v.i.op=4\/aK v.i.op=7):=by rw[a0s];simp[or_assoc]
 have T:(aK v.i.op==4)=decide (aK v.i.op=4):=by by_cases h:aK v.i.op=4<;>simp[h]
 rw[E,N,T,Bool.not_and,Bool.not_and]
theorem vin_rbad(T:alV v.i.op=true)(E:v.i.op=6\/v.args.length=0)(U:v.args.length<=6)(N:v.args.all (bh regs)=true)
  (h:((!(fE ((aN v.i.op).f !=1) v.i.a regs))||(!(fE ((((aN v.i.op).f==3)||((aN v.i.op).f==4))||((aN v.i.op).f==7)) v.i.b regs))||(!(fE ((aN v.i.op).f==4) v.i.c regs)))=true):false=eP params regs v:=by
 rw[refbad_eq,a0G]at h
 rw[m9 T E U N,h];rfl
theorem vin_rgood(T:alV v.i.op=true)(E:v.i.op=6\/v.args.length=0)(U:v.args.length<=6)(N:v.args.all (bh regs)=true)
  (h:((!(fE ((aN v.i.op).f !=1) v.i.a regs))||(!(fE ((((aN v.i.op).f==3)||((aN v.i.op).f==4))||((aN v.i.op).f==7)) v.i.b regs))||(!(fE ((aN v.i.op).f==4) v.i.c regs)))=false):eP params regs v=gU params v.i.op v.i.n:=by
 rw[refbad_eq,a28]at h
 rw[m9 T E U N,h,a1L]
end
theorem blk_no{params regs nb:Int}{b:BlkT}(h:b.v.all (eP params regs)=false):jM params regs nb b=false:=by unfold jM;rw[h,a1Y]
theorem gy{params regs nb:Int}{b:BlkT}(h:lL nb regs b=false):jM params regs nb b=false:=by unfold jM;rw[h,a1O]
theorem ju{params regs nb:Int}{b:BlkT}(h:b.v.all (eP params regs)=true)(E:lL nb regs b=true):jM params regs nb b=true:=by unfold jM;rw[h,E];rfl
theorem jx{c:VFnT}(h:c.u.all (jM c.m c.r c.u.length)=false):false=ca c:=by unfold ca;rw[h,a1O]
theorem val_lim{c:VFnT}(h: ¬(0<=c.m/\c.m<=6/\0<=c.r/\c.r<=3000/\1<=c.u.length/\c.u.length<=1000)):false=ca c:=by unfold ca;rw[decide_eq_false h,a1Y]
theorem val_yes{c:VFnT}(h:0<=c.m/\c.m<=6/\0<=c.r/\c.r<=3000/\1<=c.u.length/\c.u.length<=1000)(E:c.u.all (jM c.m c.r c.u.length)=true):true=ca c:=by unfold ca;rw[decide_eq_true h,E];rfl
end m2
open m2
namespace m3
variable (ex:FuncId) {F:Fz} {H:Heap} {R:List Fp}
theorem cBlk_c(n:Int){E:Option Addr}{N:Nat}{Z:Nat}(c:VFnT)(H:Heap)(hn:in64 n)(aa:HC H.get Z 0 [(iI c.m),(iI c.r),(sL E c.u.length N)])(T:in64 c.m)(U:in64 c.r):kKt ex 109 [(iI n),(pT Z 0)] H fun v H'=> ∃(r:Bool),H'=H/\v= .bool r/\r=bh (c.u.length:Int) n:=by refine aC Tryz.func109 V V (am 1 V (wT 2 [] 3 3 [] [(3,(.bool false))] V fun _=>wrp 1 3 12 [] [(3,(.bool ((decide ((0:Int)<=n))&&(decide (n<(c.u.length:Int))))))] (be 5 (fun _=>(ql 34 2 aa V V)) Hn_) V V fun _=>aj ⟨.inr V,_,V,((decide ((0:Int)<=n))&&(decide (n<(c.u.length:Int)))),V,V,(by rw[a0s,aZ];simp)⟩))
theorem nR(n:Int){E:Option Addr}{U:Nat}{Z:Nat}(c:VFnT)(H:Heap)(hn:in64 n)(aa:HC H.get Z 0 [(iI c.m),(iI c.r),(sL E c.u.length U)])(N:in64 c.m)(T:in64 c.r):kKt ex 109 [(iI n),(pT Z 0)] H fun v H'=>v=(.bool (bh (c.u.length:Int) n))/\H'=H:=
 cq (cBlk_c ex n c H hn aa N T) (by rintro _ _ ⟨_,rfl,rfl,rfl⟩;exact⟨V,V⟩)
theorem cReg_c(n:Int){E:Option Addr}{N:Nat}{Z:Nat}(c:VFnT)(H:Heap)(hn:in64 n)(aa:HC H.get Z 0 [(iI c.m),(iI c.r),(sL E c.u.length N)])(T:in64 c.m)(U:in64 c.r):kKt ex 110 [(iI n),(pT Z 0)] H fun v H'=> ∃(r:Bool),H'=H/\v= .bool r/\r=bh c.r n:=by refine aC Tryz.func110 V V (am 1 V (wT 2 [] 3 3 [] [(3,(.bool false))] V fun _=>wrp 1 3 11 [] [(3,(.bool ((decide ((0:Int)<=n))&&(decide (n<c.r)))))] (be 5 (fun _=>(ql 3 1 aa V V)) Hn_) V V fun _=>aj ⟨.inr V,_,V,((decide ((0:Int)<=n))&&(decide (n<c.r))),V,V,(by rw[a0s,aZ];simp)⟩))
theorem cReg_c_q(n:Int){E:Option Addr}{U:Nat}{Z:Nat}(c:VFnT)(H:Heap)(hn:in64 n)(aa:HC H.get Z 0 [(iI c.m),(iI c.r),(sL E c.u.length U)])(N:in64 c.m)(T:in64 c.r):kKt ex 110 [(iI n),(pT Z 0)] H fun v H'=>v=(.bool (bh c.r n))/\H'=H:=
 cq (cReg_c ex n c H hn aa N T) (by rintro _ _ ⟨_,rfl,rfl,rfl⟩;exact⟨V,V⟩)
theorem cRegI_c(n:Int){E:Option Addr}{N:Nat}{Z:Nat}(c:VFnT)(H:Heap)(hn:in64 n)(aa:HC H.get Z 0 [(iI c.m),(iI c.r),(sL E c.u.length N)])(T:in64 c.m)(U:in64 c.r):kKt ex 137 [(iI n),(pT Z 0)] H fun v H'=> ∃(r:Bool),H'=H/\v= .bool r/\r=bh c.r n:=by refine aC Tryz.func137 V V (am 1 V (wT 2 [] 3 3 [] [(3,(.bool false))] V fun _=>wrp 1 3 11 [] [(3,(.bool ((decide ((0:Int)<=n))&&(decide (n<c.r)))))] (be 5 (fun _=>(ql 3 1 aa V V)) Hn_) V V fun _=>aj ⟨.inr V,_,V,((decide ((0:Int)<=n))&&(decide (n<c.r))),V,V,(by rw[a0s,aZ];simp)⟩))
theorem iV(n:Int){E:Option Addr}{U:Nat}{Z:Nat}(c:VFnT)(H:Heap)(hn:in64 n)(aa:HC H.get Z 0 [(iI c.m),(iI c.r),(sL E c.u.length U)])(N:in64 c.m)(T:in64 c.r):kKt ex 137 [(iI n),(pT Z 0)] H fun v H'=>v=(.bool (bh c.r n))/\H'=H:=
 cq (cRegI_c ex n c H hn aa N T) (by rintro _ _ ⟨_,rfl,rfl,rfl⟩;exact⟨V,V⟩)
theorem vform_c(op:Int)(hs:HS (.of H []) F H [] R)(ag:in64 op)(hT:TB 37 tabC F):kKt ex 138 [(iI op)] H fun v H'=> ∃(r:Int) (F':Fz),Fz.le F F'/\HS (.of H []) F' H' [] R/\v=iI r/\r=aK op:=by
 refine aC Tryz.func138 V V (am 1 V (wT 3 [] 2 2 [] [(2,(iI 0))] V fun _=>wT 1 [] 5 6 [] [(6,(.bool (op==38)))] V fun _=>zI 1 2 (fun c3=>?_) fun c3=>?_))
 ·refine wT 1 [] 2 2 [] [(2,(iI 5))] V fun _=>aj ⟨.inr V,_,V,5,_,fR,(HS.forget hs),V,(by unfold aK;split<;>first|rfl|omega)⟩
 refine ab (zm (iI op) (zc (m1.ic ex op (HS.call hs) M hT) ?_));rintro _ H5 ⟨x5,o5,F5,T,E,rfl,U,a_,rfl,rfl⟩;replace E:=HS.back hs V E;refine bL 3 2 10 11 [7] [(10,(aG [(tX (aE op).name.b),(iI (aE op).f),(.bool (aE op).ra),(.bool (aE op).wa),(.bool (aE op).rb),(.bool (aE op).mt),(iI (aE op).w)])),(11,(.bool (infO op)))] Hn_ (by kernel_rfl) V fun _=>zn E V fun b7 H8 Z=>sgo 2 6 1 0 [4] [] (Hr_ 6 0 Hn_) Z V V fun aa H9 N=>ah 2 V (aU 1 12 13 [2] [(2,(iI (aE op).f))] (Hr_ 1 0 Hn_) N V V fun _=>aj ⟨.inr V,_,V,(aE op).f,_,(T),(HS.forget N),V,(by unfold aK;split<;>first|rfl|omega)⟩)
theorem rinfo_c(op:Int)(hs:HS (.of H []) F H [] R)(al:in64 op)(hT:TB 37 tabC F):kKt ex 108 [(iI op)] H fun v H'=> ∃(x:InfT) (F':Fz),Fz.le F F'/\HS (.of H []) F' H' [] R/\v= .agg ⟨[tX x.name.b,iI x.f,.bool x.ra,.bool x.wa,.bool x.rb,.bool x.mt,iI x.w]⟩/\in64 x.f/\in64 x.w/\x=aN op:=by
 refine aC Tryz.func108 V V (am 1 V (ab (zn hs V fun b1 H2 N=>ah 3 V (wT 1 [] 5 6 [] [(6,(.bool (op==38)))] V fun _=>?_))));refine zI 1 2 (fun c4=>?_) fun c4=>?_
 ·refine sgr 1 7 7 [] [] (Hr_ 1 0 Hn_) N V V fun aw H5 U=>aj ⟨.inr V,_,(rC V (ldVN V V (h_ U V) V) rN),(⟨⟨[]⟩,5,false,true,false,false,0⟩:InfT),_,fR,(HS.forget U),V,M,M,(by unfold aN;split<;>first|rfl|omega)⟩
 refine ab (zm (iI op) (zc (m1.rInfo_c ex op (HS.call N) M hT) ?_));rintro _ H6 ⟨x6,o6,F6,Z,T,rfl,aa,ag,rfl,rfl⟩;replace T:=HS.back N V T;refine bL 3 2 11 12 [8] [(11,(aG [(tX (aE op).name.b),(iI (aE op).f),(.bool (aE op).ra),(.bool (aE op).wa),(.bool (aE op).rb),(.bool (aE op).mt),(iI (aE op).w)])),(12,(.bool (infO op)))] Hn_ (by kernel_rfl) V fun _=>zn T V fun b8 H9 an=>sgo 2 6 1 0 [4] [] (Hr_ 6 1 Hn_) an V V fun ap ar a_=>ah 2 V (sgr 1 13 13 [] [] (Hr_ 0 1 (Hr_ 1 0 Hn_)) a_ V V fun aq av E=>aj ⟨.inr V,_,(rC V (ldVN V V (h_ E V) V) rN),(⟨⟨(aE op).name.b⟩,(aE op).f,(aE op).ra,(aE op).wa,(aE op).rb,(aE op).mt,(aE op).w⟩:InfT),_,(Z),(HS.forget E),V,M,M,(by unfold aN;split<;>first|rfl|omega)⟩)
theorem rOperand_c(N:Bool)(n:Int)(regs:Int)(H:Heap)(U:in64 n)(T:in64 regs):kKt ex 134 [(.bool N),(iI n),(iI regs)] H fun v H'=> ∃(r:Bool),H'=H/\v= .bool r/\r=fE N n regs:=by
 refine aC Tryz.func134 V V (am 1 V (wT 3 [] 6 6 [] [(6,(.bool false))] V fun _=>wT 1 [] 7 7 [] [(7,(.bool N))] V fun _=>zi 1 2 (fun E=>?_) fun E=>?_))
 ·have c3:=E;try simp only[BS]at c3
  refine wT 1 [] 8 14 [6] [(6,(.bool ((decide ((0:Int)<=n))&&(decide (n<regs)))))] V fun _=>aj ⟨.inr V,_,V,((decide ((0:Int)<=n))&&(decide (n<regs))),V,V,(by rw[a0s];unfold fE;simp[aZ,E])⟩
 refine wT 1 [] 15 16 [6] [(6,(.bool (n==0)))] V fun _=>aj ⟨.inr V,_,V,(n==0),V,V,(by rw[a0s];unfold fE;simp[aZ,E])⟩
theorem gn(E:Bool)(n:Int)(regs:Int)(H:Heap)(T:in64 n)(N:in64 regs):kKt ex 134 [(.bool E),(iI n),(iI regs)] H fun v H'=>v=(.bool (fE E n regs))/\H'=H:=
 cq (rOperand_c ex E n regs H T N) (by rintro _ _ ⟨_,rfl,rfl,rfl⟩;exact⟨V,V⟩)
theorem vinstr_c{ay:Option Addr}{a1:Nat}(c:VFnT){an:Option Addr}{ar:Nat}(iv:VInT)(hs:HS (.of H []) F H [] R)(ez:in64 c.m)(e0:in64 c.r)(e1:SR F (sL ay c.u.length a1) c.u)(dl:in64 iv.i.op)(dn:in64 iv.i.a)(ds:in64 iv.i.b)(dt:in64 iv.i.c)(d1:in64 iv.i.n)(Z:SR F (sL an iv.args.length ar) iv.args)(hT:TB 37 tabC F):kKt ex 111 [(aG [(iI c.m),(iI c.r),(sL ay c.u.length a1)]),(aG [(iI iv.i.op),(iI iv.i.a),(iI iv.i.b),(iI iv.i.c),(iI iv.i.n),(sL an iv.args.length ar)])] H fun v H'=> ∃(r:Bool) (F':Fz),Fz.le F F'/\HS (.of H []) F' H' [] R/\v= .bool r/\r=eP c.m c.r iv:=by
 refine aC Tryz.func111 V V (am 1 V (ab (bd (aR hs V V) V V ?_)));rintro _ H2 _ ⟨b1,rfl,dd,_⟩;refine bd (aR dd V V) V V ?_;rintro _ H4 _ ⟨b3,rfl,bl,_⟩;let ax:Value:=iI iv.i.op;refine za (.bool false) (ah 2 V (ab (aY 2 0 13 14 [] [(14,(aG [ax,(iI iv.i.a),(iI iv.i.b),(iI iv.i.c),(iI iv.i.n)]))] (Hr_ 1 1 Hn_) bl V V fun _=>zn bl V fun b6 H7 dk=>sgo 1 3 1 0 [] [] (Hr_ 3 2 Hn_) dk V V fun fd H8 ag=>?_)));refine ah 3 V (aU 1 15 35 [] [(35,(.bool (((!(alV iv.i.op))||(decide ((6:Int)<(iv.args.length:Int))))||((iv.i.op !=6)&&(decide ((0:Int)<(iv.args.length:Int)))))))] (Hr_ 1 2 (Hc_ 2 (m1.ng ex iv.i.op H8) (be 6 (fun _=>(ql 22 5 (i_ ag V) V V)) (be 12 (fun _=>(ql 3 0 (j_ ag V) V V)) (jv 16 (fun _ _=>(ql 22 5 (i_ ag V) V V)) Hn_))))) ag V V fun _=>zI 1 2 (fun a3=>?_) fun a3=>?_)
 ·have em:=a3;refine wT 1 [] 4 4 [] [(4,(.bool false))] V fun _=>aj ⟨.inr V,_,V,false,_,fR,(HS.forget ag),V,(vin_bad em)⟩
 have aa:alV iv.i.op=true:=(a3).1.1;have h6:iv.i.op=6\/iv.args.length=0:=M
 have bk:iv.args.length<=6:=M
 let a9:Value:=sL an iv.args.length ar;refine wT 3 [] 36 36 [6] [(6,(.func (.func 137) #[] #[(pT b1 0)]))] V fun _=>aU 2 37 40 [] [(38,a9),(39,(iI (iv.args.length:Int))),(40,(iI 0))] (Hr_ 1 1 Hn_) ag V V fun _=>ak (fun(mm:Nat) f H'=> ∃(k:Nat) (F':Fz),Fz.le F F'/\HS (Base.of H []) F' H' [(fP b1 [(iI c.m),(iI c.r),(sL ay c.u.length a1)]),(fP b3 [ax,(iI iv.i.a),(iI iv.i.b),(iI iv.i.c),(iI iv.i.n),a9]),(fP b6 [ax,(iI iv.i.a),(iI iv.i.b),(iI iv.i.c),(iI iv.i.n)])] R/\aB f [(2,(pT b1 0)),(5,(pT b6 0)),(6,(.func (.func 137) #[] #[(pT b1 0)])),(38,a9),(39,(iI (iv.args.length:Int))),(40,(iI (k:Int)))]/\mm=iv.args.length-k/\(k<=iv.args.length)/\(∀j,j<k->bh c.r (iv.args.getD j v_)=true)) _ ⟨0,_,fR,ag,⟨V,V,V,V,V,V,trivial⟩,V,M,(cT)⟩ ?_
 rintro e2 e5 b4 ⟨k,e3,N,T,a5,rfl,hk,ha⟩ b2;refine au _ a5 (fun _=>?_);clear a5;replace hT:=hT.mono N;replace Z:=Z.mono N;refine am 1 V (wT 2 [] 41 41 [] [(41,(.bool (decide ((k:Int)<(iv.args.length:Int)))))] V fun _=>zd 4 5 (fun b5=>?_) fun b5=>?_)
 ·obtain⟨et,a8⟩:=Sv.view (SR.sv Z T);have e8:=fI (a8 k);refine wrp 2 42 43 [8] [(8,(iI (iv.args.getD k 0)))] (Ha_ (Sv.ix (j:=(k:Int)) (SR.sv Z T)) (Hl_ 1 (ql 3 0 (vI (a8 k)) V V) Hn_)) (by kernel_rfl) V fun _=>wU 1 [(2,.o (.bool (bh (⟨c.m,c.r,c.u⟩:VFnT).r (iv.args.getD k 0))))] 44 47 [] [(47,(.bool (!(bh (⟨c.m,c.r,c.u⟩:VFnT).r (iv.args.getD k 0)))))] (iV ex (iv.args.getD k 0) (⟨c.m,c.r,c.u⟩:VFnT) b4 M (h_ T V) M M) V fun _=>zI 1 2 (fun bb=>?_) fun bb=>?_
  ·have c8:=bb;refine wT 1 [] 4 4 [] [(4,(.bool false))] V fun _=>aj ⟨.inr V,_,V,false,_,(N),(HS.forget T),V,(vin_no (cH M c8))⟩
  refine wU 1 [] 40 40 [48] [(40,(iI ((k:Int)+1)))] (vi (n:=(k:Int)+1)) V fun _=>?_
  refine b2 _ _ _ ?_ ⟨k+1,_,(N),T,⟨V,V,V,V,V,V,trivial⟩,V,M,(bR ha X)⟩;omega
 have a6:=dQ ha M;refine wT 3 [] 1 0 [9,10,11,12] [(9,(.bool false)),(10,(.bool false)),(11,(.bool false)),(12,(.bool false))] V fun _=>ab (aY 2 0 49 50 [] [(50,ax)] (Hr_ 1 2 Hn_) T V V fun _=>zc (vform_c ex iv.i.op (HS.call T) M hT) ?_)
 rintro _ aw ⟨fi,e4,U,E,rfl,rfl⟩;replace E:=HS.back T V E;refine ah 3 V (wT 1 [] 52 53 [] [(52,(.bool (aK iv.i.op==2)))] V fun _=>bj (fun f H'=> ∃(av:Bool) (bv:Bool) (dv:Bool) (nv:Bool),H'=aw/\aB f [(2,(pT b1 0)),(5,(pT b6 0)),(6,(.func (.func 137) #[] #[(pT b1 0)])),(9,(.bool av)),(10,(.bool bv)),(11,(.bool dv)),(12,(.bool nv))]/\(av=decide (aK iv.i.op≠1))/\(bv=decide (aK iv.i.op=3\/aK iv.i.op=4\/aK iv.i.op=7))/\(dv=decide (aK iv.i.op=4))/\(nv=decide (aK iv.i.op=5\/aK iv.i.op=7))) (fun a_=>?_) ?_)
 ·refine zI 0 1 (fun b7=>?_) fun b7=>?_
  ·refine wT 0 [] 1 0 [9] [(9,(.bool true))] V fun _=>?_
   exact a_ _ _ ⟨true,false,false,false,V,⟨V,V,V,V,V,V,V,trivial⟩,(by(symm;apply decide_eq_true;omega)),(by(symm;apply decide_eq_false;have hf:=bm aa;omega)),(by(symm;apply decide_eq_false;have hf:=bm aa;omega)),(by(symm;apply decide_eq_false;have hf:=bm aa;omega))⟩
  refine wT 1 [] 54 55 [] [(54,(.bool (aK iv.i.op==3)))] V fun _=>zI 0 1 (fun b8=>?_) fun b8=>?_
  ·refine wT 0 [] 1 0 [9,10] [(9,(.bool true)),(10,(.bool true))] V fun _=>?_
   exact a_ _ _ ⟨true,true,false,false,V,⟨V,V,V,V,V,V,V,trivial⟩,(by(symm;apply decide_eq_true;omega)),(by(symm;apply decide_eq_true;omega)),(by(symm;apply decide_eq_false;have hf:=bm aa;omega)),(by(symm;apply decide_eq_false;have hf:=bm aa;omega))⟩
  refine wT 1 [] 56 57 [] [(56,(.bool (aK iv.i.op==4)))] V fun _=>zI 0 1 (fun b9=>?_) fun b9=>?_
  ·refine wT 0 [] 1 0 [9,10,11] [(9,(.bool true)),(10,(.bool true)),(11,(.bool true))] V fun _=>?_
   exact a_ _ _ ⟨true,true,true,false,V,⟨V,V,V,V,V,V,V,trivial⟩,(by(symm;apply decide_eq_true;omega)),(by(symm;apply decide_eq_true;omega)),(by(symm;apply decide_eq_true;omega)),(by(symm;apply decide_eq_false;have hf:=bm aa;omega))⟩
  refine wT 1 [] 58 59 [] [(58,(.bool (aK iv.i.op==5)))] V fun _=>zI 0 1 (fun cc=>?_) fun cc=>?_
  ·refine wT 0 [] 1 0 [9,12] [(9,(.bool true)),(12,(.bool true))] V fun _=>?_
   exact a_ _ _ ⟨true,false,false,true,V,⟨V,V,V,V,V,V,V,trivial⟩,(by(symm;apply decide_eq_true;omega)),(by(symm;apply decide_eq_false;have hf:=bm aa;omega)),(by(symm;apply decide_eq_false;have hf:=bm aa;omega)),(by(symm;apply decide_eq_true;omega))⟩
  refine wT 1 [] 60 61 [] [(60,(.bool (aK iv.i.op==7)))] V fun _=>zI 0 0 (fun cg=>?_) fun cg=>?_
  ·refine wT 0 [] 1 0 [9,10,12] [(9,(.bool true)),(10,(.bool true)),(12,(.bool true))] V fun _=>?_
   exact a_ _ _ ⟨true,true,false,true,V,⟨V,V,V,V,V,V,V,trivial⟩,(by(symm;apply decide_eq_true;omega)),(by(symm;apply decide_eq_true;omega)),(by(symm;apply decide_eq_false;have hf:=bm aa;omega)),(by(symm;apply decide_eq_true;omega))⟩
  exact a_ _ _ ⟨false,false,false,false,V,⟨V,V,V,V,V,V,V,trivial⟩,(by(symm;apply decide_eq_false;have hf:=bm aa;omega)),(by(symm;apply decide_eq_false;have hf:=bm aa;omega)),(by(symm;apply decide_eq_false;have hf:=bm aa;omega)),(by(symm;apply decide_eq_false;have hf:=bm aa;omega))⟩
 skip;rintro e6 aw ⟨av,bv,dv,nv,rfl,a7,hav,hbv,hdv,hnv⟩;refine au _ a7 (fun _=>?_);clear a7;refine am 4 V (wrp 1 62 125 [] [(125,(.bool (((((((av&&(!(bh (⟨c.m,c.r,c.u⟩:VFnT).r iv.i.a)))||(bv&&(!(bh (⟨c.m,c.r,c.u⟩:VFnT).r iv.i.b))))||(dv&&(!(bh (⟨c.m,c.r,c.u⟩:VFnT).r iv.i.c))))||((!av)&&(iv.i.a !=0)))||((!bv)&&(iv.i.b !=0)))||((!dv)&&(iv.i.c !=0)))||((!nv)&&(iv.i.n !=0)))))] (be 4 (fun _=>(ql 3 1 (j_ E V) V V)) (Hc1_ 5 (fun g1=>(iV ex iv.i.a (⟨c.m,c.r,c.u⟩:VFnT) aw (by(try simp only[BS]at g1);omega) (h_ E V) (by(try simp only[BS]at g1);omega) (by(try simp only[BS]at g1);omega))) (jv 13 (fun _ _=>(ql 3 2 (j_ E V) V V)) (Hc2_ 14 (fun g1 g2=>(iV ex iv.i.b (⟨c.m,c.r,c.u⟩:VFnT) aw (by(try simp only[BS]at g1 g2);omega) (h_ E V) (by(try simp only[BS]at g1 g2);omega) (by(try simp only[BS]at g1 g2);omega))) (jv 23 (fun _ _=>(ql 3 3 (j_ E V) V V)) (Hc2_ 24 (fun g1 g2=>(iV ex iv.i.c (⟨c.m,c.r,c.u⟩:VFnT) aw (by(try simp only[BS]at g1 g2);omega) (h_ E V) (by(try simp only[BS]at g1 g2);omega) (by(try simp only[BS]at g1 g2);omega))) (jv 33 (fun _ _=>(ql 3 1 (j_ E V) V V)) (jv 42 (fun _ _=>(ql 3 2 (j_ E V) V V)) (jv 51 (fun _ _=>(ql 3 3 (j_ E V) V V)) (jv 60 (fun _ _=>(ql 2 4 (j_ E V) V V)) Hn_)))))))))) V V fun _=>zi 1 3 (fun ap=>?_) fun ap=>?_)
 ·have ch:=ap;try simp only[BS]at ch
  have c9:=ap;refine wT 1 [] 4 4 [] [(4,(.bool false))] V fun _=>aj ⟨.inr V,_,V,false,_,(fT (N) U),(HS.forget E),V,(vin_bad3v aa h6 bk a6 hav hbv hdv hnv c9)⟩
 have ad:=vin_good3v (params:=c.m) aa h6 bk a6 hav hbv hdv hnv ap;refine aU 3 126 127 [] [(127,ax)] (Hr_ 1 2 Hn_) E V V fun _=>wT 1 [] 128 129 [] [(128,(.bool (iv.i.op==33)))] V fun _=>zI 1 1 (fun ci=>?_) fun ci=>?_
 ·refine aU 1 130 137 [4] [(4,(.bool ((decide ((-4194304:Int)<=iv.i.n))&&(decide (iv.i.n<4194304)))))] (Hr_ 1 2 (be 5 (fun _=>(ql 2 4 (j_ E V) V V)) Hn_)) E V V fun _=>aj ⟨.inr V,_,V,((decide ((-4194304:Int)<=iv.i.n))&&(decide (iv.i.n<4194304))),_,(fT (N) U),(HS.forget E),V,(by rw[ad.1];first|exact(dL aa ad.2 M M M M).symm|(unfold gU;(repeat' split)<;>first|omega|rfl|(rw[a0s]<;>simp)))⟩
 refine wT 1 [] 138 139 [] [(138,(.bool (iv.i.op==6)))] V fun _=>zI 1 2 (fun co=>?_) fun co=>?_
 ·refine aU 1 140 147 [4] [(4,(.bool ((decide ((0:Int)<=iv.i.n))&&(decide (iv.i.n<8)))))] (Hr_ 1 2 (be 5 (fun _=>(ql 2 4 (j_ E V) V V)) Hn_)) E V V fun _=>aj ⟨.inr V,_,V,((decide ((0:Int)<=iv.i.n))&&(decide (iv.i.n<8))),_,(fT (N) U),(HS.forget E),V,(by rw[ad.1];first|exact(dL aa ad.2 M M M M).symm|(unfold gU;(repeat' split)<;>first|omega|rfl|(rw[a0s]<;>simp)))⟩
 refine wT 1 [] 148 149 [] [(148,(.bool (iv.i.op==34)))] V fun _=>zi 1 0 (fun aq=>?_) fun aq=>?_
 ·have a4:=aq;try simp only[BS]at a4
  refine aS 1 (v:=(iv.i.op==34)) V aq V V (aU 1 151 158 [4] [(4,(.bool ((decide ((0:Int)<=iv.i.n))&&(decide (iv.i.n<4)))))] (Hr_ 1 2 (be 5 (fun _=>(ql 2 4 (j_ E V) V V)) Hn_)) E V V fun _=>aj ⟨.inr V,_,V,((decide ((0:Int)<=iv.i.n))&&(decide (iv.i.n<4))),_,(fT (N) U),(HS.forget E),V,(by rw[ad.1];first|exact(dL aa ad.2 M M M M).symm|(unfold gU;(repeat' split)<;>first|omega|rfl|(rw[a0s]<;>simp)))⟩)
 have a4:=aq;try simp only[BS]at a4
 refine wT 1 [] 148 150 [] [(148,(.bool (iv.i.op==35)))] V fun _=>zI 1 1 (fun c5=>?_) fun c5=>?_
 ·refine aU 1 151 158 [4] [(4,(.bool ((decide ((0:Int)<=iv.i.n))&&(decide (iv.i.n<4)))))] (Hr_ 1 2 (be 5 (fun _=>(ql 2 4 (j_ E V) V V)) Hn_)) E V V fun _=>aj ⟨.inr V,_,V,((decide ((0:Int)<=iv.i.n))&&(decide (iv.i.n<4))),_,(fT (N) U),(HS.forget E),V,(by rw[ad.1];first|exact(dL aa ad.2 M M M M).symm|(unfold gU;(repeat' split)<;>first|omega|rfl|(rw[a0s]<;>simp)))⟩
 refine wT 1 [] 159 160 [] [(159,(.bool (iv.i.op==38)))] V fun _=>zI 1 3 (fun c6=>?_) fun c6=>?_
 ·refine aU 1 161 170 [4] [(4,(.bool ((decide ((0:Int)<=iv.i.n))&&(decide (iv.i.n<c.m)))))] (Hr_ 1 2 (be 5 (fun _=>(ql 2 4 (j_ E V) V V)) (be 7 (fun _=>(ql 3 0 (h_ E V) V V)) Hn_))) E V V fun _=>aj ⟨.inr V,_,V,((decide ((0:Int)<=iv.i.n))&&(decide (iv.i.n<c.m))),_,(fT (N) U),(HS.forget E),V,(by rw[ad.1];first|exact(dL aa ad.2 M M M M).symm|(unfold gU;(repeat' split)<;>first|omega|rfl|(rw[a0s]<;>simp)))⟩
 refine wT 1 [] 4 4 [] [(4,(.bool true))] V fun _=>aj ⟨.inr V,_,V,true,_,(fT (N) U),(HS.forget E),V,(by rw[ad.1];first|exact(dL aa ad.2 M M M M).symm|(unfold gU;(repeat' split)<;>first|omega|rfl|(rw[a0s]<;>simp)))⟩
theorem rinstr_c{ag:Option Addr}{aq:Nat}(iv:VInT){av:Option Addr}{ax:Nat}(c:VFnT)(hs:HS (.of H []) F H [] R)(c5:in64 iv.i.op)(c6:in64 iv.i.a)(c7:in64 iv.i.b)(c8:in64 iv.i.c)(c9:in64 iv.i.n)(a_:SR F (sL ag iv.args.length aq) iv.args)(dl:in64 c.m)(dn:in64 c.r)(ds:SR F (sL av c.u.length ax) c.u)(hT:TB 37 tabC F):kKt ex 95 [(aG [(iI iv.i.op),(iI iv.i.a),(iI iv.i.b),(iI iv.i.c),(iI iv.i.n),(sL ag iv.args.length aq)]),(aG [(iI c.m),(iI c.r),(sL av c.u.length ax)])] H fun v H'=> ∃(r:Bool) (F':Fz),Fz.le F F'/\HS (.of H []) F' H' [] R/\v= .bool r/\r=eP c.m c.r iv:=by
 refine aC Tryz.func95 V V (am 1 V (ab (bd (aR hs V V) V V ?_)));rintro _ H2 _ ⟨b1,rfl,ci,_⟩;refine bd (aR ci V V) V V ?_;rintro _ H4 _ ⟨b3,rfl,a5,_⟩;let ar:Value:=iI iv.i.op;refine za (.bool false) (ah 2 V (ab (aY 2 0 10 11 [] [(11,(aG [ar,(iI iv.i.a),(iI iv.i.b),(iI iv.i.c),(iI iv.i.n)]))] (Hr_ 1 0 Hn_) a5 V V fun _=>zn a5 V fun b6 H7 co=>sgo 1 3 1 0 [] [] (Hr_ 3 2 Hn_) co V V fun ez H8 aa=>?_)));refine ah 3 V (aU 1 12 32 [] [(32,(.bool (((!(alV iv.i.op))||((iv.i.op !=6)&&(decide ((0:Int)<(iv.args.length:Int)))))||(decide ((6:Int)<(iv.args.length:Int))))))] (Hr_ 1 2 (Hc_ 2 (m1.ralw_c_q ex iv.i.op H8) (be 6 (fun _=>(ql 3 0 (j_ aa V) V V)) (jv 10 (fun _ _=>(ql 22 5 (h_ aa V) V V)) (be 17 (fun _=>(ql 22 5 (h_ aa V) V V)) Hn_))))) aa V V fun _=>zI 1 3 (fun aA=>?_) fun aA=>?_)
 ·have dd:=aA;refine wT 1 [] 4 4 [] [(4,(.bool false))] V fun _=>aj ⟨.inr V,_,V,false,_,fR,(HS.forget aa),V,(vin_bad2 dd)⟩
 have ai:alV iv.i.op=true:=(aA).1.1;have h6:iv.i.op=6\/iv.args.length=0:=M
 have a4:iv.args.length<=6:=M
 refine wT 2 [] 1 0 [6] [(6,(iI 0))] V fun _=>ak (fun(mm:Nat) f H'=> ∃(k:Nat) (F':Fz),Fz.le F F'/\HS (Base.of H []) F' H' [(fP b1 [ar,(iI iv.i.a),(iI iv.i.b),(iI iv.i.c),(iI iv.i.n),(sL ag iv.args.length aq)]),(fP b3 [(iI c.m),(iI c.r),(sL av c.u.length ax)]),(fP b6 [ar,(iI iv.i.a),(iI iv.i.b),(iI iv.i.c),(iI iv.i.n)])] R/\aB f [(2,(pT b1 0)),(3,(pT b3 0)),(5,(pT b6 0)),(6,(iI (k:Int)))]/\mm=iv.args.length-k/\(k<=iv.args.length)/\(∀j,j<k->bh c.r (iv.args.getD j v_)=true)) _ ⟨0,_,fR,aa,⟨V,V,V,V,trivial⟩,V,M,(cT)⟩ ?_
 rintro dt ef d2 ⟨k,dv,N,T,a2,rfl,hk,ha⟩ a7;refine au _ a2 (fun _=>?_);clear a2;replace hT:=hT.mono N;replace a_:=a_.mono N;refine am 2 V (aU 1 33 37 [] [(37,(.bool (decide ((k:Int)<(iv.args.length:Int)))))] (Hr_ 2 0 Hn_) T V V fun _=>zd 4 5 (fun bz=>?_) fun bz=>?_)
 ·obtain⟨dk,aw⟩:=Sv.view (SR.sv a_ T);have et:=fI (aw k);refine sdr0 1 40 55 [] [(55,(.bool ((decide ((iv.args.getD k 0)<0))||(decide (c.r<=(iv.args.getD k 0))))))] (Hr_ 1 0 (Ha_ (Sv.ix (j:=(k:Int)) (SR.sv a_ T)) (Hl_ 4 (ql 3 0 (hc0 (vI (aw k))) V V) (be 8 (fun _=>(ql 22 5 (hc0 (h_ T V)) V V)) (Ha_ (fun(Z:(decide ((iv.args.getD k 0)<0))=false)=>(Sv.ix (j:=(k:Int)) (SR.sv a_ T) (by(try simp only[BS]at Z);omega) (by(try simp only[BS]at Z);omega))) (be 11 (fun Z=>(ql 3 0 (hc0 (vI (aw k) (by(try simp only[BS]at Z);omega))) V V)) (be 13 (fun _=>(ql 3 1 (hc0 (i_ T V)) V V)) Hn_))))))) T V V V fun _=>zI 1 2 (fun b2=>?_) fun b2=>?_
  ·refine wT 1 [] 4 4 [] [(4,(.bool false))] V fun _=>aj ⟨.inr V,_,V,false,_,(N),(HS.forget T),V,(vin_no (cH (k:=k) M (dw.2 (show ¬(0<=iv.args.getD k 0/\iv.args.getD k 0<c.r) by omega))))⟩
  refine wU 1 [] 38 39 [6] [(6,(iI ((k:Int)+1)))] (vi (n:=(k:Int)+1)) V fun _=>?_
  refine a7 _ _ _ ?_ ⟨k+1,_,(N),T,⟨V,V,V,V,trivial⟩,V,M,(bR ha (aZ.2 (show 0<=iv.args.getD k 0/\iv.args.getD k 0<c.r by omega)))⟩;omega
 have ao:=dQ ha M;refine ab (aY 2 0 56 57 [] [(57,ar)] (Hr_ 1 2 Hn_) T V V fun _=>zc (rinfo_c ex iv.i.op (HS.call T) M hT) ?_);rintro _ ay ⟨e0,d1,U,E,rfl,a8,a9,rfl⟩;replace E:=HS.back T V E;let a3:=(((aN iv.i.op).f==3)||((aN iv.i.op).f==4))||((aN iv.i.op).f==7)
 refine bL 2 3 59 59 [7] [(7,(iI (aN iv.i.op).f))] Hn_ (by kernel_rfl) V fun _=>ah 2 V (wT 2 [] 60 61 [8] [(8,(.bool ((aN iv.i.op).f !=1)))] V fun _=>wT 3 [] 62 71 [9] [(9,(.bool a3))] V fun _=>aU 1 72 97 [] [(97,(.bool (((!(fE ((aN iv.i.op).f !=1) iv.i.a c.r))||(!(fE a3 iv.i.b c.r)))||(!(fE ((aN iv.i.op).f==4) iv.i.c c.r)))))] (Hr_ 2 2 (Hr_ 4 1 (Hc_ 5 (gn ex ((aN iv.i.op).f !=1) iv.i.a c.r ay M M) (be 10 (fun _=>(ql 3 2 (j_ E V) V V)) (be 12 (fun _=>(ql 3 1 (i_ E V) V V)) (Hc1_ 13 (fun Z=>(gn ex a3 iv.i.b c.r ay (by(try simp only[BS]at Z);omega) (by(try simp only[BS]at Z);omega))) (be 20 (fun _=>(ql 3 3 (j_ E V) V V)) (be 22 (fun _=>(ql 3 1 (i_ E V) V V)) (Hc1_ 23 (fun Z=>(gn ex ((aN iv.i.op).f==4) iv.i.c c.r ay (by(try simp only[BS]at Z);omega) (by(try simp only[BS]at Z);omega))) Hn_))))))))) E V V fun _=>zi 1 3 (fun an=>?_) fun an=>?_)
 ·have b4:=an;try simp only[BS]at b4
  have ch:=an;refine wT 1 [] 4 4 [] [(4,(.bool false))] V fun _=>aj ⟨.inr V,_,V,false,_,(fT (N) U),(HS.forget E),V,(vin_rbad ai h6 a4 ao ch)⟩
 have ad:=vin_rgood (params:=c.m) ai h6 a4 ao an;refine aU 3 98 99 [] [(99,ar)] (Hr_ 1 2 Hn_) E V V fun _=>wT 1 [] 100 101 [] [(100,(.bool (iv.i.op==13)))] V fun _=>zI 1 1 (fun b5=>?_) fun b5=>?_
 ·refine wT 1 [] 4 4 [] [(4,(.bool true))] V fun _=>aj ⟨.inr V,_,V,true,_,(fT (N) U),(HS.forget E),V,(by rw[ad]<;>(first|exact(dL ai ad.2 M M M M).symm|(unfold gU;(repeat' split)<;>first|omega|rfl|(rw[a0s]<;>simp))))⟩
 refine wT 1 [] 102 103 [] [(102,(.bool (iv.i.op==33)))] V fun _=>zI 1 1 (fun b7=>?_) fun b7=>?_
 ·refine aU 1 104 111 [4] [(4,(.bool ((decide ((-4194304:Int)<=iv.i.n))&&(decide (iv.i.n<4194304)))))] (Hr_ 1 2 (be 5 (fun _=>(ql 2 4 (j_ E V) V V)) Hn_)) E V V fun _=>aj ⟨.inr V,_,V,((decide ((-4194304:Int)<=iv.i.n))&&(decide (iv.i.n<4194304))),_,(fT (N) U),(HS.forget E),V,(by rw[ad]<;>(first|exact(dL ai ad.2 M M M M).symm|(unfold gU;(repeat' split)<;>first|omega|rfl|(rw[a0s]<;>simp))))⟩
 refine wT 1 [] 112 113 [] [(112,(.bool (iv.i.op==6)))] V fun _=>zI 1 2 (fun b8=>?_) fun b8=>?_
 ·refine aU 1 114 121 [4] [(4,(.bool ((decide ((0:Int)<=iv.i.n))&&(decide (iv.i.n<8)))))] (Hr_ 1 2 (be 5 (fun _=>(ql 2 4 (j_ E V) V V)) Hn_)) E V V fun _=>aj ⟨.inr V,_,V,((decide ((0:Int)<=iv.i.n))&&(decide (iv.i.n<8))),_,(fT (N) U),(HS.forget E),V,(by rw[ad]<;>(first|exact(dL ai ad.2 M M M M).symm|(unfold gU;(repeat' split)<;>first|omega|rfl|(rw[a0s]<;>simp))))⟩
 refine wT 1 [] 122 123 [] [(122,(.bool (iv.i.op==34)))] V fun _=>zi 1 0 (fun ap=>?_) fun ap=>?_
 ·have a1:=ap;try simp only[BS]at a1
  refine aS 1 (v:=(iv.i.op==34)) V ap V V (aU 1 125 132 [4] [(4,(.bool ((decide ((0:Int)<=iv.i.n))&&(decide (iv.i.n<4)))))] (Hr_ 1 2 (be 5 (fun _=>(ql 2 4 (j_ E V) V V)) Hn_)) E V V fun _=>aj ⟨.inr V,_,V,((decide ((0:Int)<=iv.i.n))&&(decide (iv.i.n<4))),_,(fT (N) U),(HS.forget E),V,(by rw[ad]<;>(first|exact(dL ai ad.2 M M M M).symm|(unfold gU;(repeat' split)<;>first|omega|rfl|(rw[a0s]<;>simp))))⟩)
 have a1:=ap;try simp only[BS]at a1
 refine wT 1 [] 122 124 [] [(122,(.bool (iv.i.op==35)))] V fun _=>zI 1 1 (fun b9=>?_) fun b9=>?_
 ·refine aU 1 125 132 [4] [(4,(.bool ((decide ((0:Int)<=iv.i.n))&&(decide (iv.i.n<4)))))] (Hr_ 1 2 (be 5 (fun _=>(ql 2 4 (j_ E V) V V)) Hn_)) E V V fun _=>aj ⟨.inr V,_,V,((decide ((0:Int)<=iv.i.n))&&(decide (iv.i.n<4))),_,(fT (N) U),(HS.forget E),V,(by rw[ad]<;>(first|exact(dL ai ad.2 M M M M).symm|(unfold gU;(repeat' split)<;>first|omega|rfl|(rw[a0s]<;>simp))))⟩
 refine wT 1 [] 133 134 [] [(133,(.bool (iv.i.op==38)))] V fun _=>zI 1 3 (fun cc=>?_) fun cc=>?_
 ·refine aU 1 135 144 [4] [(4,(.bool ((decide ((0:Int)<=iv.i.n))&&(decide (iv.i.n<c.m)))))] (Hr_ 1 2 (be 5 (fun _=>(ql 2 4 (j_ E V) V V)) (be 7 (fun _=>(ql 3 0 (i_ E V) V V)) Hn_))) E V V fun _=>aj ⟨.inr V,_,V,((decide ((0:Int)<=iv.i.n))&&(decide (iv.i.n<c.m))),_,(fT (N) U),(HS.forget E),V,(by rw[ad]<;>(first|exact(dL ai ad.2 M M M M).symm|(unfold gU;(repeat' split)<;>first|omega|rfl|(rw[a0s]<;>simp))))⟩
 refine aU 1 145 147 [4] [(4,(.bool (iv.i.n==0)))] (Hr_ 1 2 Hn_) E V V fun _=>aj ⟨.inr V,_,V,(iv.i.n==0),_,(fT (N) U),(HS.forget E),V,(by rw[ad]<;>(first|exact(dL ai ad.2 M M M M).symm|(unfold gU;(repeat' split)<;>first|omega|rfl|(rw[a0s]<;>simp))))⟩
theorem rEnd_c{U:Option Addr}{Z:Nat}(b:BlkT){a_:Option Addr}{aa:Nat}(c:VFnT)(hs:HS (.of H []) F H [] R)(av:SR F (sL U b.v.length Z) b.v)(aw:in64 b.f)(ax:in64 b.r)(ay:in64 b.t)(aA:in64 b.e)(a1:in64 c.m)(a2:in64 c.r)(a3:SR F (sL a_ c.u.length aa) c.u)(hT:TB 37 tabC F):kKt ex 94 [(aG [(sL U b.v.length Z),(iI b.f),(iI b.r),(iI b.t),(iI b.e)]),(aG [(iI c.m),(iI c.r),(sL a_ c.u.length aa)])] H fun v H'=> ∃(r:Bool) (F':Fz),Fz.le F F'/\HS (.of H []) F' H' [] R/\v= .bool r/\r=lL (c.u.length:Int) c.r b:=by
 refine aC Tryz.func94 V V (am 1 V (ab (bd (aR hs V V) V V ?_)));rintro _ H2 _ ⟨b1,rfl,aq,_⟩;refine bd (aR aq V V) V V ?_;rintro _ H4 _ ⟨b3,rfl,E,_⟩;let N:=(0:Int)<=b.r;let T:=b.r<c.r;refine za (.bool false) (ah 2 V (aU 2 9 11 [5] [(5,(iI (c.u.length:Int)))] (Hr_ 1 1 Hn_) E V V fun _=>sdr0 3 12 39 [6,7,8] [(6,(.bool ((decide ((0:Int)<=b.t))&&(decide (b.t<(c.u.length:Int)))))),(7,(.bool ((decide ((0:Int)<=b.e))&&(decide (b.e<(c.u.length:Int)))))),(8,(.bool ((decide N)&&(decide T))))] (Hr_ 1 0 (be 5 (fun _=>(ql 3 3 (hc0 (h_ E V)) V V)) (Hr_ 10 0 (be 14 (fun _=>(ql 3 4 (hc0 (h_ E V)) V V)) (Hr_ 19 0 (be 23 (fun _=>(ql 3 2 (hc0 (h_ E V)) V V)) (be 25 (fun _=>(ql 3 1 (hc0 (i_ E V)) V V)) Hn_))))))) E V V V fun _=>aU 3 40 41 [] [(41,(iI b.f))] (Hr_ 1 0 Hn_) E V V fun _=>wT 1 [] 42 43 [] [(42,(.bool (b.f==1)))] V fun _=>?_));refine zI 1 1 (fun c9=>?_) fun c9=>?_
 ·refine wrp 1 44 54 [4] [(4,(.bool ((((decide ((0:Int)<=b.t))&&(decide (b.t<(c.u.length:Int))))&&(b.e==0))&&(b.r==0))))] (be 3 (fun _=>(ql 3 4 (h_ E V) V V)) (be 8 (fun _=>(ql 3 2 (h_ E V) V V)) Hn_)) V V fun _=>aj ⟨.inr V,_,V,((((decide ((0:Int)<=b.t))&&(decide (b.t<(c.u.length:Int))))&&(b.e==0))&&(b.r==0)),_,fR,(HS.forget E),V,(by refine a0s.2 (Iff.trans ?_ bM.symm);first|omega|(simp[aZ]<;>omega))⟩
 refine wT 1 [] 55 56 [] [(55,(.bool (b.f==2)))] V fun _=>zI 1 1 (fun ag=>?_) fun ag=>?_
 ·refine wT 1 [] 57 63 [4] [(4,(.bool ((((decide ((0:Int)<=b.t))&&(decide (b.t<(c.u.length:Int))))&&((decide ((0:Int)<=b.e))&&(decide (b.e<(c.u.length:Int)))))&&((decide N)&&(decide T)))))] V fun _=>aj ⟨.inr V,_,V,((((decide ((0:Int)<=b.t))&&(decide (b.t<(c.u.length:Int))))&&((decide ((0:Int)<=b.e))&&(decide (b.e<(c.u.length:Int)))))&&((decide N)&&(decide T))),_,fR,(HS.forget E),V,(by refine a0s.2 (Iff.trans ?_ bM.symm);first|omega|(simp[aZ]<;>omega))⟩
 refine wT 1 [] 64 65 [] [(64,(.bool (b.f==3)))] V fun _=>zI 1 1 (fun an=>?_) fun an=>?_
 ·refine wrp 1 66 76 [4] [(4,(.bool ((((decide N)&&(decide T))&&(b.t==0))&&(b.e==0))))] (be 3 (fun _=>(ql 3 3 (h_ E V) V V)) (be 8 (fun _=>(ql 3 4 (h_ E V) V V)) Hn_)) V V fun _=>aj ⟨.inr V,_,V,((((decide N)&&(decide T))&&(b.t==0))&&(b.e==0)),_,fR,(HS.forget E),V,(by refine a0s.2 (Iff.trans ?_ bM.symm);first|omega|(simp[aZ]<;>omega))⟩
 refine wT 1 [] 77 78 [] [(77,(.bool (b.f==4)))] V fun _=>zI 1 3 (fun ap=>?_) fun ap=>?_
 ·refine aU 1 79 96 [4] [(4,(.bool ((((decide ((1:Int)<=b.t))&&(decide (b.t<33554432)))&&(b.e==0))&&(b.r==0))))] (Hr_ 1 0 (be 5 (fun _=>(ql 3 3 (h_ E V) V V)) (be 10 (fun _=>(ql 3 4 (h_ E V) V V)) (be 15 (fun _=>(ql 3 2 (h_ E V) V V)) Hn_)))) E V V fun _=>aj ⟨.inr V,_,V,((((decide ((1:Int)<=b.t))&&(decide (b.t<33554432)))&&(b.e==0))&&(b.r==0)),_,fR,(HS.forget E),V,(by refine a0s.2 (Iff.trans ?_ bM.symm);first|omega|(simp[aZ]<;>omega))⟩
 refine wT 1 [] 4 4 [] [(4,(.bool false))] V fun _=>aj ⟨.inr V,_,V,false,_,fR,(HS.forget E),V,(by refine a0s.2 (Iff.trans ?_ bM.symm);first|omega|(simp[aZ]<;>omega))⟩
theorem kE{U:Option Addr}{aa:Nat}(c:VFnT)(hs:HS (.of H []) F H [] R)(e2:in64 c.m)(e3:in64 c.r)(Z:SR F (sL U c.u.length aa) c.u)(hT:TB 37 tabC F)(hv: ∀j,(c.u.getD j v_).v.length<=9223372036854775807):kKt ex 66 [(aG [(iI c.m),(iI c.r),(sL U c.u.length aa)])] H fun v H'=> ∃(r:Bool) (F':Fz),Fz.le F F'/\HS (.of H []) F' H' [] R/\v= .bool r/\r=ca c:=by
 refine aC Tryz.func66 V V (am 1 V (ab (bd (aR hs V V) V V ?_)));rintro _ H2 _ ⟨b1,rfl,ag,_⟩;refine za (.bool false) (ah 3 V (aU 1 10 39 [] [(39,(.bool ((((((decide (c.m<0))||(decide ((6:Int)<c.m)))||(decide (c.r<0)))||(decide ((3000:Int)<c.r)))||(decide ((c.u.length:Int)<1)))||(decide ((1000:Int)<(c.u.length:Int))))))] (Hr_ 1 0 (be 5 (fun _=>(ql 3 0 (h_ ag V) V V)) (be 10 (fun _=>(ql 3 1 (h_ ag V) V V)) (be 15 (fun _=>(ql 3 1 (h_ ag V) V V)) (be 20 (fun _=>(ql 34 2 (h_ ag V) V V)) (be 26 (fun _=>(ql 34 2 (h_ ag V) V V)) Hn_)))))) ag V V fun _=>zI 1 2 (fun c4=>?_) fun c4=>?_))
 ·refine wT 1 [] 2 2 [] [(2,(.bool false))] V fun _=>aj ⟨.inr V,_,V,false,_,fR,(HS.forget ag),V,(val_lim M)⟩
 have c0:0<=c.m/\c.m<=6/\0<=c.r/\c.r<=3000/\1<=c.u.length/\c.u.length<=1000:=M
 let b5:Value:=iI (c.u.length:Int);let cc:Fp:=(fP b1 [(iI c.m),(iI c.r),(sL U c.u.length aa)])
 refine wT 2 [] 40 40 [3] [(3,(.func (.func 109) #[] #[(pT b1 0)]))] V fun _=>wT 3 [] 41 41 [4] [(4,(.func (.func 110) #[] #[(pT b1 0)]))] V fun _=>aU 2 42 45 [] [(43,(sL U c.u.length aa)),(44,b5),(45,(iI 0))] (Hr_ 1 0 Hn_) ag V V fun _=>ak (fun(mm:Nat) f H'=> ∃(k:Nat) (F':Fz),Fz.le F F'/\HS (Base.of H []) F' H' [cc] R/\aB f [(1,(pT b1 0)),(3,(.func (.func 109) #[] #[(pT b1 0)])),(4,(.func (.func 110) #[] #[(pT b1 0)])),(43,(sL U c.u.length aa)),(44,b5),(45,(iI (k:Int)))]/\mm=c.u.length-k/\(k<=c.u.length)/\(∀j,j<k->jM c.m c.r (c.u.length:Int) (c.u.getD j v_)=true)) _ ⟨0,_,fR,ag,⟨V,V,V,V,V,V,trivial⟩,V,M,(cT)⟩ ?_
 rintro f3 f9 H9 ⟨k,F9,T,a1,b9,rfl,hk,ha⟩ a2;refine au _ b9 (fun _=>?_);clear b9;replace hT:=hT.mono T;replace Z:=Z.mono T;have g5:=hv k;refine am 1 V (wT 2 [] 46 46 [] [(46,(.bool (decide ((k:Int)<(c.u.length:Int)))))] V fun _=>zd 4 5 (fun c5=>?_) fun c5=>?_)
 ·refine ab ?_;obtain⟨a9,b2⟩:=Sv.view (SR.sv Z a1);obtain⟨dk,dl,dn,ds,aq⟩:=BlkT.fx (b2 k);let a3:Value:=sL (cA (a9 k) 0) (c.u.getD k v_).v.length (cK (a9 k) 0);let an:=(c.u.getD k v_).r;let ap:=(c.u.getD k v_).t;let ax:=(c.u.getD k v_).e;let b4:Value:=iI (c.u.getD k v_).f;refine bL 2 0 47 48 [] [(48,(aG [a3,b4,(iI an),(iI ap),(iI ax)]))] (Ha_ (Sv.ix (j:=(k:Int)) (SR.sv Z a1)) (Hl_ 1 (qn 82 0 5 (BlkT.vw (b2 k)) V V V V) Hn_)) (by kernel_rfl) V fun _=>zn a1 V fun b7 e8 ch=>sgo 1 3 1 0 [] [] (Hr_ 3 1 Hn_) ch V V fun ez fd bz=>ah 3 V (aU 2 49 52 [] [(50,a3),(51,(iI ((c.u.getD k v_).v.length:Int))),(52,(iI 0))] (Hr_ 1 1 Hn_) bz V V fun _=>ak (fun(mm:Nat) f H'=> ∃(i:Nat) (F':Fz),Fz.le F9 F'/\HS (Base.of H []) F' H' [cc,(fP b7 [a3,b4,(iI an),(iI ap),(iI ax)])] R/\aB f [(1,(pT b1 0)),(3,(.func (.func 109) #[] #[(pT b1 0)])),(4,(.func (.func 110) #[] #[(pT b1 0)])),(6,(pT b7 0)),(43,(sL U c.u.length aa)),(44,b5),(45,(iI (k:Int))),(50,a3),(51,(iI ((c.u.getD k v_).v.length:Int))),(52,(iI (i:Int)))]/\mm=(c.u.getD k v_).v.length-i/\(i<=(c.u.getD k v_).v.length)/\(∀j,j<i->eP c.m c.r ((c.u.getD k v_).v.getD j v_)=true)) _ ⟨0,_,fR,bz,⟨V,V,V,V,V,V,V,V,V,V,trivial⟩,V,M,(cT)⟩ ?_)
  rintro e4 f2 aw ⟨i,e5,N,E,bl,rfl,hi,hb⟩ co;refine au _ bl (fun _=>?_);clear bl;replace hT:=hT.mono N;replace Z:=Z.mono N;replace aq:=aq.mono N;refine am 1 V (wT 2 [] 53 53 [] [(53,(.bool (decide ((i:Int)<((c.u.getD k v_).v.length:Int)))))] V fun _=>zd 4 5 (fun c6=>?_) fun c6=>?_)
  ·refine ab ?_;obtain⟨bb,b3⟩:=Sv.view (SR.sv aq E);obtain⟨dt,dv,d1,d2,ef,b6⟩:=VInT.fx (b3 i);let cg:Value:=(aG [(iI ((c.u.getD k v_).v.getD i v_).i.op),(iI ((c.u.getD k v_).v.getD i v_).i.a),(iI ((c.u.getD k v_).v.getD i v_).i.b),(iI ((c.u.getD k v_).v.getD i v_).i.c),(iI ((c.u.getD k v_).v.getD i v_).i.n),(sL (cA (bb i) 5) ((c.u.getD k v_).v.getD i v_).args.length (cK (bb i) 5))])
   refine bL 2 0 54 55 [] [(55,cg)] (Ha_ (Sv.ix (j:=(i:Int)) (SR.sv aq E)) (Hl_ 1 (qn 88 0 6 (VInT.vw (b3 i)) V V V V) Hn_)) (by kernel_rfl) V fun _=>zn E V fun f1 fi ci=>sgo 1 3 1 0 [] [] (Hr_ 3 2 Hn_) ci V V fun e0 fj aA=>ah 2 V (ab (aY 2 0 56 57 [] [(56,(aG [(iI c.m),(iI c.r),(sL U c.u.length aa)])),(57,cg)] (Hr_ 0 0 (Hr_ 1 2 Hn_)) aA V V fun _=>?_))
   refine zc (vinstr_c ex (⟨c.m,c.r,c.u⟩:VFnT) (⟨(⟨((c.u.getD k v_).v.getD i v_).i.op,((c.u.getD k v_).v.getD i v_).i.a,((c.u.getD k v_).v.getD i v_).i.b,((c.u.getD k v_).v.getD i v_).i.c,((c.u.getD k v_).v.getD i v_).i.n⟩:InsT),((c.u.getD k v_).v.getD i v_).args⟩:VInT) (HS.call aA) M M Z M M M M M b6 hT) ?_;rintro _ f0 ⟨f4,e6,bk,av,rfl,rfl⟩;replace av:=HS.back aA V av;refine bL 1 3 59 59 [] [(59,(.bool (!(eP (⟨c.m,c.r,c.u⟩:VFnT).m (⟨c.m,c.r,c.u⟩:VFnT).r (⟨(⟨((c.u.getD k v_).v.getD i v_).i.op,((c.u.getD k v_).v.getD i v_).i.a,((c.u.getD k v_).v.getD i v_).i.b,((c.u.getD k v_).v.getD i v_).i.c,((c.u.getD k v_).v.getD i v_).i.n⟩:InsT),((c.u.getD k v_).v.getD i v_).args⟩:VInT)))))] Hn_ (by kernel_rfl) V fun _=>ah 1 V (zI 1 2 (fun b8=>?_) fun b8=>?_)
   ·have h3:=b8;refine wT 1 [] 2 2 [] [(2,(.bool false))] V fun _=>aj ⟨.inr V,_,V,false,_,(fT (fT (T) N) bk),(HS.forget av),V,(jx (cH M (blk_no (cH M h3))))⟩
   refine wU 1 [] 52 52 [60] [(52,(iI ((i:Int)+1)))] (vi (n:=(i:Int)+1)) V fun _=>?_
   refine co _ _ _ ?_ ⟨i+1,_,(fT (N) bk),(HS.sub av (a03 _ _)),⟨V,V,V,V,V,V,V,V,V,V,trivial⟩,V,M,(bR hb X)⟩;omega
  have ao:=dQ hb M;refine wT 3 [] 1 0 [9] [(9,(.bool false))] V fun _=>aU 3 61 62 [] [(62,b4)] (Hr_ 1 1 Hn_) E V V fun _=>wT 1 [] 63 64 [] [(63,(.bool ((c.u.getD k v_).f==1)))] V fun _=>zI 0 1 (fun c7=>?_) fun c7=>?_
  ·refine aU 3 65 78 [9] [(9,(.bool ((bh ((⟨c.m,c.r,c.u⟩:VFnT).u.length:Int) ap&&((c.u.getD k v_).r==0))&&((c.u.getD k v_).e==0))))] (Hr_ 2 1 (Hc_ 3 (nR ex ap (⟨c.m,c.r,c.u⟩:VFnT) aw M (h_ E V) M M) (be 6 (fun _=>(ql 3 2 (i_ E V) V V)) (be 11 (fun _=>(ql 3 4 (i_ E V) V V)) Hn_)))) E V V fun _=>wT 1 [] 133 134 [] [(134,(.bool (!((bh ((⟨c.m,c.r,c.u⟩:VFnT).u.length:Int) ap&&((c.u.getD k v_).r==0))&&((c.u.getD k v_).e==0)))))] V fun _=>zI 1 2 (fun a4=>?_) fun a4=>?_
   ·have a_:=a4;try simp only[dw,aZ]at a_
    refine wT 1 [] 2 2 [] [(2,(.bool false))] V fun _=>aj ⟨.inr V,_,V,false,_,(fT (T) N),(HS.forget E),V,(jx (cH (k:=k) M (gy (a1r.2 fun hv=>by rw[bM]at hv;omega))))⟩
   have a_:=a4;try simp only[dw,aZ]at a_
   refine wU 1 [] 45 45 [135] [(45,(iI ((k:Int)+1)))] (vi (n:=(k:Int)+1)) V fun _=>?_
   refine a2 _ _ _ ?_ ⟨k+1,_,(fT (T) N),(HS.sub E (a03 _ _)),⟨V,V,V,V,V,V,trivial⟩,V,M,(bR ha (ju ao (by(rw[bM];omega))))⟩;omega
  refine wT 1 [] 79 80 [] [(79,(.bool ((c.u.getD k v_).f==2)))] V fun _=>zI 0 1 (fun c8=>?_) fun c8=>?_
  ·refine aU 3 81 96 [9] [(9,(.bool ((bh ((⟨c.m,c.r,c.u⟩:VFnT).u.length:Int) ap&&bh ((⟨c.m,c.r,c.u⟩:VFnT).u.length:Int) ax)&&bh (⟨c.m,c.r,c.u⟩:VFnT).r an)))] (Hr_ 2 1 (Hc_ 3 (nR ex ap (⟨c.m,c.r,c.u⟩:VFnT) aw M (h_ E V) M M) (be 7 (fun _=>(ql 3 4 (i_ E V) V V)) (Hc1_ 8 (fun g1=>(nR ex ax (⟨c.m,c.r,c.u⟩:VFnT) aw (by(try simp only[BS]at g1);omega) (h_ E V) (by(try simp only[BS]at g1);omega) (by(try simp only[BS]at g1);omega))) (be 13 (fun _=>(ql 3 2 (i_ E V) V V)) (Hc1_ 14 (fun g1=>(cReg_c_q ex an (⟨c.m,c.r,c.u⟩:VFnT) aw (by(try simp only[BS]at g1);omega) (h_ E V) (by(try simp only[BS]at g1);omega) (by(try simp only[BS]at g1);omega))) Hn_)))))) E V V fun _=>wT 1 [] 133 134 [] [(134,(.bool (!((bh ((⟨c.m,c.r,c.u⟩:VFnT).u.length:Int) ap&&bh ((⟨c.m,c.r,c.u⟩:VFnT).u.length:Int) ax)&&bh (⟨c.m,c.r,c.u⟩:VFnT).r an))))] V fun _=>zI 1 2 (fun a5=>?_) fun a5=>?_
   ·have a_:=a5;try simp only[dw,aZ]at a_
    refine wT 1 [] 2 2 [] [(2,(.bool false))] V fun _=>aj ⟨.inr V,_,V,false,_,(fT (T) N),(HS.forget E),V,(jx (cH (k:=k) M (gy (a1r.2 fun hv=>by rw[bM]at hv;omega))))⟩
   have a_:=a5;try simp only[dw,aZ]at a_
   refine wU 1 [] 45 45 [135] [(45,(iI ((k:Int)+1)))] (vi (n:=(k:Int)+1)) V fun _=>?_
   refine a2 _ _ _ ?_ ⟨k+1,_,(fT (T) N),(HS.sub E (a03 _ _)),⟨V,V,V,V,V,V,trivial⟩,V,M,(bR ha (ju ao (by(rw[bM];omega))))⟩;omega
  refine wT 1 [] 97 98 [] [(97,(.bool ((c.u.getD k v_).f==3)))] V fun _=>zI 0 1 (fun c9=>?_) fun c9=>?_
  ·refine aU 3 99 112 [9] [(9,(.bool ((bh (⟨c.m,c.r,c.u⟩:VFnT).r an&&((c.u.getD k v_).t==0))&&((c.u.getD k v_).e==0))))] (Hr_ 2 1 (Hc_ 3 (cReg_c_q ex an (⟨c.m,c.r,c.u⟩:VFnT) aw M (h_ E V) M M) (be 6 (fun _=>(ql 3 3 (i_ E V) V V)) (be 11 (fun _=>(ql 3 4 (i_ E V) V V)) Hn_)))) E V V fun _=>wT 1 [] 133 134 [] [(134,(.bool (!((bh (⟨c.m,c.r,c.u⟩:VFnT).r an&&((c.u.getD k v_).t==0))&&((c.u.getD k v_).e==0)))))] V fun _=>zI 1 2 (fun a7=>?_) fun a7=>?_
   ·have a_:=a7;try simp only[dw,aZ]at a_
    refine wT 1 [] 2 2 [] [(2,(.bool false))] V fun _=>aj ⟨.inr V,_,V,false,_,(fT (T) N),(HS.forget E),V,(jx (cH (k:=k) M (gy (a1r.2 fun hv=>by rw[bM]at hv;omega))))⟩
   have a_:=a7;try simp only[dw,aZ]at a_
   refine wU 1 [] 45 45 [135] [(45,(iI ((k:Int)+1)))] (vi (n:=(k:Int)+1)) V fun _=>?_
   refine a2 _ _ _ ?_ ⟨k+1,_,(fT (T) N),(HS.sub E (a03 _ _)),⟨V,V,V,V,V,V,trivial⟩,V,M,(bR ha (ju ao (by(rw[bM];omega))))⟩;omega
  refine wT 1 [] 113 114 [] [(113,(.bool ((c.u.getD k v_).f==4)))] V fun _=>zI 0 3 (fun dd=>?_) fun dd=>?_
  ·refine aU 3 115 132 [9] [(9,(.bool ((((decide ((1:Int)<=(c.u.getD k v_).t))&&(decide ((c.u.getD k v_).t<33554432)))&&((c.u.getD k v_).r==0))&&((c.u.getD k v_).e==0))))] (Hr_ 1 1 (be 5 (fun _=>(ql 3 3 (i_ E V) V V)) (be 10 (fun _=>(ql 3 2 (i_ E V) V V)) (be 15 (fun _=>(ql 3 4 (i_ E V) V V)) Hn_)))) E V V fun _=>wT 1 [] 133 134 [] [(134,(.bool (!((((decide ((1:Int)<=(c.u.getD k v_).t))&&(decide ((c.u.getD k v_).t<33554432)))&&((c.u.getD k v_).r==0))&&((c.u.getD k v_).e==0)))))] V fun _=>zI 1 2 (fun a8=>?_) fun a8=>?_
   ·have a_:=a8;try simp only[dw,aZ]at a_
    refine wT 1 [] 2 2 [] [(2,(.bool false))] V fun _=>aj ⟨.inr V,_,V,false,_,(fT (T) N),(HS.forget E),V,(jx (cH (k:=k) M (gy (a1r.2 fun hv=>by rw[bM]at hv;omega))))⟩
   have a_:=a8;try simp only[dw,aZ]at a_
   refine wU 1 [] 45 45 [135] [(45,(iI ((k:Int)+1)))] (vi (n:=(k:Int)+1)) V fun _=>?_
   refine a2 _ _ _ ?_ ⟨k+1,_,(fT (T) N),(HS.sub E (a03 _ _)),⟨V,V,V,V,V,V,trivial⟩,V,M,(bR ha (ju ao (by(rw[bM];omega))))⟩;omega
  refine wT 1 [] 133 134 [] [(134,(.bool true))] V fun _=>aS 1 (v:=true) V V V V (wT 1 [] 2 2 [] [(2,(.bool false))] V fun _=>aj ⟨.inr V,_,V,false,_,(fT (T) N),(HS.forget E),V,(jx (cH (k:=k) M (gy (a1r.2 fun hv=>by rw[bM]at hv;omega))))⟩)
 refine wT 1 [] 2 2 [] [(2,(.bool true))] V fun _=>aj ⟨.inr V,_,V,true,_,(T),(HS.forget a1),V,(val_yes c0 (dQ ha M))⟩
theorem gI{ap:Option Addr}{ar:Nat}(c:VFnT)(hs:HS (.of H []) F H [] R)(d2:in64 c.m)(ef:in64 c.r)(E:SR F (sL ap c.u.length ar) c.u)(hT:TB 37 tabC F)(hv: ∀j,(c.u.getD j v_).v.length<=9223372036854775807):kKt ex 50 [(aG [(iI c.m),(iI c.r),(sL ap c.u.length ar)])] H fun v H'=> ∃(r:Bool) (F':Fz),Fz.le F F'/\HS (.of H []) F' H' [] R/\v= .bool r/\r=ca c:=by
 refine aC Tryz.func50 V V (am 1 V (ab (bd (aR hs V V) V V ?_)));rintro _ H2 _ ⟨b1,rfl,aa,_⟩;refine za (.bool false) (ah 3 V (aU 1 6 35 [] [(35,(.bool ((((((decide (c.m<0))||(decide ((6:Int)<c.m)))||(decide (c.r<0)))||(decide ((3000:Int)<c.r)))||(decide ((c.u.length:Int)<1)))||(decide ((1000:Int)<(c.u.length:Int))))))] (Hr_ 1 0 (be 5 (fun _=>(ql 3 0 (h_ aa V) V V)) (be 10 (fun _=>(ql 3 1 (h_ aa V) V V)) (be 15 (fun _=>(ql 3 1 (h_ aa V) V V)) (be 20 (fun _=>(ql 34 2 (h_ aa V) V V)) (be 26 (fun _=>(ql 34 2 (h_ aa V) V V)) Hn_)))))) aa V V fun _=>zI 1 3 (fun c4=>?_) fun c4=>?_))
 ·refine wT 1 [] 2 2 [] [(2,(.bool false))] V fun _=>aj ⟨.inr V,_,V,false,_,fR,(HS.forget aa),V,(val_lim M)⟩
 have b0:0<=c.m/\c.m<=6/\0<=c.r/\c.r<=3000/\1<=c.u.length/\c.u.length<=1000:=M
 let b3:Fp:=(fP b1 [(iI c.m),(iI c.r),(sL ap c.u.length ar)])
 refine wT 2 [] 1 0 [3] [(3,(iI 0))] V fun _=>ak (fun(mm:Nat) f H'=> ∃(k:Nat) (F':Fz),Fz.le F F'/\HS (Base.of H []) F' H' [b3] R/\aB f [(1,(pT b1 0)),(3,(iI (k:Int)))]/\mm=c.u.length-k/\(k<=c.u.length)/\(∀j,j<k->jM c.m c.r (c.u.length:Int) (c.u.getD j v_)=true)) _ ⟨0,_,fR,aa,⟨V,V,trivial⟩,V,M,(cT)⟩ ?_
 rintro e6 f7 H7 ⟨k,F7,ag,an,b2,rfl,hk,ha⟩ ch;refine au _ b2 (fun _=>?_);clear b2;replace hT:=hT.mono ag;replace E:=E.mono ag;have f3:=hv k;refine am 2 V (aU 1 36 40 [] [(40,(.bool (decide ((k:Int)<(c.u.length:Int)))))] (Hr_ 2 0 Hn_) an V V fun _=>zd 4 5 (fun c9=>?_) fun c9=>?_)
 ·refine ab ?_;obtain⟨ax,a2⟩:=Sv.view (SR.sv E an);obtain⟨ci,co,c5,c6,N⟩:=BlkT.fx (a2 k);let a4:Value:=sL (cA (ax k) 0) (c.u.getD k v_).v.length (cK (ax k) 0);let a5:Value:=iI (c.u.getD k v_).f;let a7:Value:=iI (c.u.getD k v_).r;let a8:Value:=iI (c.u.getD k v_).t;let a9:Value:=iI (c.u.getD k v_).e;let b4:Value:=(aG [(iI c.m),(iI c.r),(sL ap c.u.length ar)])
  refine aY 5 0 43 47 [] [(47,(aG [a4,a5,a7,a8,a9]))] (Hr_ 1 0 (Ha_ (Sv.ix (j:=(k:Int)) (SR.sv E an)) (Hl_ 4 (qn 82 0 5 (BlkT.vw (a2 k)) V V V V) Hn_))) an V V fun _=>zn an V fun bl e1 b6=>sgo 1 6 1 0 [] [] (Hr_ 6 1 Hn_) b6 V V fun dt e2 av=>ah 3 V (ab (aY 2 0 48 49 [] [(48,(aG [a4,a5,a7,a8,a9])),(49,b4)] (Hr_ 0 1 (Hr_ 1 0 Hn_)) av V V fun _=>?_))
  refine zc (rEnd_c ex (⟨(c.u.getD k v_).v,(c.u.getD k v_).f,(c.u.getD k v_).r,(c.u.getD k v_).t,(c.u.getD k v_).e⟩:BlkT) (⟨c.m,c.r,c.u⟩:VFnT) (HS.call av) N M M M M M M E hT) ?_;rintro _ e3 ⟨e8,b9,a_,aq,rfl,rfl⟩;replace aq:=HS.back av V aq;replace hT:=hT.mono a_;replace E:=E.mono a_;replace N:=N.mono a_;refine bL 1 3 51 51 [] [(51,(.bool (!(lL ((⟨c.m,c.r,c.u⟩:VFnT).u.length:Int) (⟨c.m,c.r,c.u⟩:VFnT).r (⟨(c.u.getD k v_).v,(c.u.getD k v_).f,(c.u.getD k v_).r,(c.u.getD k v_).t,(c.u.getD k v_).e⟩:BlkT)))))] Hn_ (by kernel_rfl) V fun _=>ah 1 V (zI 1 2 (fun aw=>?_) fun aw=>?_)
  ·have h2:=aw;refine wT 1 [] 2 2 [] [(2,(.bool false))] V fun _=>aj ⟨.inr V,_,V,false,_,(fT (ag) a_),(HS.forget aq),V,(jx (cH M (gy h2)))⟩
  have a6:=aw;refine wT 2 [] 1 0 [5] [(5,(iI 0))] V fun _=>ak (fun(mm:Nat) f H'=> ∃(i:Nat) (F':Fz),Fz.le b9 F'/\HS (Base.of H []) F' H' [b3,(fP bl [a4,a5,a7,a8,a9])] R/\aB f [(1,(pT b1 0)),(3,(iI (k:Int))),(4,(pT bl 0)),(5,(iI (i:Int)))]/\mm=(c.u.getD k v_).v.length-i/\(i<=(c.u.getD k v_).v.length)/\(∀j,j<i->eP c.m c.r ((c.u.getD k v_).v.getD j v_)=true)) _ ⟨0,_,fR,aq,⟨V,V,V,V,trivial⟩,V,M,(cT)⟩ ?_
  rintro et e5 e4 ⟨i,ez,Z,T,a1,rfl,hi,hb⟩ b7;refine au _ a1 (fun _=>?_);clear a1;replace hT:=hT.mono Z;replace E:=E.mono Z;replace N:=N.mono Z;refine am 2 V (aU 1 52 56 [] [(56,(.bool (decide ((i:Int)<((c.u.getD k v_).v.length:Int)))))] (Hr_ 2 1 Hn_) T V V fun _=>zd 4 5 (fun cg=>?_) fun cg=>?_)
  ·refine aL V ?_;obtain⟨ay,a3⟩:=Sv.view (SR.sv N T);obtain⟨c7,c8,dd,dk,dl,bk⟩:=VInT.fx (a3 i);refine eO 6 59 64 [] [(63,(aG [(iI ((c.u.getD k v_).v.getD i v_).i.op),(iI ((c.u.getD k v_).v.getD i v_).i.a),(iI ((c.u.getD k v_).v.getD i v_).i.b),(iI ((c.u.getD k v_).v.getD i v_).i.c),(iI ((c.u.getD k v_).v.getD i v_).i.n),(sL (cA (ay i) 5) ((c.u.getD k v_).v.getD i v_).args.length (cK (ay i) 5))])),(64,b4)] (Hr_ 1 1 (Ha_ (Sv.ix (j:=(i:Int)) (SR.sv N T)) (Hl_ 4 (qn 88 0 6 (hc0 (VInT.vw (a3 i))) V V V V) (Hr_ 5 0 Hn_)))) T V V fun _=>ba (W:=[]) (aO V V V) V V V (rinstr_c ex ((c.u.getD k v_).v.getD i v_) (⟨c.m,c.r,c.u⟩:VFnT) (HS.call T.log0) M M M M M bk M M E hT) (kb V) ?_
   rintro _ cc ⟨fd,e0,aA,U,rfl,rfl⟩;refine⟨Wr.did U.log,fun b8 bb=>?_⟩;replace U:=HS.back T.log0 V U;replace U:=HS.lg U T bb;generalize ({cc with log:=b8}:Heap)=dn at U⊢;refine wfv (v:=(.bool (!(eP (⟨c.m,c.r,c.u⟩:VFnT).m (⟨c.m,c.r,c.u⟩:VFnT).r ((c.u.getD k v_).v.getD i v_))))) (ap_not V) (bC 1 V (zI 1 2 (fun bz=>?_) fun bz=>?_))
   ·have h4:=bz;refine wT 1 [] 2 2 [] [(2,(.bool false))] V fun _=>aj ⟨.inr V,_,V,false,_,(fT (fT (fT (ag) a_) Z) aA),(HS.forget U),V,(jx (cH M (blk_no (cH M h4))))⟩
   refine wU 1 [] 57 58 [5] [(5,(iI ((i:Int)+1)))] (vi (n:=(i:Int)+1)) V fun _=>?_
   refine b7 _ _ _ ?_ ⟨i+1,_,(fT (Z) aA),U,⟨V,V,V,V,trivial⟩,V,M,(bR hb X)⟩;omega
  have d1:=dQ hb M;refine wU 1 [] 41 42 [3] [(3,(iI ((k:Int)+1)))] (vi (n:=(k:Int)+1)) V fun _=>?_
  refine ch _ _ _ ?_ ⟨k+1,_,(fT (fT (ag) a_) Z),(HS.sub T (a03 _ _)),⟨V,V,trivial⟩,V,M,(bR ha (ju d1 a6))⟩;omega
 refine wT 1 [] 2 2 [] [(2,(.bool true))] V fun _=>aj ⟨.inr V,_,V,true,_,(ag),(HS.forget an),V,(val_yes b0 (dQ ha M))⟩
end m3
open m3
namespace m4
variable (ex:FuncId) {F:Fz} {H:Heap} {R:List Fp}
theorem wr64(n:Int):in64 (IntKind.i64.wrap n):=w64_in n
theorem td64(n:Int){m:Int}(h:0<m):in64 (Int.tdiv (IntKind.i64.wrap n) m):=vq (wr64 n) M
theorem opOK_t{p:Prop} [Decidable p]{n r:Int}(h:p)(E:0<=n/\n<r):fE (decide p) n r=true:=by rw[decide_eq_true h];exact aZ.2 E
theorem kV{p:Prop} [Decidable p]{n r:Int}(h: ¬p)(E:n=0):fE (decide p) n r=true:=by rw[decide_eq_false h,E];rfl
def opG(op:Int):Prop:=(op=3\/op=6\/(9<=op/\op<=13)\/(15<=op/\op<=35))/\alV op=true
theorem ops_al{op:Int}(h:15<=op/\op<=32):opG op:=⟨by omega,decide_eq_true M⟩
theorem lit12{k:Nat}(h:k<12):opG (([3,6,9,10,11,12,13,33,34,35,10,9]:List Int).getD k 0):=by
 have: ∀k:Fin 12,((([3,6,9,10,11,12,13,33,34,35,10,9]:List Int).getD k.val 0)=3\/(([3,6,9,10,11,12,13,33,34,35,10,9]:List Int).getD k.val 0)=6\/(9<=(([3,6,9,10,11,12,13,33,34,35,10,9]:List Int).getD k.val 0)/\(([3,6,9,10,11,12,13,33,34,35,10,9]:List Int).getD k.val 0)<=13)\/(15<=(([3,6,9,10,11,12,13,33,34,35,10,9]:List Int).getD k.val 0)/\(([3,6,9,10,11,12,13,33,34,35,10,9]:List Int).getD k.val 0)<=35))/\alV (([3,6,9,10,11,12,13,33,34,35,10,9]:List Int).getD k.val 0)=true:=by decide
 exact this ⟨k,h⟩
theorem immT{p op n:Int}(h:op=13\/op=33/\ -4194304<=n/\n<4194304\/op=6/\0<=n/\n<8\/(op=34\/op=35)/\0<=n/\n<4\/(op≠13/\op≠33/\op≠6/\op≠34/\op≠35/\op≠38)/\n=0):gU p op n=true:=by
 unfold gU
 (repeat' split)<;>first|rfl|(apply decide_eq_true;omega)|(exfalso;omega)
theorem all_app{p:Int->Bool}{l:List Int}{x:Int}(h:l.all p=true)(E:p x=true):(l++[x]).all p=true:=by rw[a2q,h];simp[E]
theorem vin_mk{params regs op a b c n:Int}{l:List Int}(E:alV op=true)(N:op=6\/l.length=0)(T:l.length<=6)(U:l.all (bh regs)=true)(a_:fE (decide (aK op≠1)) a regs=true)(Z:fE (decide (aK op=3\/aK op=4\/aK op=7)) b regs=true)(h7:fE (decide (aK op=4)) c regs=true)(h8:gU params op n=true):eP params regs ⟨⟨op,a,b,c,n⟩,l⟩=true:=by unfold eP;simp only[E,decide_eq_true N,decide_eq_true T,U,a_,Z,h7,h8,a1s]
def ckI(v:VInT):Bool:=decide ((v.i.op=6->(v.i.n=0/\v.args.length=2\/v.i.n=1/\v.args.length=1))/\(v.i.op=34\/v.i.op=35->v.i.n<2))
theorem dE{Z:Nat}(d:DigT)(m:Int)(hs:HS (.of H [Z]) F H [(fP Z [(iI d.n)])] R)(N:in64 d.n)(hm:in64 m)(hT:TB 37 tabC F)(hm:0<m):kKt ex 32 [(pT Z 0),(iI m)] H fun v H'=> ∃(r:Int) (d':DigT) (F':Fz),Fz.le F F'/\HS (.of H [Z]) F' H' [(fP Z [(iI d'.n)])] R/\v=iI r/\in64 d'.n/\(0<=r/\r<m):=by refine aC Tryz.func32 V V (am 1 V (wT 2 [] 4 4 [] [(4,(iI 0))] V fun _=>?_));have T:=ny d.n m;refine aU 2 6 11 [5] [(5,(iI (dy d.n m)))] (Hr_ 3 0 (Hc_ 5 (m1.nz ex d.n m H M) Hn_)) hs V V fun _=>sgr 2 12 22 [] [] (Hr_ 4 0 (Hw_ 6 (.w) (Ha_ (vA (show m≠0 from by omega) (vq (a:=IntKind.i64.wrap (d.n-(dy d.n m))) (b:=m) (wr64 _) M)) (Hr_ 11 0 Hn_)))) hs V V fun U a_ E=>wT 1 [] 4 4 [23] [(4,(iI (dy d.n m)))] V fun _=>aj ⟨.inr V,_,V,dy d.n m,(⟨Int.tdiv (IntKind.i64.wrap (d.n-(dy d.n m))) m⟩:DigT),_,fR,(HS.first E),V,(td64 _ M),M⟩
theorem word_c(n:Int)(aa:Int)(hs:HS (.of H []) F H [] R)(hn:in64 n)(ai:in64 aa)(hT:TB 37 tabC F):kKt ex 33 [(iI n),(iI aa)] H fun v H'=> ∃(r:Int) (F':Fz),Fz.le F F'/\HS (.of H []) F' H' [] R/\v=iI r/\(in64 r):=by
 refine aC Tryz.func33 V V (am 1 V (wT 2 [] 4 4 [] [(4,(iI 0))] V fun _=>ab (zlo ([0,1,(-1),2,(-9223372036854775808),9223372036854775807,4294967296,(-2147483648),63,64]:List Int) hs V (RL.cs ⟨V,by omega⟩ (RL.cs ⟨V,by omega⟩ (RL.cs ⟨V,by omega⟩ (RL.cs ⟨V,by omega⟩ (RL.cs ⟨V,by omega⟩ (RL.cs ⟨V,by omega⟩ (RL.cs ⟨V,by omega⟩ (RL.cs ⟨V,by omega⟩ (RL.cs ⟨V,by omega⟩ (RL.cs ⟨V,by omega⟩ RL.nl)))))))))) V fun Z k2 p2 U N E=>za (sL Z ([0,1,(-1),2,(-9223372036854775808),9223372036854775807,4294967296,(-2147483648),63,64]:List Int).length k2) ?_)));refine ah 2 V ?_;have aq:=ny n (24:Int);refine wU 4 [(1,.o (iI (dy n (24:Int))))] 8 9 [6] [(6,(iI (dy n (24:Int))))] (m1.nz ex n (24) U M) V fun _=>wT 1 [] 10 12 [] [(10,(.bool (decide (dy n (24:Int)<10))))] V fun _=>zd 1 1 (fun c7=>?_) fun c7=>?_
 ·obtain⟨ap,T⟩:=Sv.view (OS.sv N E (i:=0) V);have g9:=fI (T (dy n (24:Int)).toNat);refine wrp 1 13 16 [4] [(4,(iI (([0,1,(-1),2,(-9223372036854775808),9223372036854775807,4294967296,(-2147483648),63,64]:List Int).getD (dy n (24:Int)).toNat 0)))] (Ha_ (Sv.ix (j:=dy n (24:Int)) (OS.sv N E (i:=0) V) M (show dy n (24:Int)<(10:Int) from by omega)) (Hl_ 3 (ql 2 0 (vI (T (dy n (24:Int)).toNat) (show(dy n (24:Int)).toNat<10 from by omega)) V V) Hn_)) (by kernel_rfl) V fun _=>aj ⟨.inr V,_,V,(([0,1,(-1),2,(-9223372036854775808),9223372036854775807,4294967296,(-2147483648),63,64]:List Int).getD (dy n (24:Int)).toNat 0),_,fR,(HS.forget E),V,M⟩
 refine wT 1 [] 17 19 [] [(17,(.bool (decide (dy n (24:Int)<22))))] V fun _=>zd 1 3 (fun a_=>?_) fun a_=>?_
 ·have an:in64 n->in64 (Int.tdiv n 24):=fun h=>vq h e_
  have ag:=ny (Int.tdiv n 24) (17:Int);refine wR 1 [(2,.o (iI (dy (Int.tdiv n 24) (17:Int))))] 20 23 [4] [(4,(iI ((dy (Int.tdiv n 24) (17:Int))-6)))] (vA (vA (show(24:Int)≠0 from by decide) (vq (a:=n) (b:=24) M e_)) (vA (m1.nz ex (Int.tdiv n 24) (17) U M) (vA (vi (n:=(dy (Int.tdiv n 24) (17:Int))-6)) trivial))) V fun _=>aj ⟨.inr V,_,V,(dy (Int.tdiv n 24) (17:Int))-6,_,fR,(HS.forget E),V,M⟩
 refine wT 1 [] 4 4 [24] [(4,(iI aa))] V fun _=>aj ⟨.inr V,_,V,aa,_,fR,(HS.forget E),V,M⟩
theorem vi_c(n:Int){dd:Option Addr}{f5:Nat}(c:VFnT)(hs:HS (.of H []) F H [] R)(hn:in64 n)(m0:in64 c.m)(ne:in64 c.r)(hT:TB 37 tabC F)(hr:1<=c.r/\c.r<=3000):kKt ex 55 [(iI n),(aG [(iI c.m),(iI c.r),(sL dd c.u.length f5)])] H fun v H'=> ∃(x:VInT) (dk:Option Addr) (f6:Nat) (F':Fz),Fz.le F F'/\HS (.of H []) F' H' [] R/\v= .agg ⟨[iI x.i.op,iI x.i.a,iI x.i.b,iI x.i.c,iI x.i.n,sL dk x.args.length f6]⟩/\in64 x.i.op/\in64 x.i.a/\in64 x.i.b/\in64 x.i.c/\in64 x.i.n/\SR F' (sL dk x.args.length f6) x.args/\(eP c.m c.r x=true)/\(ckI x=true):=by
 refine aC Tryz.func55 V V (am 1 V (ab (bd (aR hs V V) V V ?_)));rintro _ H2 _ ⟨b1,rfl,e5,_⟩;refine zn e5 V fun b3 H4 kn=>ah 2 V (ab (wTo 2 0 [] 14 15 [] [(15,(aG [(iI n)]))] V fun _=>bd (aR kn V V) V V ?_))
 rintro _ H7 _ ⟨U,rfl,ko,_⟩;refine za (pT U 0) (ah 2 V (ab (zlo ([3,6,9,10,11,12,13,33,34,35,10,9]:List Int) ko V (RL.cs ⟨V,by omega⟩ (RL.cs ⟨V,by omega⟩ (RL.cs ⟨V,by omega⟩ (RL.cs ⟨V,by omega⟩ (RL.cs ⟨V,by omega⟩ (RL.cs ⟨V,by omega⟩ (RL.cs ⟨V,by omega⟩ (RL.cs ⟨V,by omega⟩ (RL.cs ⟨V,by omega⟩ (RL.cs ⟨V,by omega⟩ (RL.cs ⟨V,by omega⟩ (RL.cs ⟨V,by omega⟩ RL.nl)))))))))))) V fun a8 k8 p8 H9 c8 g2=>za (sL a8 ([3,6,9,10,11,12,13,33,34,35,10,9]:List Int).length k8) (ah 2 V ?_))));refine ab (zm (pT U 0) (zc (dE ex (⟨n⟩:DigT) (18) (HS.callOwn g2 (i:=2) V) M M hT M) ?_));rintro _ oy ⟨f8,g5,ob,b4,a1,rfl,i1,pi⟩;replace a1:=g2.bO a1;replace hT:=hT.mono b4;refine wUo 2 2 [] 20 20 [7] [(7,(iI (15+f8)))] (vi (n:=15+f8)) V fun _=>ah 3 V (ab (zm (pT U 0) (zc (dE ex (⟨g5.n⟩:DigT) (24) (HS.callOwn a1 (i:=2) V) M M hT M) ?_)))
 rintro _ go ⟨ar,dn,oc,b5,aw,rfl,i2,pj⟩;replace aw:=a1.bO aw;replace hT:=hT.mono b5;replace c8:=(c8.mono b4).mono b5;refine za (iI ar) (ah 2 V (wT 1 [] 23 26 [] [(26,(.bool (decide (ar<12))))] V fun _=>bj (fun f H'=> ∃(E:Int),H'=go/\aB f [(0,(iI n)),(3,(pT b1 0)),(4,(pT b3 0)),(5,(pT U 0)),(7,(iI E))]/\(opG E)) (fun f1=>?_) ?_))
 ·refine zd 0 0 (fun h6=>?_) fun h6=>?_
  ·obtain⟨lr,fj⟩:=Sv.view (OS.sv c8 aw (i:=3) V);have ph:=fI (fj ar.toNat);refine wrp 0 27 30 [7] [(7,(iI (([3,6,9,10,11,12,13,33,34,35,10,9]:List Int).getD ar.toNat 0)))] (Ha_ (Sv.ix (j:=ar) (OS.sv c8 aw (i:=3) V) M (show ar<(12:Int) from by omega)) (Hl_ 3 (ql 3 0 (vI (fj ar.toNat) (show ar.toNat<12 from by omega)) V V) Hn_)) (by kernel_rfl) V fun _=>?_
   exact f1 _ _ ⟨(([3,6,9,10,11,12,13,33,34,35,10,9]:List Int).getD ar.toNat 0),V,⟨V,V,V,V,V,trivial⟩,(lit12 M)⟩
  exact f1 _ _ ⟨15+f8,V,⟨V,V,V,V,V,trivial⟩,(ops_al M)⟩
 skip;rintro o9 go ⟨E,rfl,ez,ho⟩;refine au _ ez (fun _=>?_);clear ez;have hf:=bm ho.2;have p7:aK E=(aE E).f:=if_neg (by have:=ho.1;omega);have pC:=ho.1;refine am 2 V (ab (bL 3 0 31 33 [] [(33,(aG [(iI E),(iI 0),(iI 0),(iI 0),(iI 0),(sL none 0 0)]))] Hn_ (by kernel_rfl) V fun _=>zn aw V fun ap oz hB=>sgo 1 4 1 0 [] [] (Hr_ 4 4 Hn_) hB V V fun l0 oD e6=>ah 2 V ?_));refine ab (zm (iI E) (zc (m1.rInfo_c ex E (HS.call e6) M hT) ?_));rintro _ oE ⟨pG,pE,hV,ds,b8,rfl,hR,hS,rfl,rfl⟩;replace b8:=HS.back e6 V b8;replace hT:=hT.mono ds;refine bL 3 2 37 38 [34] [(37,(aG [(tX (aE E).name.b),(iI (aE E).f),(.bool (aE E).ra),(.bool (aE E).wa),(.bool (aE E).rb),(.bool (aE E).mt),(iI (aE E).w)])),(38,(.bool (infO E)))] Hn_ (by kernel_rfl) V fun _=>zn b8 V fun h5 oF hC=>sgo 2 6 1 0 [11] [] (Hr_ 6 5 Hn_) hC V V fun l1 oG ax=>ah 2 V (aU 3 39 40 [12] [(12,(iI (aE E).f))] (Hr_ 1 5 Hn_) ax V V fun _=>wT 1 [] 41 42 [] [(42,(.bool ((aE E).f !=1)))] V fun _=>?_)
 let bb:Fp:=(fP b1 [(iI c.m),(iI c.r),(sL dd c.u.length f5)])
 let bk:Fp:=(fP b3 [(iI 0),(iI 0),(iI 0),(iI 0),(iI 0),(sL none 0 0)])
 let bl:Fp:=(fP h5 [(tX (aE E).name.b),(iI (aE E).f),(.bool (aE E).ra),(.bool (aE E).wa),(.bool (aE E).rb),(.bool (aE E).mt),(iI (aE E).w)])
 refine bj (fun f H'=> ∃(ja:Int) (a5:DigT) (F':Fz),Fz.le hV F'/\HS (Base.of H []) F' H' [bb,bk,(fP U [(iI a5.n)]),p8,(fP ap [(iI E),(iI ja),(iI 0),(iI 0),(iI 0),(sL none 0 0)]),bl] R/\aB f [(0,(iI n)),(3,(pT b1 0)),(4,(pT b3 0)),(5,(pT U 0)),(7,(iI E)),(9,(pT ap 0)),(12,(iI (aE E).f))]/\(fE (decide (aK E≠1)) ja c.r=true)/\(in64 ja)/\(in64 a5.n)) (fun f2=>?_) ?_
 ·refine zI 0 0 (fun h7=>?_) fun h7=>?_
  ·refine ab (aY 3 0 43 45 [] [(43,(pT U 0)),(45,(iI c.r))] (Hr_ 2 0 Hn_) ax V V fun _=>zc (dE ex (⟨dn.n⟩:DigT) c.r (HS.callOwn ax (i:=2) V) M M hT M) ?_);rintro _ oI ⟨kx,g6,oh,hj,b9,rfl,i3,pm⟩;replace b9:=ax.bO b9;refine sgo 3 4 47 48 [] [] (Hr_ 6 4 Hn_) b9 V V fun l2 oJ hD=>ah 0 V ?_
   exact f2 _ _ ⟨kx,(⟨g6.n⟩:DigT),_,(hj),hD,⟨V,V,V,V,V,V,V,trivial⟩,(opOK_t M M),M,X⟩
  exact f2 _ _ ⟨0,(⟨dn.n⟩:DigT),_,fR,ax,⟨V,V,V,V,V,V,V,trivial⟩,(kV M V),M,X⟩
 skip;rintro pc oH ⟨ja,a5,hW,dt,a2,e0,hja,rja,n3⟩;refine au _ e0 (fun _=>?_);clear e0;replace hT:=hT.mono dt;refine am 3 V (wT 1 [] 49 58 [] [(58,(.bool ((((aE E).f==3)||((aE E).f==4))||((aE E).f==7))))] V fun _=>bj (fun f H'=> ∃(jb:Int) (a7:DigT) (F':Fz),Fz.le hW F'/\HS (Base.of H []) F' H' [bb,bk,(fP U [(iI a7.n)]),p8,(fP ap [(iI E),(iI ja),(iI jb),(iI 0),(iI 0),(sL none 0 0)]),bl] R/\aB f [(0,(iI n)),(3,(pT b1 0)),(4,(pT b3 0)),(5,(pT U 0)),(7,(iI E)),(9,(pT ap 0)),(12,(iI (aE E).f))]/\(fE (decide (aK E=3\/aK E=4\/aK E=7)) jb c.r=true)/\(in64 jb)/\(in64 a7.n)) (fun f3=>?_) ?_)
 ·refine zI 0 0 (fun h8=>?_) fun h8=>?_
  ·refine ab (aY 3 0 59 61 [] [(59,(pT U 0)),(61,(iI c.r))] (Hr_ 2 0 Hn_) a2 V V fun _=>zc (dE ex (⟨a5.n⟩:DigT) c.r (HS.callOwn a2 (i:=2) V) M M hT M) ?_);rintro _ oL ⟨ky,g7,ol,hk,cc,rfl,i4,pn⟩;replace cc:=a2.bO cc;refine sgo 3 4 63 64 [] [] (Hr_ 6 4 Hn_) cc V V fun l3 oM hE=>ah 0 V ?_
   exact f3 _ _ ⟨ky,(⟨g7.n⟩:DigT),_,(hk),hE,⟨V,V,V,V,V,V,V,trivial⟩,(opOK_t M M),M,X⟩
  exact f3 _ _ ⟨0,(⟨a5.n⟩:DigT),_,fR,a2,⟨V,V,V,V,V,V,V,trivial⟩,(kV M V),M,X⟩
 skip;rintro pd oK ⟨jb,a7,hX,dv,a3,e1,hjb,rjb,n4⟩;refine au _ e1 (fun _=>?_);clear e1;replace hT:=hT.mono dv;refine am 3 V (wT 1 [] 65 66 [] [(66,(.bool ((aE E).f==4)))] V fun _=>bj (fun f H'=> ∃(jc:Int) (aq:DigT) (F':Fz),Fz.le hX F'/\HS (Base.of H []) F' H' [bb,bk,(fP U [(iI aq.n)]),p8,(fP ap [(iI E),(iI ja),(iI jb),(iI jc),(iI 0),(sL none 0 0)]),bl] R/\aB f [(0,(iI n)),(3,(pT b1 0)),(4,(pT b3 0)),(5,(pT U 0)),(7,(iI E)),(9,(pT ap 0))]/\(fE (decide (aK E=4)) jc c.r=true)/\(in64 jc)/\(in64 aq.n)) (fun f4=>?_) ?_)
 ·refine zI 0 0 (fun h9=>?_) fun h9=>?_
  ·refine ab (aY 3 0 67 69 [] [(67,(pT U 0)),(69,(iI c.r))] (Hr_ 2 0 Hn_) a3 V V fun _=>zc (dE ex (⟨a7.n⟩:DigT) c.r (HS.callOwn a3 (i:=2) V) M M hT M) ?_);rintro _ oP ⟨kz,g8,oo,hl,cg,rfl,jw,pq⟩;replace cg:=a3.bO cg;refine sgo 3 4 71 72 [] [] (Hr_ 6 4 Hn_) cg V V fun l4 oQ hF=>ah 0 V ?_
   exact f4 _ _ ⟨kz,(⟨g8.n⟩:DigT),_,(hl),hF,⟨V,V,V,V,V,V,trivial⟩,(opOK_t M M),M,X⟩
  exact f4 _ _ ⟨0,(⟨a7.n⟩:DigT),_,fR,a3,⟨V,V,V,V,V,V,trivial⟩,(kV M V),M,X⟩
 skip;rintro pe oO ⟨jc,aq,f9,d1,a_,e2,hjc,rjc,n6⟩;refine au _ e2 (fun _=>?_);clear e2;replace hT:=hT.mono d1;refine am 3 V (wT 3 [] 73 73 [] [(73,(iI E))] V fun _=>wT 1 [] 74 75 [] [(74,(.bool (E==13)))] V fun _=>bj (fun f H'=> ∃(jq:Int) (ai:List Int) (f0:DigT) (Z:Option Addr) (ag:Nat) (F':Fz),Fz.le f9 F'/\HS (Base.of H []) F' H' [bb,bk,(fP U [(iI f0.n)]),p8,(fP ap [(iI E),(iI ja),(iI jb),(iI jc),(iI jq),(sL Z ai.length ag)]),bl] R/\SR F' (sL Z ai.length ag) ai/\aB f [(4,(pT b3 0)),(9,(pT ap 0))]/\(gU c.m E jq=true)/\(in64 jq)/\((E=6\/ai.length=0)/\ai.length<=6)/\(ai.all (bh c.r)=true)/\((E=6->(jq=0/\ai.length=2\/jq=1/\ai.length=1))/\(E=34\/E=35->jq<2))/\(in64 f0.n)) (fun av=>?_) ?_)
 ·refine zI 0 1 (fun ib=>?_) fun ib=>?_
  ·refine ab (zm (pT U 0) (zc (dE ex (⟨aq.n⟩:DigT) (400) (HS.callOwn a_ (i:=2) V) M M hT M) ?_));rintro _ oT ⟨k0,g9,ou,d2,a4,rfl,ka,pu⟩;replace a4:=a_.bO a4;replace hT:=hT.mono d2;refine zm (iI n) (zc (word_c ex k0 n (HS.call a4) M M hT) ?_);rintro _ oU ⟨k3,hY,hp,ch,rfl,pw⟩;replace ch:=HS.back a4 V ch;refine sgo 3 4 80 81 [] [] (Hr_ 6 4 Hn_) ch V V fun l5 oV hH=>ah 0 V ?_
   exact av _ _ ⟨k3,([]:List Int),(⟨g9.n⟩:DigT),none,0,_,(fT (d2) hp),hH,(SR.nil:SR hY (sL none 0 0) ([]:List Int)),⟨V,V,trivial⟩,(immT M),X,u_,m_,M,X⟩
  refine wT 1 [] 82 83 [] [(82,(.bool (E==33)))] V fun _=>zI 0 2 (fun ih=>?_) fun ih=>?_
  ·refine ab (zm (pT U 0) (zc (dE ex (⟨aq.n⟩:DigT) (9) (HS.callOwn a_ (i:=2) V) M M hT M) ?_));rintro _ oW ⟨g3,ha,h0,hq,ci,rfl,kc,px⟩;replace ci:=a_.bO ci;refine sgo 4 2 86 88 [] [] (Ha_ (vi (n:=g3-4)) (Hr_ 5 4 Hn_)) ci V V fun l7 oX hI=>ah 0 V ?_
   exact av _ _ ⟨g3-4,([]:List Int),(⟨ha.n⟩:DigT),none,0,_,(hq),hI,(SR.nil:SR h0 (sL none 0 0) ([]:List Int)),⟨V,V,trivial⟩,(immT M),M,u_,m_,M,X⟩
  refine wT 1 [] 89 90 [] [(89,(.bool (E==34)))] V fun _=>zi 1 0 (fun b2=>?_) fun b2=>?_
  ·have ik:=b2;try simp only[BS]at ik
   refine aS 0 (v:=(E==34)) V b2 V V (ab (zm (pT U 0) (zc (dE ex (⟨aq.n⟩:DigT) (2) (HS.callOwn a_ (i:=2) V) M M hT M) ?_)));rintro _ oY ⟨k4,hb,h1,ht,co,rfl,kd,py⟩;replace co:=a_.bO co;refine sgo 3 2 94 95 [] [] (Hr_ 4 4 Hn_) co V V fun l8 oZ hJ=>ah 0 V ?_
   exact av _ _ ⟨k4,([]:List Int),(⟨hb.n⟩:DigT),none,0,_,(ht),hJ,(SR.nil:SR h1 (sL none 0 0) ([]:List Int)),⟨V,V,trivial⟩,(immT M),M,u_,m_,M,X⟩
  refine wT 1 [] 89 91 [] [(89,(.bool (E==35)))] V fun _=>zI 0 1 (fun il=>?_) fun il=>?_
  ·refine ab (zm (pT U 0) (zc (dE ex (⟨aq.n⟩:DigT) (2) (HS.callOwn a_ (i:=2) V) M M hT M) ?_));rintro _ o0 ⟨k5,he,h2,hu,c5,rfl,kg,pz⟩;replace c5:=a_.bO c5;refine sgo 3 2 94 95 [] [] (Hr_ 4 4 Hn_) c5 V V fun l9 o1 hK=>ah 0 V ?_
   exact av _ _ ⟨k5,([]:List Int),(⟨he.n⟩:DigT),none,0,_,(hu),hK,(SR.nil:SR h2 (sL none 0 0) ([]:List Int)),⟨V,V,trivial⟩,(immT M),M,u_,m_,M,X⟩
  refine wT 1 [] 96 97 [] [(96,(.bool (E==6)))] V fun _=>zI 1 0 (fun it=>?_) fun it=>?_
  ·refine ab (zm (pT U 0) (zc (dE ex (⟨aq.n⟩:DigT) (2) (HS.callOwn a_ (i:=2) V) M M hT M) ?_));rintro _ o2 ⟨aA,hg,h3,ef,c6,rfl,ki,pA⟩;replace c6:=a_.bO c6;refine sgo 3 2 100 101 [] [] (Hr_ 4 4 Hn_) c6 V V fun mk o3 e8=>ah 2 V (aU 2 102 105 [13] [(13,(iI (2-aA)))] (Hr_ 2 4 (Ha_ (vi (n:=2-aA)) Hn_)) e8 V V fun _=>?_)
   have hL:=HS.snoc e8;refine ak (fun(mm:Nat) f H'=> ∃(kk:Int) (al:List Int) (dl:DigT) (an:Fp) (N:Option Addr) (T:Nat) (F':Fz),Fz.le h3 F'/\HS (Base.of H []) F' H' [bb,bk,(fP U [(iI dl.n)]),p8,(fP ap [(iI E),(iI ja),(iI jb),(iI jc),(iI aA),(sL N al.length T)]),bl,an] R/\OS F' (sL N al.length T) al an/\aB f [(3,(pT b1 0)),(4,(pT b3 0)),(5,(pT U 0)),(9,(pT ap 0)),(13,(iI kk))]/\mm=kk.toNat/\((al.length:Int)+kk=2-aA/\0<=kk)/\(al.all (bh c.r)=true)/\(in64 dl.n)/\(kk<=2)) _ ⟨2-aA,([]:List Int),(⟨hg.n⟩:DigT),[],none,0,_,fR,hL,(OS.nil:OS _ (sL none 0 0) ([]:List Int) []),⟨V,V,V,V,V,trivial⟩,V,l_,m_,M,M⟩ ?_;rintro n1 pg o4 ⟨kk,al,dl,an,N,T,ov,b7,ay,aa,e4,rfl,q1,q2,q3,q4⟩ hQ;refine au _ e4 (fun _=>?_);clear e4;replace hT:=(hT.mono ef).mono b7;refine am 2 V (wT 1 [] 106 107 [] [(107,(.bool (decide ((0:Int)<kk))))] V fun _=>zd 3 3 (fun iz=>?_) fun iz=>?_)
   ·refine aL V (eO 5 110 114 [] [(111,(sL N al.length T)),(112,(pT U 0)),(114,(iI c.r))] (Hr_ 1 4 (Hr_ 4 0 Hn_)) ay V V fun _=>wcD [U] (j:=2) ay V V (dE ex (⟨dl.n⟩:DigT) c.r (HS.callOwn ay.log0 (i:=2) V) M M hT M) V V (⟨.inl V,.inl V,.inl V,.inr (HS.nin ay (i:=4) (j:=2) V V e_ (List.Mem.head _)),q_⟩) ?_);rintro _ o5 ⟨g4,hh,ow,et,c7,rfl,kl,pB⟩;refine⟨_,_,_,c7,fun k6 c7=>?_⟩;replace aa:=aa.mono et;refine zld ([g4]:List Int) c7 V (RL.cs ⟨V,by omega⟩ RL.nl) V fun o8 pD pF k7 hw fd=>zad 6 aa fd (OS.sv hw fd (i:=7) V) V V V M (kb V) fun h4 kp kr k9 hz hM=>sdo 2 118 118 [] [] (Hr_ 9 4 Hn_) hM V V fun mx o6 hO=>bC 2 V (wU 1 [] 108 109 [13] [(13,(iI (kk-1)))] (vi (n:=kk-1)) V fun _=>?_)
    refine hQ _ _ _ ?_ ⟨kk-1,al++([g4]:List Int),(⟨hh.n⟩:DigT),kr,h4,kp,_,(fT (b7) et),(HS.sub hO (a03 _ _)),hz,⟨V,V,V,V,V,trivial⟩,V,l_,(all_app q2 (aZ.2 M)),M,M⟩;omega
   obtain⟨ox,hv,hP,hA,nm⟩:=OS.frz aa ay (i:=6) V;exact av _ _ ⟨aA,al,(⟨dl.n⟩:DigT),N,T,_,(fT (fT (ef) b7) hv),(HS.sub hP (a03 _ _)),hA,⟨V,V,trivial⟩,(immT M),M,M,X,M,M⟩
  exact av _ _ ⟨0,([]:List Int),(⟨aq.n⟩:DigT),none,0,_,fR,a_,(SR.nil:SR f9 (sL none 0 0) ([]:List Int)),⟨V,V,trivial⟩,(immT M),M,u_,m_,M,X⟩
 skip;rintro pf oR ⟨jq,ai,f0,Z,ag,ot,hm,hG,a9,e3,hjq,rjq,g1,e5,hck,oa⟩;refine au _ e3 (fun _=>?_);clear e3;refine am 3 V (sgr 1 119 119 [] [] (Hr_ 0 4 (Hr_ 1 1 Hn_)) hG V V fun mI o7 fi=>aj ⟨.inr V,_,(rC V (ldVN V V (i_ fi V) V) rN),(⟨(⟨E,ja,jb,jc,jq⟩:InsT),ai⟩:VInT),Z,ag,_,(fT (fT (fT (fT (fT (fT (b4) b5) ds) dt) dv) d1) hm),(HS.forget fi),V,M,M,M,M,M,a9,(vin_mk ho.2 g1.1 g1.2 e5 hja hjb hjc hjq),(decide_eq_true hck)⟩)
end m4
open m4
namespace m5
variable (ex:FuncId) {F:Fz} {H:Heap} {R:List Fp}
theorem vin_ldi{params regs r op:Int}(E:0<=r/\r<regs)(N:op=13\/op=38/\r<params):eP params regs ⟨⟨op,r,0,0,r⟩,[]⟩=true:=by
 rcases N with rfl|⟨rfl,hp⟩
 ·exact vin_mk e_ (.inr V) o_ V (opOK_t e_ E) (kV e_ V) (kV e_ V) V
 exact vin_mk e_ (.inr V) o_ V (opOK_t e_ E) (kV e_ V) (kV e_ V) (decide_eq_true ⟨E.1,hp⟩)
theorem eU{α:Type}{p:α->Bool}{l:List α}{x:α}(h:l.all p=true)(E:p x=true):(l++[x]).all p=true:=by rw[a2q,h];simp[E]
theorem blk_mk{params regs nb e g t f:Int}{l:List VInT}(h:l.all (eP params regs)=true)(E:e=1/\0<=t/\t<nb/\f=0/\g=0\/e=2/\0<=t/\t<nb/\0<=f/\f<nb/\0<=g/\g<regs\/e=3/\0<=g/\g<regs/\t=0/\f=0\/e=4/\1<=t/\t<33554432/\f=0/\g=0):jM params regs nb ⟨l,e,g,t,f⟩=true:=ju h (bM.2 E)
theorem ins_snoc{l:List BlkT}{x:BlkT}(h: ∀y∈l,y.v.length<=11)(N:x.v.length<=11): ∀y∈l++[x],y.v.length<=11:=fun y E=>by
 rcases a07.1 E with E|E
 ·exact h y E
 rw[a08]at E;rw[E];exact N
theorem ins_at{l:List BlkT}(h: ∀y∈l,y.v.length<=11)(j:Nat):(l.getD j v_).v.length<=11:=by
 rw[a02];rcases E:l[j]? with _|y
 ·exact a0D _
 exact h y (a0r E)
def fstOK(E:List VInT):Prop:= ∀q:Nat,q<E.length->(E.getD q v_).i.a=q/\((E.getD q v_).i.op=13\/(E.getD q v_).i.op=38)
theorem fst_snoc{N:List VInT}{x:VInT}(h:fstOK N)(U:x.i.a=(N.length:Int)/\(x.i.op=13\/x.i.op=38)):fstOK (N++[x]):=fun q T=>by
 rw[a01]at T;simp only[a05,a0b]at T;rcases a0g q N.length with E|E
 ·rw[a02,a0M E,←a02];exact h q E
 have:q=N.length:=M
 subst this;rw[a02,a0U (a0d _),a1S];exact U
theorem first_snoc{l:List BlkT}{x y:BlkT}(h:l.getD 0 v_=x)(E:0<l.length):(l++[y]).getD 0 v_=x:=by rw[a02,a0M E,←a02];exact h
theorem ck_ldi{v:VInT}(E:v.i.op=13\/v.i.op=38):ckI v=true:=decide_eq_true ⟨fun h=>by omega,fun h=>by omega⟩
structure vfG(x:VFnT)(params:Int):Prop where
 val:ca x=true
 par:x.m=params
 r:x.r=9+params
 nb:2<=x.u.length/\x.u.length<=7
 v: ∀j,(x.u.getD j v_).v.length<=11
 ck:x.u.all (fun y=>y.v.all ckI)=true
 fst: ∃fi,x.u.getD 0 v_=⟨fi,1,0,1,0⟩/\(fi.length:Int)=x.r/\fstOK fi
theorem val_mk{p r:Int}{l:List BlkT}{n:Int}(h:0<=p/\p<=6/\0<=r/\r<=3000/\1<=l.length/\l.length<=1000)(N:(l.length:Int)=n)(E:l.all (jM p r n)=true):ca ⟨p,r,l⟩=true:=by subst N;exact(val_yes (c:=⟨p,r,l⟩) h E).symm
theorem vf_c{ao:Option Addr}{aA:Nat}(l:List Int)(params:Int)(hs:HS (.of H []) F H [] R)(hl:SR F (sL ao l.length aA) l)(hT:TB 37 tabC F)(hp:0<=params/\params<=2)(ru:l.length<=1000):kKt ex 27 [(sL ao l.length aA),(iI params)] H fun v H'=> ∃(x:VFnT) (d1:Option Addr) (g7:Nat) (F':Fz),Fz.le F F'/\HS (.of H []) F' H' [] R/\v= .agg ⟨[iI x.m,iI x.r,sL d1 x.u.length g7]⟩/\in64 x.m/\in64 x.r/\SR F' (sL d1 x.u.length g7) x.u/\(vfG x params):=by
 refine aC Tryz.func27 V V (am 1 V (ab (zn hs V fun b1 H2 n3=>ah 2 V (ab ?_))));refine bL 2 0 16 17 [] [(17,(aG [(iI params),(iI 9),(sL none 0 0)]))] Hn_ (by kernel_rfl) V fun _=>zn n3 V fun b4 H5 n4=>sgo 1 3 1 0 [] [] (Hr_ 3 1 Hn_) n4 V V fun qi H6 n6=>ah 2 V (wR 3 [] 18 22 [6] [(6,(iI (1+(if(5:Int)<((l.length/6:Nat):Int) then(5:Int) else((l.length/6:Nat):Int)))))] (vA (vA (show(6:Int)≠0 from by decide) (vi (n:=((l.length/6:Nat):Int)))) (vA (vi (n:=1+(if(5:Int)<((l.length/6:Nat):Int) then(5:Int) else((l.length/6:Nat):Int)))) trivial)) V fun _=>?_)
 have hM:1<=(1+(if(5:Int)<((l.length/6:Nat):Int) then(5:Int) else((l.length/6:Nat):Int)))/\(1+(if(5:Int)<((l.length/6:Nat):Int) then(5:Int) else((l.length/6:Nat):Int)))<=6:=M
 let a3:Fp:=(fP b1 [(iI 0),(iI 0),(sL none 0 0)])
 refine wT 2 [] 1 0 [7] [(7,(iI 0))] V fun _=>ak (fun(mm:Nat) f H'=> ∃(i:Nat) (F':Fz),Fz.le F F'/\HS (Base.of H []) F' H' [a3,(fP b4 [(iI params),(iI (9+(i:Int))),(sL none 0 0)])] R/\aB f [(0,(sL ao l.length aA)),(1,(iI params)),(4,(pT b1 0)),(5,(pT b4 0)),(6,(iI (1+(if(5:Int)<((l.length/6:Nat):Int) then(5:Int) else((l.length/6:Nat):Int))))),(7,(iI (i:Int)))]/\mm=(params-(i:Int)).toNat/\((i:Int)<=params)) _ ⟨0,_,fR,n6,⟨V,V,V,V,V,V,trivial⟩,V,M⟩ ?_
 rintro qw f9 H9 ⟨i,F9,c5,hA,hz,rfl,q1⟩ oa;refine au _ hz (fun _=>?_);clear hz;replace hT:=hT.mono c5;replace hl:=hl.mono c5;refine am 2 V (wT 1 [] 23 25 [] [(25,(.bool (decide ((i:Int)<params))))] V fun _=>zd 3 5 (fun lf=>?_) fun lf=>?_)
 ·refine sgr 2 28 31 [] [] (Hr_ 1 1 (Ha_ (vi (n:=(9+(i:Int))+1)) (Hr_ 4 1 Hn_))) hA V V fun o0 pB h8=>wU 1 [] 26 27 [7] [(7,(iI ((i:Int)+1)))] (vi (n:=(i:Int)+1)) V fun _=>?_
  refine oa _ _ _ ?_ ⟨i+1,_,(c5),h8,⟨V,V,V,V,V,V,trivial⟩,V,M⟩;omega
 refine ab (zn hA V fun b3 pC h9=>ah 3 V (wT 2 [] 1 0 [9] [(9,(iI 0))] V fun _=>?_));have ib:=HS.snoc h9;let hI:Fp:=(fP b4 [(iI params),(iI (9+(i:Int))),(sL none 0 0)])
 refine ak (fun(mm:Nat) f H'=> ∃(fi:List VInT) (r:Nat) (av:Fp) (T:Option Addr) (a_:Nat) (F':Fz),Fz.le F9 F'/\HS (Base.of H []) F' H' [a3,hI,(fP b3 [(sL T fi.length a_),(iI 0),(iI 0),(iI 0),(iI 0)]),av] R/\OS F' (sL T fi.length a_) fi av/\aB f [(0,(sL ao l.length aA)),(1,(iI params)),(4,(pT b1 0)),(5,(pT b4 0)),(6,(iI (1+(if(5:Int)<((l.length/6:Nat):Int) then(5:Int) else((l.length/6:Nat):Int))))),(8,(pT b3 0)),(9,(iI (r:Int)))]/\mm=(9+(i:Int)-(r:Int)).toNat/\(fi.length=r)/\(fi.all (eP params (9+(i:Int)))=true)/\(fi.all ckI=true)/\(fstOK fi)/\((r:Int)<=9+(i:Int))) _ ⟨([]:List VInT),0,[],none,0,_,fR,ib,(OS.nil:OS _ (sL none 0 0) ([]:List VInT) []),⟨V,V,V,V,V,V,V,trivial⟩,V,m_,m_,m_,(by intro q hq;cases hq),M⟩ ?_;rintro pg qa pD ⟨fi,r,av,T,a_,k3,a8,b8,ar,e0,rfl,w1,w2,w4,w5,w3⟩ ki;refine au _ e0 (fun _=>?_);clear e0;replace hT:=hT.mono a8;replace hl:=hl.mono a8;refine am 2 V (aU 1 32 35 [] [(35,(.bool (decide ((r:Int)<9+(i:Int)))))] (Hr_ 2 1 Hn_) b8 V V fun _=>zd 4 5 (fun lr=>?_) fun lr=>?_)
 ·refine ab (bL 3 0 38 40 [] [(40,(aG [(iI 13),(iI (r:Int)),(iI 0),(iI 0),(iI (r:Int))]))] Hn_ (by kernel_rfl) V fun _=>zn b8 V fun hw pE ih=>sgo 1 4 1 0 [] [] (Hr_ 4 4 Hn_) ih V V fun o1 pF f2=>ah 3 V (wT 1 [] 41 43 [] [(43,(.bool (decide ((r:Int)<params))))] V fun _=>?_));refine bj (fun f H'=> ∃(vo:Int) (F':Fz),Fz.le k3 F'/\HS (Base.of H []) F' H' [a3,hI,(fP b3 [(sL T fi.length a_),(iI 0),(iI 0),(iI 0),(iI 0)]),av,(fP hw [(iI vo),(iI (r:Int)),(iI 0),(iI 0),(iI (r:Int))])] R/\aB f [(0,(sL ao l.length aA)),(1,(iI params)),(4,(pT b1 0)),(5,(pT b4 0)),(6,(iI (1+(if(5:Int)<((l.length/6:Nat):Int) then(5:Int) else((l.length/6:Nat):Int))))),(8,(pT b3 0)),(9,(iI (r:Int))),(10,(pT hw 0))]/\(vo=13\/vo=38/\(r:Int)<params)) (fun g4=>?_) ?_
  ·refine zd 0 0 (fun l0=>?_) fun l0=>?_
   ·refine sgr 0 44 46 [] [] (Hr_ 3 4 Hn_) f2 V V fun o2 pH ik=>?_
    exact g4 _ _ ⟨38,_,fR,ik,⟨V,V,V,V,V,V,V,V,trivial⟩,M⟩
   exact g4 _ _ ⟨13,_,fR,f2,⟨V,V,V,V,V,V,V,V,trivial⟩,M⟩
  skip;rintro qb pG ⟨vo,pm,d2,f3,e8,hvo⟩;refine au _ e8 (fun _=>?_);clear e8;replace ar:=ar.mono d2;refine am 1 V (ab (aY 4 0 47 50 [] [(48,(sL T fi.length a_)),(50,(aG [(iI vo),(iI (r:Int)),(iI 0),(iI 0),(iI (r:Int)),(sL none 0 0)]))] (Hr_ 1 2 (Hr_ 2 4 Hn_)) f3 V V fun _=>zlo ([(⟨(⟨vo,(r:Int),0,0,(r:Int)⟩:InsT),([]:List Int)⟩:VInT)]:List VInT) f3 V (RL.cs ⟨none,0,V,by(dsimp only;omega),by(dsimp only;omega),by(dsimp only;omega),by(dsimp only;omega),by(dsimp only;omega),SR.nil⟩ RL.nl) V fun p7 qt qx pI h2 f4=>zao 3 ar f4 (OS.sv h2 f4 (i:=5) V) V V V M fun k8 ob oh pJ h3 il=>sgo 2 6 53 53 [] [] (Hr_ 7 2 Hn_) il V V fun o3 pK it=>?_));refine ah 2 V (wU 1 [] 36 37 [9] [(9,(iI ((r:Int)+1)))] (vi (n:=(r:Int)+1)) V fun _=>?_);refine ki _ _ _ ?_ ⟨fi++([(⟨(⟨vo,(r:Int),0,0,(r:Int)⟩:InsT),([]:List Int)⟩:VInT)]:List VInT),r+1,oh,k8,ob,_,(fT (a8) d2),(HS.sub it (a03 _ _)),h3,⟨V,V,V,V,V,V,V,trivial⟩,V,l_,(eU w2 (vin_ldi M M)),(eU w4 (ck_ldi M)),(fst_snoc w5 ⟨by rw[w1],by(dsimp only;omega)⟩),M⟩;omega
 refine sgr 2 54 55 [] [] (Hr_ 1 2 (Hr_ 3 2 Hn_)) b8 V V fun o4 pL f5=>ab (aY 3 0 56 58 [] [(57,(sL none 0 0)),(58,(aG [(sL T fi.length a_),(iI 1),(iI 0),(iI 1),(iI 0)]))] (Hr_ 1 1 (Hr_ 2 2 Hn_)) f5 V V fun _=>?_)
 obtain⟨dt,b5,iz,h7,pe⟩:=OS.frz ar f5 (i:=3) V;refine zlo ([(⟨fi,1,0,1,0⟩:BlkT)]:List BlkT) iz V (RL.cs ⟨T,a_,V,by(dsimp only;omega),by(dsimp only;omega),by(dsimp only;omega),by(dsimp only;omega),h7⟩ RL.nl) V fun p8 qu dl pM h4 i1=>?_
 have f6:=HS.snoc i1;refine zao 5 (OS.nil:OS dt (sL none 0 0) ([]:List BlkT) []) f6 (OS.sv h4 f6 (i:=4) V) V V V M fun hv hB hC pN b7 i2=>?_
 have b7:OS dt (sL hv ([(⟨fi,1,0,1,0⟩:BlkT)]:List BlkT).length hB) ([(⟨fi,1,0,1,0⟩:BlkT)]:List BlkT) hC:=b7;let dn:Fp:=(fP b3 [(sL T fi.length a_),(iI 1),(iI 0),(iI 1),(iI 0)])
 refine sgo 2 5 61 61 [] [] (Hr_ 6 1 Hn_) i2 V V fun o5 pO i3=>ah 3 V (wT 2 [] 1 0 [11] [(11,(iI 0))] V fun _=>ak (fun(mm:Nat) f H'=> ∃(bl:List BlkT) (b:Nat) (an:Fp) (aa:Option Addr) (ag:Nat) (F':Fz),Fz.le dt F'/\HS (Base.of H []) F' H' [a3,(fP b4 [(iI params),(iI (9+(i:Int))),(sL aa bl.length ag)]),dn,[],dl,an] R/\OS F' (sL aa bl.length ag) bl an/\aB f [(0,(sL ao l.length aA)),(4,(pT b1 0)),(5,(pT b4 0)),(6,(iI (1+(if(5:Int)<((l.length/6:Nat):Int) then(5:Int) else((l.length/6:Nat):Int))))),(11,(iI (b:Int)))]/\mm=((1+(if(5:Int)<((l.length/6:Nat):Int) then(5:Int) else((l.length/6:Nat):Int)))-(b:Int)).toNat/\(bl.length=b+1)/\(bl.all (jM params (9+(i:Int)) ((1+(if(5:Int)<((l.length/6:Nat):Int) then(5:Int) else((l.length/6:Nat):Int)))+1))=true)/\(∀y∈bl,y.v.length<=11)/\(bl.all (fun y=>y.v.all ckI)=true)/\(bl.getD 0 v_=⟨fi,1,0,1,0⟩)/\((b:Int)<=(1+(if(5:Int)<((l.length/6:Nat):Int) then(5:Int) else((l.length/6:Nat):Int))))) _ ⟨([(⟨fi,1,0,1,0⟩:BlkT)]:List BlkT),0,hC,hv,hB,_,fR,i3,b7,⟨V,V,V,V,V,trivial⟩,V,m_,(eU (l:=[]) V (blk_mk w2 M)),(ins_snoc (l:=[]) o_ M),(eU (l:=[]) V w4),m_,M⟩ ?_)
 rintro ph qc pP ⟨bl,b,an,aa,ag,k4,a9,f7,E,fd,rfl,e1,e2,e3,e5,e6,e4⟩ kk;refine au _ fd (fun _=>?_);clear fd;replace hT:=(hT.mono b5).mono a9;replace hl:=(hl.mono b5).mono a9;refine am 2 V (wT 1 [] 62 64 [] [(64,(.bool (decide ((b:Int)<1+(if(5:Int)<((l.length/6:Nat):Int) then(5:Int) else((l.length/6:Nat):Int))))))] V fun _=>zd 4 5 (fun l1=>?_) fun l1=>?_)
 ·refine ab (zn f7 V fun a1 pQ i4=>ah 3 V (wT 2 [] 1 0 [13] [(13,(iI 0))] V fun _=>?_));have jb:=HS.snoc i4;let ha:Fp:=(fP b4 [(iI params),(iI (9+(i:Int))),(sL aa bl.length ag)])
  refine ak (fun(mm:Nat) f H'=> ∃(xi:List VInT) (k:Nat) (ap:Fp) (U:Option Addr) (Z:Nat) (F':Fz),Fz.le k4 F'/\HS (Base.of H []) F' H' [a3,ha,dn,[],dl,an,(fP a1 [(sL U xi.length Z),(iI 0),(iI 0),(iI 0),(iI 0)]),ap] R/\OS F' (sL U xi.length Z) xi ap/\aB f [(0,(sL ao l.length aA)),(4,(pT b1 0)),(5,(pT b4 0)),(6,(iI (1+(if(5:Int)<((l.length/6:Nat):Int) then(5:Int) else((l.length/6:Nat):Int))))),(11,(iI (b:Int))),(12,(pT a1 0)),(13,(iI (k:Int)))]/\mm=5-k/\(xi.length=k)/\(xi.all (eP params (9+(i:Int)))=true)/\(xi.all ckI=true)/\(k<=5)) _ ⟨([]:List VInT),0,[],none,0,_,fR,jb,(OS.nil:OS _ (sL none 0 0) ([]:List VInT) []),⟨V,V,V,V,V,V,V,trivial⟩,V,m_,m_,m_,M⟩ ?_;rintro pi qd hu ⟨xi,k,ap,U,Z,pn,a2,aw,N,fj,rfl,z1,z2,z4,z3⟩ kl;refine au _ fj (fun _=>?_);clear fj;replace hT:=hT.mono a2;replace hl:=hl.mono a2;replace E:=E.mono a2;refine am 2 V (wR 1 [] 67 77 [] [(77,(.bool ((decide ((k:Int)<5))&&(decide ((6 *(b:Int))+(k:Int)<(l.length:Int))))))] (vA (fun(g1:(decide ((k:Int)<5))=true)=>(vi (n:=6 *(b:Int)) (by(try simp only[BS]at g1);(first|omega|(dsimp only;omega))))) (vA (fun(g1:(decide ((k:Int)<5))=true)=>(vi (n:=(6 *(b:Int))+(k:Int)) (by(try simp only[BS]at g1);(first|omega|(dsimp only;omega))))) trivial)) V fun _=>zI 3 5 (fun l2=>?_) fun l2=>?_)
  ·refine aL V ?_;obtain⟨oX,g2⟩:=Sv.view (SR.sv hl aw);have qg:=fI (g2 ((6 *b)+k));refine eO 10 80 89 [] [(81,(sL U xi.length Z)),(88,(iI (l.getD ((6 *b)+k) 0))),(89,(aG [(iI params),(iI (9+(i:Int))),(sL aa bl.length ag)]))] (Hr_ 1 6 (Ha_ (vi (n:=6 *(b:Int))) (Ha_ (vi (n:=(6 *(b:Int))+(k:Int))) (Ha_ (Sv.ix (j:=(6 *(b:Int))+(k:Int)) (SR.sv hl aw)) (Hl_ 8 (ql 3 0 (hc0 (vI (g2 ((6 *b)+k)))) V V) (Hr_ 9 1 Hn_)))))) aw V V fun _=>ba (W:=[]) (aO V V V) V V V (m4.vi_c ex (l.getD ((6 *b)+k) 0) (⟨params,9+(i:Int),bl⟩:VFnT) (HS.call aw.log0) M M M hT M) (⟨.inl V,.inl V,.inl V,.inl V,.inl V,.inl V,.inl V,.inl V,.inr a0k,q_⟩) ?_
   rintro _ k7 ⟨hH,dv,g6,pq,ef,ay,rfl,kr,kx,ky,kz,k0,ds,qj,pd⟩;refine⟨Wr.did ay.log,fun ko he=>?_⟩;replace ay:=HS.back aw.log0 V ay;replace ay:=HS.lg ay aw he;generalize ({k7 with log:=ko}:Heap)=oT at ay⊢;replace N:=N.mono ef;refine zld ([hH]:List VInT) ay V (RL.cs ⟨dv,g6,V,by omega,by omega,by omega,by omega,by omega,ds⟩ RL.nl) V fun p9 qv qy oU h5 f8=>zad 7 N f8 (OS.sv h5 f8 (i:=8) V) V V V M (kb V) fun k9 oc ol oV h6 jq=>sdo 2 93 93 [] [] (Hr_ 14 6 Hn_) jq V V fun o6 pR jw=>bC 2 V (wU 1 [] 78 79 [13] [(13,(iI ((k:Int)+1)))] (vi (n:=(k:Int)+1)) V fun _=>?_)
   refine kl _ _ _ ?_ ⟨xi++([hH]:List VInT),k+1,ol,k9,oc,_,(fT (a2) ef),(HS.sub jw (a03 _ _)),h6,⟨V,V,V,V,V,V,V,trivial⟩,V,l_,(eU z2 X),(eU z4 X),M⟩;omega
  refine wT 3 [] 1 0 [14] [(14,(iI 0))] V fun _=>wR 1 [] 94 99 [] [(99,(.bool (decide ((6 *(b:Int))+5<(l.length:Int)))))] (vA (vi (n:=6 *(b:Int))) (vA (vi (n:=(6 *(b:Int))+5)) trivial)) V fun _=>bj (fun f H'=> ∃(nn:Int),H'=hu/\aB f [(0,(sL ao l.length aA)),(4,(pT b1 0)),(5,(pT b4 0)),(6,(iI (1+(if(5:Int)<((l.length/6:Nat):Int) then(5:Int) else((l.length/6:Nat):Int))))),(11,(iI (b:Int))),(12,(pT a1 0)),(14,(iI nn))]/\(in64 nn)) (fun g5=>?_) ?_
  ·refine zd 0 0 (fun l3=>?_) fun l3=>?_
   ·obtain⟨oY,g3⟩:=Sv.view (SR.sv hl aw);have qh:=fI (g3 ((6 *b)+5));refine wrp 0 100 105 [14] [(14,(iI (l.getD ((6 *b)+5) 0)))] (Ha_ (vi (n:=6 *(b:Int))) (Ha_ (vi (n:=(6 *(b:Int))+5)) (Ha_ (Sv.ix (j:=(6 *(b:Int))+5) (SR.sv hl aw)) (Hl_ 5 (ql 3 0 (vI (g3 ((6 *b)+5))) V V) Hn_)))) (by kernel_rfl) V fun _=>?_
    exact g5 _ _ ⟨(l.getD ((6 *b)+5) 0),V,⟨V,V,V,V,V,V,V,trivial⟩,M⟩
   exact g5 _ _ ⟨0,V,⟨V,V,V,V,V,V,V,trivial⟩,M⟩
  skip;rintro qe hu ⟨nn,rfl,f0,hnn⟩;refine au _ f0 (fun _=>?_);clear f0;refine am 2 V (ab (wTo 2 0 [] 106 107 [] [(107,(aG [(iI nn)]))] V fun _=>bd (aR aw V V) V V ?_));rintro _ pS _ ⟨ax,rfl,go,_⟩;refine za (pT ax 0) (ah 3 V (ab (zm (pT ax 0) (zc (m4.dE ex (⟨nn⟩:DigT) (6) (HS.callOwn go (i:=8) V) M M hT M) ?_))));rintro _ pU ⟨g8,a5,k5,bb,aq,rfl,mI,qk⟩;replace aq:=go.bO aq;replace hT:=hT.mono bb;replace E:=E.mono bb;replace N:=N.mono bb;refine ah 3 V (wT 1 [] 127 128 [] [(127,(.bool (g8==0)))] V fun _=>bj (fun f H'=> ∃(xe:Int) (xg:Int) (xt:Int) (xf:Int) (dd:DigT) (F':Fz),Fz.le k5 F'/\HS (Base.of H []) F' H' [a3,ha,dn,[],dl,an,(fP a1 [(sL U xi.length Z),(iI xe),(iI xg),(iI xt),(iI xf)]),ap,(fP ax [(iI dd.n)])] R/\aB f [(0,(sL ao l.length aA)),(4,(pT b1 0)),(5,(pT b4 0)),(6,(iI (1+(if(5:Int)<((l.length/6:Nat):Int) then(5:Int) else((l.length/6:Nat):Int))))),(11,(iI (b:Int))),(12,(pT a1 0))]/\((xe=1/\0<=xt/\xt<((1+(if(5:Int)<((l.length/6:Nat):Int) then(5:Int) else((l.length/6:Nat):Int))))+1/\xf=0/\xg=0\/xe=2/\0<=xt/\xt<((1+(if(5:Int)<((l.length/6:Nat):Int) then(5:Int) else((l.length/6:Nat):Int))))+1/\0<=xf/\xf<((1+(if(5:Int)<((l.length/6:Nat):Int) then(5:Int) else((l.length/6:Nat):Int))))+1/\0<=xg/\xg<9+(i:Int)\/xe=3/\0<=xg/\xg<9+(i:Int)/\xt=0/\xf=0\/xe=4/\1<=xt/\xt<33554432/\xf=0/\xg=0))/\(in64 dd.n)) (fun b2=>?_) ?_)
  ·refine zI 0 1 (fun l4=>?_) fun l4=>?_
   ·refine ab (bL 2 0 129 130 [] [(129,(pT ax 0)),(130,(iI (1+(if(5:Int)<((l.length/6:Nat):Int) then(5:Int) else((l.length/6:Nat):Int)))))] Hn_ (by kernel_rfl) V fun _=>zc (m4.dE ex (⟨a5.n⟩:DigT) (1+(if(5:Int)<((l.length/6:Nat):Int) then(5:Int) else((l.length/6:Nat):Int))) (HS.callOwn aq (i:=8) V) M M hT M) ?_);rintro _ pW ⟨hE,hL,pu,hW,cc,rfl,m0,qm⟩;replace cc:=aq.bO cc;refine sgo 5 3 132 134 [] [] (Ha_ (vi (n:=1+hE)) (Hr_ 5 6 (Hr_ 7 6 Hn_))) cc V V fun o7 pX ka=>ah 0 V ?_
    exact b2 _ _ ⟨1,0,1+hE,0,(⟨hL.n⟩:DigT),_,(hW),ka,⟨V,V,V,V,V,V,trivial⟩,M,M⟩
   refine wT 1 [] 135 136 [] [(135,(.bool (g8==1)))] V fun _=>zI 0 1 (fun l5=>?_) fun l5=>?_
   ·refine ab (zm (pT ax 0) (zc (m4.dE ex (⟨a5.n⟩:DigT) (9) (HS.callOwn aq (i:=8) V) M M hT M) ?_));rintro _ pY ⟨hF,hO,pw,hX,cg,rfl,ne,qo⟩;replace cg:=aq.bO cg;refine sgo 5 2 139 141 [] [] (Ha_ (vi (n:=1+hF)) (Hr_ 4 6 (Hr_ 6 6 Hn_))) cg V V fun o8 pZ kc=>ah 0 V ?_
    exact b2 _ _ ⟨4,0,1+hF,0,(⟨hO.n⟩:DigT),_,(hX),kc,⟨V,V,V,V,V,V,trivial⟩,M,M⟩
   refine wT 1 [] 142 143 [] [(142,(.bool (g8==2)))] V fun _=>zI 0 0 (fun l7=>?_) fun l7=>?_
   ·refine ab (aY 3 0 144 146 [] [(144,(pT ax 0)),(146,(iI (9+(i:Int))))] (Hr_ 2 1 Hn_) aq V V fun _=>zc (m4.dE ex (⟨a5.n⟩:DigT) (9+(i:Int)) (HS.callOwn aq (i:=8) V) M M hT M) ?_);rintro _ p0 ⟨oo,hP,px,h0,ch,rfl,nm,qp⟩;replace ch:=aq.bO ch;refine sgo 4 4 148 149 [] [] (Hr_ 5 6 (Hr_ 7 6 Hn_)) ch V V fun o9 p2 kd=>ah 0 V ?_
    exact b2 _ _ ⟨3,oo,0,0,(⟨hP.n⟩:DigT),_,(h0),kd,⟨V,V,V,V,V,V,trivial⟩,M,M⟩
   refine ab (aY 3 0 111 113 [] [(111,(pT ax 0)),(113,(iI (9+(i:Int))))] (Hr_ 2 1 Hn_) aq V V fun _=>zc (m4.dE ex (⟨a5.n⟩:DigT) (9+(i:Int)) (HS.callOwn aq (i:=8) V) M M hT M) ?_);rintro _ p3 ⟨ot,hQ,py,et,bk,rfl,nx,qq⟩;replace bk:=aq.bO bk;replace hT:=hT.mono et;refine bL 2 4 115 116 [] [(115,(pT ax 0)),(116,(iI (1+(if(5:Int)<((l.length/6:Nat):Int) then(5:Int) else((l.length/6:Nat):Int)))))] Hn_ (by kernel_rfl) V fun _=>zc (m4.dE ex (⟨hQ.n⟩:DigT) (1+(if(5:Int)<((l.length/6:Nat):Int) then(5:Int) else((l.length/6:Nat):Int))) (HS.callOwn bk (i:=8) V) M M hT M) ?_
   rintro _ p4 ⟨g9,hR,pz,ez,bz,rfl,n1,qr⟩;replace bz:=bk.bO bz;replace hT:=hT.mono ez;refine bL 3 7 118 120 [] [(118,(iI (1+g9))),(119,(pT ax 0)),(120,(iI (1+(if(5:Int)<((l.length/6:Nat):Int) then(5:Int) else((l.length/6:Nat):Int)))))] (Ha_ (vi (n:=1+g9)) Hn_) (by kernel_rfl) V fun _=>zc (m4.dE ex (⟨hR.n⟩:DigT) (1+(if(5:Int)<((l.length/6:Nat):Int) then(5:Int) else((l.length/6:Nat):Int))) (HS.callOwn bz (i:=8) V) M M hT M) ?_
   rintro _ p5 ⟨hG,hS,pA,h1,ci,rfl,n2,qs⟩;replace ci:=bz.bO ci;refine sgo 9 11 122 126 [] [] (Ha_ (vi (n:=1+hG)) (Hr_ 13 6 (Hr_ 15 6 (Hr_ 17 6 (Hr_ 19 6 Hn_))))) ci V V fun pc p6 kg=>ah 0 V ?_
   exact b2 _ _ ⟨2,ot,1+g9,1+hG,(⟨hS.n⟩:DigT),_,(fT (fT (et) ez) h1),kg,⟨V,V,V,V,V,V,trivial⟩,M,M⟩
  skip;rintro qf pV ⟨xe,xg,xt,xf,dd,k6,b6,b9,f1,hD,hdd⟩;refine au _ f1 (fun _=>?_);clear f1;replace E:=E.mono b6;replace N:=N.mono b6;refine am 4 V (wrp 1 150 158 [] [(158,(.bool (((b:Int)==(1+(if(5:Int)<((l.length/6:Nat):Int) then(5:Int) else((l.length/6:Nat):Int)))-1)&&(xe==1))))] (Ha_ (vi (n:=(1+(if(5:Int)<((l.length/6:Nat):Int) then(5:Int) else((l.length/6:Nat):Int)))-1)) (be 6 (fun _=>(ql 3 1 (HS.hc b9 (i:=6) V) V V)) Hn_)) V V fun _=>bj (fun f H'=> ∃(ye:Int) (yg:Int) (yt:Int) (F':Fz),Fz.le k6 F'/\HS (Base.of H []) F' H' [a3,ha,dn,[],dl,an,(fP a1 [(sL U xi.length Z),(iI ye),(iI yg),(iI yt),(iI xf)]),ap,(fP ax [(iI dd.n)])] R/\aB f [(0,(sL ao l.length aA)),(4,(pT b1 0)),(5,(pT b4 0)),(6,(iI (1+(if(5:Int)<((l.length/6:Nat):Int) then(5:Int) else((l.length/6:Nat):Int))))),(11,(iI (b:Int))),(12,(pT a1 0))]/\((ye=1/\0<=yt/\yt<((1+(if(5:Int)<((l.length/6:Nat):Int) then(5:Int) else((l.length/6:Nat):Int))))+1/\xf=0/\yg=0\/ye=2/\0<=yt/\yt<((1+(if(5:Int)<((l.length/6:Nat):Int) then(5:Int) else((l.length/6:Nat):Int))))+1/\0<=xf/\xf<((1+(if(5:Int)<((l.length/6:Nat):Int) then(5:Int) else((l.length/6:Nat):Int))))+1/\0<=yg/\yg<9+(i:Int)\/ye=3/\0<=yg/\yg<9+(i:Int)/\yt=0/\xf=0\/ye=4/\1<=yt/\yt<33554432/\xf=0/\yg=0))) (fun dk=>?_) ?_)
  ·refine zI 0 0 (fun hK=>?_) fun hK=>?_
   ·refine sgr 0 159 161 [] [] (Hr_ 1 6 (Hr_ 3 6 (Hr_ 5 6 Hn_))) b9 V V fun oz oM hk=>?_
    exact dk _ _ ⟨3,0,0,_,fR,hk,⟨V,V,V,V,V,V,trivial⟩,M⟩
   exact dk _ _ ⟨xe,xg,xt,_,fR,b9,⟨V,V,V,V,V,V,trivial⟩,M⟩
  skip;rintro oZ oL ⟨ye,yg,yt,oH,a7,c7,c6,hY⟩;refine au _ c6 (fun _=>?_);clear c6;replace N:=N.mono a7;refine am 1 V (ab (aY 3 0 162 164 [] [(163,(sL aa bl.length ag)),(164,(aG [(sL U xi.length Z),(iI ye),(iI yg),(iI yt),(iI xf)]))] (Hr_ 1 1 (Hr_ 2 6 Hn_)) c7 V V fun _=>?_));obtain⟨oI,co,hm,hh,oF⟩:=OS.frz N c7 (i:=7) V;replace E:=(E.mono a7).mono co;refine zlo ([(⟨xi,ye,yg,yt,xf⟩:BlkT)]:List BlkT) hm V (RL.cs ⟨U,Z,V,by(dsimp only;omega),by(dsimp only;omega),by(dsimp only;omega),by(dsimp only;omega),hh⟩ RL.nl) V fun oW pf pj oO hf c8=>zao 5 E c8 (OS.sv hf c8 (i:=9) V) V V V M fun hJ kn kp oP hg hn=>sgo 2 5 167 167 [] [] (Hr_ 6 1 Hn_) hn V V fun oD oQ hr=>ah 2 V (wU 1 [] 65 66 [11] [(11,(iI ((b:Int)+1)))] (vi (n:=(b:Int)+1)) V fun _=>?_)
  refine kk _ _ _ ?_ ⟨bl++([(⟨xi,ye,yg,yt,xf⟩:BlkT)]:List BlkT),b+1,kp,hJ,kn,_,(fT (fT (fT (fT (fT (a9) a2) bb) b6) a7) co),(HS.sub hr (a03 _ _)),hg,⟨V,V,V,V,V,trivial⟩,V,l_,(eU e2 (blk_mk z2 M)),(ins_snoc e3 M),(eU e5 z4),(first_snoc e6 M),M⟩;omega
 refine sgr 1 168 168 [] [] (Hr_ 0 1 (Hr_ 1 0 Hn_)) f7 V V fun oE oR c9=>?_
 obtain⟨oJ,hb,ht,hj,oG⟩:=OS.frz E c9 (i:=5) V;refine aj ⟨.inr V,_,(rC V (ldVN V V (h_ c9 V) V) rN),(⟨params,9+(i:Int),bl⟩:VFnT),aa,ag,_,(fT (fT (fT (fT (c5) a8) b5) a9) hb),(HS.forget ht),V,M,M,hj,(⟨val_mk M M e2,V,by(dsimp only;omega),⟨by(dsimp only;omega),by(dsimp only;omega)⟩,ins_at e3,e5,fi,e6,by(dsimp only;omega),w5⟩)⟩
end m5
open m5
namespace m6
variable (ex:FuncId) {F:Fz} {H:Heap} {R:List Fp}
def jC(l:List Int)(n:Int):Nat:=(l.takeWhile (fun x=>decide (x<n))).length
def dB(l:List Int)(n:Int):List Int:=if jC l n<l.length/\l.getD (jC l n) 0=n then l else l.take (jC l n)++[n]++l.drop (jC l n)
theorem pre_eq: ∀{l:List Int} {n:Int} {k:Nat},k<=l.length->(∀j,j<k->l.getD j 0<n)->(k<l.length->¬l.getD k 0<n)->k=jC l n
 | [],n,k,hk,_,_=>by simp at hk;subst hk;rfl
 |x::l,n,0,_,_,h=>by have E: ¬x<n:=h o_;unfold jC;rw[List.takeWhile_cons_of_neg (by simpa using E)];rfl
 |x::l,n,k+1,hk,hl,h=>by have E:x<n:=hl 0 M;have:=pre_eq (l:=l) (n:=n) (k:=k) (by simpa using hk) (fun j N=>hl (j+1) M) (fun N=>h (by simpa using N));unfold jC at this⊢;rw[List.takeWhile_cons_of_pos (by simpa using E),a05,←this]
theorem nC{l:List Int}{n:Int}{k:Nat}(N:k=jC l n)(h:k<l.length)(E:l.getD k 0=n):l=dB l n:=by subst N;unfold dB;rw[if_pos ⟨h,E⟩]
theorem ins_new{l:List Int}{n:Int}{k:Nat}(E:k=jC l n)(h: ¬(k<l.length/\l.getD k 0=n)):l.take k++[n]++l.drop k=dB l n:=by subst E;unfold dB;rw[if_neg h]
theorem ins_len{l:List Int}{n:Int}:(dB l n).length<=l.length+1:=by
 unfold dB;split
 ·omega
 simp only[a01,a0p,a0H,a05,a0b];omega
def jJ(l:List Int)(n:Int):Bool:=l.any (fun x=>decide (x=n))
theorem con_no{l:List Int}{n:Int}{k:Nat}(h: ∀j,j<k->¬l.getD j 0=n)(T:l.length<=k):false=jJ l n:=by symm;unfold jJ;rw[List.any_eq_false];intro x N;obtain⟨j,E,rfl⟩:=a0t.1 N;have:=h j M;rw[a02,a06 E]at this;simpa using this
theorem con_yes{l:List Int}{n:Int}{k:Nat}(E:k<l.length)(h:l.getD k 0=n):true=jJ l n:=by symm;unfold jJ;rw[List.any_eq_true];refine⟨l.getD k 0,?_,by simpa using h⟩;rw[a02,a06 E];exact a10 E
theorem lt_succ{p:Nat->Prop}{k:Nat}(h: ∀j,j<k->p j)(c:p k): ∀j,j<k+1->p j:=fun j N=>by
 rcases Nat.lt_succ_iff_lt_or_eq.1 N with E|rfl
 ·exact h j E
 exact c
theorem dz{ad:Option Addr}{ai:Nat}(l:List Int)(n:Int)(hs:HS (.of H []) F H [] R)(hl:SR F (sL ad l.length ai) l)(hn:in64 n)(hT:TB 37 tabC F)(f0:l.length<=1073741824):kKt ex 63 [(sL ad l.length ai),(iI n)] H fun v H'=> ∃(ar:Option Addr) (kr:Nat) (r:List Int) (F':Fz),Fz.le F F'/\HS (.of H []) F' H' [] R/\v=sL ar r.length kr/\SR F' (sL ar r.length kr) r/\r=dB l n:=by
 refine aC Tryz.func63 V V (am 1 V (wT 2 [] 4 4 [] [(4,(sL none 0 0))] V fun _=>wT 3 [] 1 0 [5] [(5,(iI 0))] V fun _=>ak (fun(mm:Nat) f H'=> ∃(k:Nat),H'=H/\aB f [(0,(sL ad l.length ai)),(1,(iI n)),(5,(iI (k:Int)))]/\mm=l.length-k/\(k<=l.length)/\(∀j,j<k->l.getD j 0<n)) _ ⟨0,V,⟨V,V,V,trivial⟩,V,M,(by intro j hj;omega)⟩ ?_));rintro ef f3 H ⟨k,rfl,ax,rfl,h1,h2⟩ b6;refine au _ ax (fun _=>?_);clear ax;refine am 2 V ?_;obtain⟨dl,ay⟩:=Sv.view (SR.sv hl hs);have g5:=fI (ay k);refine wrp 1 6 17 [] [(17,(.bool ((decide ((k:Int)<(l.length:Int)))&&(decide ((l.getD k 0)<n)))))] (Ha_ (fun(E:(decide ((k:Int)<(l.length:Int)))=true)=>(Sv.ix (j:=(k:Int)) (SR.sv hl hs) (by(try simp only[BS]at E);omega) (by(try simp only[BS]at E);omega))) (be 8 (fun E=>(ql 3 0 (vI (ay k) (by(try simp only[BS]at E);omega)) V V)) Hn_)) V V fun _=>zi 2 6 (fun c7=>?_) fun c7=>?_
 ·try simp only[BS]at c7
  refine wU 2 [] 18 19 [5] [(5,(iI ((k:Int)+1)))] (vi (n:=(k:Int)+1)) V fun _=>?_
  refine b6 _ _ _ ?_ ⟨k+1,V,⟨V,V,V,trivial⟩,V,M,(lt_succ h2 M)⟩;omega
 try simp only[BS]at c7
 have hk:=pre_eq h1 h2 M;obtain⟨dn,aA⟩:=Sv.view (SR.sv hl hs);have ds:=fI (aA k);refine wrp 1 20 31 [] [(31,(.bool ((decide ((k:Int)<(l.length:Int)))&&((l.getD k 0)==n))))] (Ha_ (fun(E:(decide ((k:Int)<(l.length:Int)))=true)=>(Sv.ix (j:=(k:Int)) (SR.sv hl hs) (by(try simp only[BS]at E);omega) (by(try simp only[BS]at E);omega))) (be 8 (fun E=>(ql 3 0 (vI (aA k) (by(try simp only[BS]at E);omega)) V V)) Hn_)) V V fun _=>zi 1 2 (fun ag=>?_) fun ag=>?_
 ·try simp only[BS]at ag
  refine wT 1 [] 4 4 [32] [(4,(sL ad l.length ai))] V fun _=>aj ⟨.inr V,_,V,ad,ai,l,_,fR,(HS.forget hs),V,hl,(nC hk M M)⟩
 try simp only[BS]at ag
 refine aL V (zfm (sL ad l.length ai) (zfm (iI (k:Int)) (fu (id:= .q fun b=>F b≠none) (ns (α:=Int) (j:=k) hl hs.log0 V V V (optN M) M) V V (by rintro _ _ _ ⟨_,_,_,hH,_⟩;exact did_q V (SR.q hl)) (kb V) ?_)));rintro _ _ _ ⟨c8,dt,rfl,N,a9⟩ b2 aq;simp only at N;replace N:=N.symm;subst N;have an:=HS.lg hs.log0 hs aq;generalize ({{H with log:=[]} with log:=b2}:Heap)=b9 at an⊢;have ap:=HS.snoc an;refine zad 0 (OS.nil:OS F (sL none 0 0) ([]:List Int) []) ap (SR.sv a9 ap) V V V t_ (kb V) fun b4 b7 b8 cc U bl=>?_
 have U:OS F (sL b4 (l.take k).length b7) (l.take k) b8:=U;refine zfm (iI n) (zld ([n]:List Int) bl V (RL.cs ⟨V,by omega⟩ RL.nl) V fun c9 dv et cg a5 a_=>zad 0 U a_ (OS.sv a5 a_ (i:=1) V) V V V t_ (kb V) fun dd d1 ez a2 a7 Z=>zfm (sL ad l.length ai) (zfm (iI (k:Int)) (fu (id:= .q fun b=>F b≠none) (rs_cutd (α:=Int) (i:=k) hl Z.log0 V V V (optN M) M) V V (by rintro _ _ _ ⟨_,_,_,hH,_⟩;exact did_q V (SR.q hl)) (⟨.inl V,.inl V,.inr (HS.apq a_ (i:=0) V),.inr trivial,.inr trivial,.inr (fun b hb=>absurd hb a0k),q_⟩) ?_)));rintro _ _ _ ⟨dk,d2,rfl,T,bb⟩ b3 av;simp only at T;replace T:=T.symm;subst T;have aa:=HS.lg Z.log0 Z av;generalize ({{a2 with log:=[]} with log:=b3}:Heap)=ch at aa⊢;refine zad 0 a7 aa (SR.sv bb aa) V V V t_ (kb V) fun aw a1 e0 ci a8 bz=>fa (sL aw (((l.take k)++([n]:List Int))++(l.drop k)).length a1) V V V (gS (am 1 V ?_))
 obtain⟨c6,a4,b1,bk,c5⟩:=OS.frz a8 bz (i:=0) V;refine aj ⟨.inr V,_,V,aw,a1,((l.take k)++([n]:List Int))++(l.drop k),_,(a4),(HS.forget b1),V,bk,(ins_new hk M)⟩
theorem jr{ad:Option Addr}{ai:Nat}(l:List Int)(n:Int)(hs:HS (.of H []) F H [] R)(hl:SR F (sL ad l.length ai) l)(hn:in64 n)(hT:TB 37 tabC F)(an:l.length<=1073741824):kKt ex 31 [(sL ad l.length ai),(iI n)] H fun v H'=> ∃(r:Bool),H'=H/\v= .bool r/\r=jJ l n:=by
 refine aC Tryz.func31 V V (am 1 V (wT 3 [] 4 4 [] [(4,(.bool false))] V fun _=>wT 2 [] 1 0 [5] [(5,(iI 0))] V fun _=>ak (fun(mm:Nat) f H'=> ∃(k:Nat),H'=H/\aB f [(0,(sL ad l.length ai)),(1,(iI n)),(5,(iI (k:Int)))]/\mm=l.length-k/\(k<=l.length)/\(∀j,j<k->¬l.getD j 0=n)) _ ⟨0,V,⟨V,V,V,trivial⟩,V,M,(by intro j hj;omega)⟩ ?_));rintro ag f3 H ⟨k,rfl,E,rfl,h1,U⟩ a_;refine au _ E (fun _=>?_);clear E;refine am 2 V (wT 1 [] 6 9 [] [(9,(.bool (decide ((k:Int)<(l.length:Int)))))] V fun _=>zd 4 5 (fun Z=>?_) fun Z=>?_)
 ·obtain⟨aa,N⟩:=Sv.view (SR.sv hl hs);have g7:=fI (N k);refine wrp 1 12 17 [] [(17,(.bool ((l.getD k 0)==n)))] (Ha_ (Sv.ix (j:=(k:Int)) (SR.sv hl hs)) (Hl_ 3 (ql 3 0 (vI (N k)) V V) Hn_)) (by kernel_rfl) V fun _=>zi 1 2 (fun T=>?_) fun T=>?_
  ·try simp only[BS]at T
   refine wT 1 [] 4 4 [] [(4,(.bool true))] V fun _=>aj ⟨.inr V,_,V,true,V,V,(con_yes (k:=k) M M)⟩
  try simp only[BS]at T
  refine wU 1 [] 10 11 [5] [(5,(iI ((k:Int)+1)))] (vi (n:=(k:Int)+1)) V fun _=>?_
  refine a_ _ _ _ ?_ ⟨k+1,V,⟨V,V,V,trivial⟩,V,M,(lt_succ U M)⟩;omega
 refine wT 1 [] 4 4 [] [(4,(.bool false))] V fun _=>aj ⟨.inr V,_,V,false,V,V,(con_no U M)⟩
theorem dZ{E:Option Addr}{N:Nat}(l:List Int)(n:Int)(hs:HS (.of H []) F H [] R)(Z:SR F (sL E l.length N) l)(hn:in64 n)(U:TB 37 tabC F)(T:l.length<=1073741824):kKt ex 31 [(sL E l.length N),(iI n)] H fun v H'=>v=(.bool (jJ l n))/\H'=H:=
 cq (jr ex l n hs Z hn U T) (by rintro _ _ ⟨_,rfl,rfl,rfl⟩;exact⟨V,V⟩)
theorem vfuncs_c{ai:Option Addr}{ao:Nat}(l:List Int){al:Option Addr}{a0:Nat}(m:List Int)(hs:HS (.of H []) F H [] R)(hl:SR F (sL ai l.length ao) l)(hm:SR F (sL al m.length a0) m)(hT:TB 37 tabC F):kKt ex 8 [(sL ai l.length ao),(sL al m.length a0)] H fun v H'=> ∃(ap:Option Addr) (kp:Nat) (p:List VFnT) (aq:Option Addr) (kq:Nat) (q:List Int) (F':Fz),Fz.le F F'/\HS (.of H []) F' H' [] R/\v= .tuple ⟨[sL ap p.length kp,sL aq q.length kq]⟩/\SR F' (sL ap p.length kp) p/\SR F' (sL aq q.length kq) q/\q=[3,2]/\(p.length=2/\vfG (p.getD 0 default) 2/\vfG (p.getD 1 default) 1):=by
 refine aC Tryz.func8 V V (am 1 V (wT 2 [] 4 5 [] [(4,(sL none 0 0)),(5,(sL none 0 0))] V fun _=>aL V (zfm (sL ai l.length ao) (zfm (sL ai l.length ao) ?_))));refine bE (v:=(iI (l.length:Int))) (id:= .v) (nX (α:=Int) V V (SR.sv hl hs.log0)) V V (nK V) (i9 _) (bE (v:=(iI (if(36:Int)<(l.length:Int) then(36:Int) else(l.length:Int)))) (id:= .x []) (pmm_ok (w:=true) V V V) V V (dC (W:=[]) V V fun b hb=>absurd hb a0k) (kb V) (fu (id:= .q fun b=>F b≠none) (ns (α:=Int) (j:=(if(36:Int)<(l.length:Int) then(36:Int) else(l.length:Int)).toNat) hl hs.log0 V V V (optN M) M) V V (by rintro _ _ _ ⟨_,_,_,hH,_⟩;exact did_q V (SR.q hl)) (kb V) ?_));rintro _ _ _ ⟨a2,k2,rfl,a_,cg⟩ c7 a7;simp only at a_;replace a_:=a_.symm;subst a_;have aa:=HS.lg hs.log0 hs a7;generalize ({{H with log:=[]} with log:=c7}:Heap)=d2 at aa⊢;refine ba (W:=[]) (aO V V V) V V V (m5.vf_c ex (l.take (if(36:Int)<(l.length:Int) then(36:Int) else(l.length:Int)).toNat) (2) (HS.call aa.log0) cg hT M (by(simp only[a0p];omega))) (kb V) ?_;rintro _ H3 ⟨x3,ay,a1,F3,av,E,rfl,b6,b7,N,h3⟩;refine⟨Wr.did E.log,fun c8 a9=>?_⟩;replace E:=HS.back aa.log0 V E;replace E:=HS.lg E aa a9;generalize ({H3 with log:=c8}:Heap)=b4 at E⊢;replace hT:=hT.mono av;replace hm:=hm.mono av;refine zfm (sL al m.length a0) (zfm (sL al m.length a0) (bE (v:=(iI (m.length:Int))) (id:= .v) (nX (α:=Int) V V (SR.sv hm E.log0)) V V (nK V) (i9 _) (bE (v:=(iI (if(18:Int)<(m.length:Int) then(18:Int) else(m.length:Int)))) (id:= .x []) (pmm_ok (w:=true) V V V) V V (dC (W:=[]) V V fun b hb=>absurd hb a0k) (⟨.inl V,.inl V,.inr trivial,.inr ⟨trivial,trivial⟩,.inr (fun b hb=>absurd hb a0k),.inr ⟨trivial,trivial⟩,q_⟩) (fu (id:= .q fun b=>F3 b≠none) (ns (α:=Int) (j:=(if(18:Int)<(m.length:Int) then(18:Int) else(m.length:Int)).toNat) hm E.log0 V V V (optN M) M) V V (by rintro _ _ _ ⟨_,_,_,hH,_⟩;exact did_q V (SR.q hm)) (⟨.inl V,.inl V,.inl V,.inl V,.inr (fun b hb=>absurd hb a0k),.inr trivial,.inr (fun b hb=>absurd hb a0k),q_⟩) ?_))));rintro _ _ _ ⟨a4,k4,rfl,Z,ch⟩ c9 bb;simp only at Z;replace Z:=Z.symm;subst Z;have ag:=HS.lg E.log0 E bb;generalize ({{b4 with log:=[]} with log:=c9}:Heap)=ef at ag⊢;refine ba (W:=[]) (aO V V V) V V V (m5.vf_c ex (m.take (if(18:Int)<(m.length:Int) then(18:Int) else(m.length:Int)).toNat) (1) (HS.call ag.log0) ch hT M (by(simp only[a0p];omega))) (kb V) ?_;rintro _ H5 ⟨x5,aA,a3,F5,a5,T,rfl,b8,b9,ax,h5⟩;refine⟨Wr.did T.log,fun dd bk=>?_⟩;replace T:=HS.back ag.log0 V T;replace T:=HS.lg T ag bk;generalize ({H5 with log:=dd}:Heap)=et at T⊢;replace N:=N.mono a5;refine zld ([x3,x5]:List VFnT) T V (RL.cs ⟨ay,a1,V,by omega,by omega,N⟩ (RL.cs ⟨aA,a3,V,by omega,by omega,ax⟩ RL.nl)) V fun a6 k6 p6 ez cc ci=>zld ([3,2]:List Int) ci V (RL.cs ⟨V,by omega⟩ (RL.cs ⟨V,by omega⟩ RL.nl)) V fun a8 k8 p8 e0 aw co=>fa (sL a6 ([x3,x5]:List VFnT).length k6) V V V (fa (sL a8 ([3,2]:List Int).length k8) V V V (gS (am 1 V ?_)))
 obtain⟨dv,an,bz,U,ds⟩:=OS.frz cc co (i:=0) V;replace aw:=aw.mono an;obtain⟨d1,ar,b1,bl,dt⟩:=OS.frz aw bz (i:=1) V;replace U:=U.mono ar;refine aj ⟨.inr V,_,V,a6,k6,([x3,x5]:List VFnT),a8,k8,([3,2]:List Int),_,(fT (fT (fT (av) a5) an) ar),(HS.forget b1),V,U,bl,m_,(by refine⟨V,?_,?_⟩<;>assumption)⟩
end m6
open m6
namespace m7
open Go.R m1 m2 m3 m4 m5 m6
def lenOK(n:Int):Bool:=decide (1<=n/\n<=16)
def vpI(l:List VFnT)(nl:Int)(v:VInT):Bool:=(if v.i.op=6 then decide (v.i.n<(l.length:Int))&&decide ((l.getD v.i.n.toNat v_).m=(v.args.length:Int)) else true)&&(if v.i.op=34\/v.i.op=35 then decide (v.i.n<nl) else true)
def vpB(l:List VFnT)(nl:Int)(b:BlkT):Bool:=b.v.all (vpI l nl)
def vpF(l:List VFnT)(nl:Int)(c:VFnT):Bool:=ca c&&c.u.all (vpB l nl)
def vpV(l:List VFnT)(lens:List Int):Bool:=decide (1<=l.length/\l.length<=8/\lens.length<=4)&&lens.all lenOK&&l.all (vpF l (lens.length:Int))
section
variable {l:List VFnT} {lens:List Int} {nl:Int} {c:VFnT} {v:VInT}
theorem vp_lim(h: ¬(1<=l.length/\l.length<=8/\lens.length<=4)):false=vpV l lens:=by unfold vpV;rw[decide_eq_false h];rfl
theorem vp_len(h:lens.all lenOK=false):false=vpV l lens:=by unfold vpV;rw[h];simp
theorem vp_f(h:l.all (vpF l (lens.length:Int))=false):false=vpV l lens:=by unfold vpV;rw[h];simp
theorem vp_yes(h:1<=l.length/\l.length<=8/\lens.length<=4)(E:lens.all lenOK=true)(N:l.all (vpF l (lens.length:Int))=true):true=vpV l lens:=by unfold vpV;rw[decide_eq_true h,E,N];rfl
theorem vpF_no(h:ca c=false):vpF l nl c=false:=by unfold vpF;rw[h];rfl
theorem vpF_b(h:c.u.all (vpB l nl)=false):vpF l nl c=false:=by unfold vpF;rw[h,a1O]
theorem vpF_yes(h:ca c=true)(E:c.u.all (vpB l nl)=true):vpF l nl c=true:=by unfold vpF;rw[h,E];rfl
theorem gV:vpI l nl v=true↔(v.i.op=6->v.i.n<(l.length:Int)/\(l.getD v.i.n.toNat v_).m=(v.args.length:Int))/\((v.i.op=34\/v.i.op=35)->v.i.n<nl):=by
 unfold vpI;by_cases E:v.i.op=6
 ·rw[if_pos E,if_neg M];simp[E]
 rw[if_neg E];by_cases N:v.i.op=34\/v.i.op=35
 ·rw[if_pos N];simp[E,N]
 rw[if_neg N];simp[E,N]
theorem vpI_not(h: ¬((v.i.op=6->v.i.n<(l.length:Int)/\(l.getD v.i.n.toNat v_).m=(v.args.length:Int))/\((v.i.op=34\/v.i.op=35)->v.i.n<nl))):vpI l nl v=false:=a1r.2 fun E=>h (gV.1 E)
theorem val_nn(h:ca c=true){k i:Nat}(Z:k<c.u.length)(hi:i<(c.u.getD k v_).v.length)(U:((c.u.getD k v_).v.getD i v_).i.op=6\/((c.u.getD k v_).v.getD i v_).i.op=34\/((c.u.getD k v_).v.getD i v_).i.op=35):0<=((c.u.getD k v_).v.getD i v_).i.n:=by
 unfold ca at h;rw[a09]at h;have N:=lH h.2 Z;unfold jM at N;rw[a09]at N;have T:=lH N.1 hi;unfold eP at T;rw[a09]at T;have E:=T.2;generalize ((c.u.getD k v_).v.getD i v_).i.n=n at E⊢;generalize ((c.u.getD k v_).v.getD i v_).i.op=op at E U;unfold gU at E;rcases U with rfl|rfl|rfl
 ·rw[if_neg e_,if_neg e_,if_pos rfl]at E;have:=of_decide_eq_true E;omega
 ·rw[if_neg e_,if_neg e_,if_neg e_,if_pos e_]at E;have:=of_decide_eq_true E;omega
 rw[if_neg e_,if_neg e_,if_neg e_,if_pos e_]at E;have:=of_decide_eq_true E;omega
theorem vp_not{k b i:Nat}(N:k<l.length)(E:b<(l.getD k v_).u.length)(hi:i<((l.getD k v_).u.getD b v_).v.length)
  (h:vpI l (lens.length:Int) (((l.getD k v_).u.getD b v_).v.getD i v_)=false):false=vpV l lens:=
 vp_f (cH N (vpF_b (cH E (cH hi h))))
theorem val_bd(h:ca c=true):c.u.length<=1000:=by unfold ca at h;rw[a09]at h;have:=of_decide_eq_true h.1;omega
end
end m7
open m7
namespace m8
variable (ex:FuncId) {F:Fz} {H:Heap} {R:List Fp}
theorem vprog_c{al:Option Addr}{ao:Nat}(l:List VFnT){ad:Option Addr}{ai:Nat}(lens:List Int)(hs:HS (.of H []) F H [] R)(hl:SR F (sL al l.length ao) l)(a6:SR F (sL ad lens.length ai) lens)(hT:TB 37 tabC F)(el:lens.length<=1073741824/\∀k j,((l.getD k v_).u.getD j v_).v.length<=9223372036854775807):kKt ex 34 [(sL al l.length ao),(sL ad lens.length ai)] H fun v H'=> ∃(r:Bool) (F':Fz),Fz.le F F'/\HS (.of H []) F' H' [] R/\v= .bool r/\r=vpV l lens:=by
 refine aC Tryz.func34 V V (am 1 V (wT 3 [] 4 4 [] [(4,(.bool false))] V fun _=>wT 1 [] 13 25 [] [(25,(.bool (((decide ((l.length:Int)<1))||(decide ((8:Int)<(l.length:Int))))||(decide ((4:Int)<(lens.length:Int))))))] V fun _=>zI 1 3 (fun c3=>?_) fun c3=>?_))
 ·refine wT 1 [] 4 4 [] [(4,(.bool false))] V fun _=>aj ⟨.inr V,_,V,false,_,fR,(HS.forget hs),V,(vp_lim M)⟩
 refine wT 2 [] 26 28 [] [(26,(sL ad lens.length ai)),(27,(iI (lens.length:Int))),(28,(iI 0))] V fun _=>ak (fun(mm:Nat) f H'=> ∃(q:Nat) (F':Fz),Fz.le F F'/\HS (Base.of H []) F' H' [] R/\aB f [(0,(sL al l.length ao)),(1,(sL ad lens.length ai)),(26,(sL ad lens.length ai)),(27,(iI (lens.length:Int))),(28,(iI (q:Int)))]/\mm=lens.length-q/\(q<=lens.length)/\(∀j,j<q->lenOK (lens.getD j v_)=true)) _ ⟨0,_,fR,hs,⟨V,V,V,V,V,trivial⟩,V,M,(cT)⟩ ?_
 rintro hr f6 H6 ⟨q,F6,aa,aA,b2,rfl,hq,hqa⟩ dt;refine au _ b2 (fun _=>?_);clear b2;replace hT:=hT.mono aa;replace hl:=hl.mono aa;replace a6:=a6.mono aa;refine am 1 V (wT 2 [] 29 29 [] [(29,(.bool (decide ((q:Int)<(lens.length:Int)))))] V fun _=>zd 4 6 (fun c8=>?_) fun c8=>?_)
 ·obtain⟨hh,b3⟩:=Sv.view (SR.sv a6 aA);have hp:=fI (b3 q);refine wrp 2 30 31 [6] [(6,(iI (lens.getD q 0)))] (Ha_ (Sv.ix (j:=(q:Int)) (SR.sv a6 aA)) (Hl_ 1 (ql 3 0 (vI (b3 q)) V V) Hn_)) (by kernel_rfl) V fun _=>wT 1 [] 32 37 [] [(37,(.bool ((decide ((lens.getD q 0)<1))||(decide ((16:Int)<(lens.getD q 0))))))] V fun _=>zI 1 2 (fun c5=>?_) fun c5=>?_
  ·refine wT 1 [] 4 4 [] [(4,(.bool false))] V fun _=>aj ⟨.inr V,_,V,false,_,(aa),(HS.forget aA),V,(vp_len (cH (k:=q) M (decide_eq_false (show ¬(1<=lens.getD q 0/\lens.getD q 0<=16) by omega))))⟩
  refine wU 1 [] 28 28 [38] [(28,(iI ((q:Int)+1)))] (vi (n:=(q:Int)+1)) V fun _=>?_
  refine dt _ _ _ ?_ ⟨q+1,_,(aa),aA,⟨V,V,V,V,V,trivial⟩,V,M,(bR hqa (decide_eq_true (show 1<=lens.getD q 0/\lens.getD q 0<=16 by omega)))⟩;omega
 refine wT 2 [] 39 41 [] [(39,(sL al l.length ao)),(40,(iI (l.length:Int))),(41,(iI 0))] V fun _=>ak (fun(mm:Nat) f H'=> ∃(k:Nat) (F':Fz),Fz.le F6 F'/\HS (Base.of H []) F' H' [] R/\aB f [(0,(sL al l.length ao)),(1,(sL ad lens.length ai)),(39,(sL al l.length ao)),(40,(iI (l.length:Int))),(41,(iI (k:Int)))]/\mm=l.length-k/\(k<=l.length)/\(∀j,j<k->vpF l (lens.length:Int) (l.getD j v_)=true)) _ ⟨0,_,fR,aA,⟨V,V,V,V,V,trivial⟩,V,M,(cT)⟩ ?_
 rintro f4 hj g3 ⟨k,go,Z,av,a4,rfl,hk,hka⟩ b9;refine au _ a4 (fun _=>?_);clear a4;replace hT:=hT.mono Z;replace hl:=hl.mono Z;refine am 1 V (wT 2 [] 42 42 [] [(42,(.bool (decide ((k:Int)<(l.length:Int)))))] V fun _=>zd 4 5 (fun c6=>?_) fun c6=>?_)
 ·refine ab ?_;obtain⟨N,a9⟩:=Sv.view (SR.sv hl av);obtain⟨dv,d1,U⟩:=VFnT.fx (a9 k);let b4:Value:=(aG [(iI (l.getD k v_).m),(iI (l.getD k v_).r),(sL (cA (N k) 2) (l.getD k v_).u.length (cK (N k) 2))])
  refine bL 2 0 43 44 [] [(44,b4)] (Ha_ (Sv.ix (j:=(k:Int)) (SR.sv hl av)) (Hl_ 1 (qn 36 0 3 (VFnT.vw (a9 k)) V V V V) Hn_)) (by kernel_rfl) V fun _=>zn av V fun ci g4 b6=>sgo 1 3 1 0 [] [] (Hr_ 3 0 Hn_) b6 V V fun f1 g5 a1=>ah 3 V (ab (aY 1 0 45 45 [] [(45,b4)] (Hr_ 0 0 Hn_) a1 V V fun _=>zc (m3.kE ex (⟨(l.getD k v_).m,(l.getD k v_).r,(l.getD k v_).u⟩:VFnT) (HS.call a1) M M U hT (fun j=>el.2 k j)) ?_))
  rintro _ g6 ⟨ht,cg,ag,aq,rfl,rfl⟩;replace aq:=HS.back a1 V aq;replace hl:=hl.mono ag;replace U:=U.mono ag;refine bL 1 2 47 47 [] [(47,(.bool (!(ca (⟨(l.getD k v_).m,(l.getD k v_).r,(l.getD k v_).u⟩:VFnT)))))] Hn_ (by kernel_rfl) V fun _=>ah 1 V (zI 1 2 (fun b1=>?_) fun b1=>?_)
  ·refine wT 1 [] 4 4 [] [(4,(.bool false))] V fun _=>aj ⟨.inr V,_,V,false,_,(fT (fT (aa) Z) ag),(HS.forget aq),V,(vp_f (cH (k:=k) M (vpF_no (show ca (l.getD k v_)=false by assumption))))⟩
  have bz:ca (l.getD k v_)=true:=b1;have hL:=val_bd bz;let b5:Fp:=(fP ci [(iI (l.getD k v_).m),(iI (l.getD k v_).r),(sL (cA (N k) 2) (l.getD k v_).u.length (cK (N k) 2))])
  refine aU 2 48 51 [] [(49,(sL (cA (N k) 2) (l.getD k v_).u.length (cK (N k) 2))),(50,(iI ((l.getD k v_).u.length:Int))),(51,(iI 0))] (Hr_ 1 0 Hn_) aq V V fun _=>ak (fun(mm:Nat) f H'=> ∃(b:Nat) (F':Fz),Fz.le cg F'/\HS (Base.of H []) F' H' [b5] R/\aB f [(0,(sL al l.length ao)),(1,(sL ad lens.length ai)),(39,(sL al l.length ao)),(40,(iI (l.length:Int))),(41,(iI (k:Int))),(49,(sL (cA (N k) 2) (l.getD k v_).u.length (cK (N k) 2))),(50,(iI ((l.getD k v_).u.length:Int))),(51,(iI (b:Int)))]/\mm=(l.getD k v_).u.length-b/\(b<=(l.getD k v_).u.length)/\(∀j,j<b->vpB l (lens.length:Int) ((l.getD k v_).u.getD j v_)=true)) _ ⟨0,_,fR,aq,⟨V,V,V,V,V,V,V,V,trivial⟩,V,M,(cT)⟩ ?_
  rintro f5 hm g7 ⟨b,ch,an,aw,a5,rfl,hb,hba⟩ cc;refine au _ a5 (fun _=>?_);clear a5;replace hl:=hl.mono an;replace U:=U.mono an;have hJ:=el.2 k b;refine am 1 V (wT 2 [] 52 52 [] [(52,(.bool (decide ((b:Int)<((l.getD k v_).u.length:Int)))))] V fun _=>zd 4 5 (fun c7=>?_) fun c7=>?_)
  ·refine ab ?_;obtain⟨a_,bb⟩:=Sv.view (SR.sv U aw);obtain⟨d2,ef,et,ez,ap⟩:=BlkT.fx (bb b);refine bL 2 0 53 54 [] [(54,(aG [(sL (cA (a_ b) 0) ((l.getD k v_).u.getD b v_).v.length (cK (a_ b) 0)),(iI ((l.getD k v_).u.getD b v_).f),(iI ((l.getD k v_).u.getD b v_).r),(iI ((l.getD k v_).u.getD b v_).t),(iI ((l.getD k v_).u.getD b v_).e)]))] (Ha_ (Sv.ix (j:=(b:Int)) (SR.sv U aw)) (Hl_ 1 (qn 82 0 5 (BlkT.vw (bb b)) V V V V) Hn_)) (by kernel_rfl) V fun _=>zn aw V fun co g8 b7=>sgo 1 3 1 0 [] [] (Hr_ 3 1 Hn_) b7 V V fun f2 g9 a8=>ah 2 V (aU 2 55 58 [] [(56,(sL (cA (a_ b) 0) ((l.getD k v_).u.getD b v_).v.length (cK (a_ b) 0))),(57,(iI (((l.getD k v_).u.getD b v_).v.length:Int))),(58,(iI 0))] (Hr_ 1 1 Hn_) a8 V V fun _=>ak (fun(mm:Nat) f H'=> ∃(i:Nat) (F':Fz),Fz.le ch F'/\HS (Base.of H []) F' H' [b5,(fP co [(sL (cA (a_ b) 0) ((l.getD k v_).u.getD b v_).v.length (cK (a_ b) 0)),(iI ((l.getD k v_).u.getD b v_).f),(iI ((l.getD k v_).u.getD b v_).r),(iI ((l.getD k v_).u.getD b v_).t),(iI ((l.getD k v_).u.getD b v_).e)])] R/\aB f [(0,(sL al l.length ao)),(1,(sL ad lens.length ai)),(39,(sL al l.length ao)),(40,(iI (l.length:Int))),(41,(iI (k:Int))),(49,(sL (cA (N k) 2) (l.getD k v_).u.length (cK (N k) 2))),(50,(iI ((l.getD k v_).u.length:Int))),(51,(iI (b:Int))),(56,(sL (cA (a_ b) 0) ((l.getD k v_).u.getD b v_).v.length (cK (a_ b) 0))),(57,(iI (((l.getD k v_).u.getD b v_).v.length:Int))),(58,(iI (i:Int)))]/\mm=((l.getD k v_).u.getD b v_).v.length-i/\(i<=((l.getD k v_).u.getD b v_).v.length)/\(∀j,j<i->vpI l (lens.length:Int) (((l.getD k v_).u.getD b v_).v.getD j v_)=true)) _ ⟨0,_,fR,a8,⟨V,V,V,V,V,V,V,V,V,V,V,trivial⟩,V,M,(cT)⟩ ?_)
   rintro f7 hn ha ⟨i,g2,T,ax,a7,rfl,hi,hia⟩ ay;refine au _ a7 (fun _=>?_);clear a7;replace hl:=hl.mono T;replace ap:=ap.mono T;have hK:i<((l.getD k v_).u.getD b v_).v.length->((((l.getD k v_).u.getD b v_).v.getD i v_).i.op=6\/(((l.getD k v_).u.getD b v_).v.getD i v_).i.op=34\/(((l.getD k v_).u.getD b v_).v.getD i v_).i.op=35)->0<=(((l.getD k v_).u.getD b v_).v.getD i v_).i.n:=fun q1 q2=>val_nn bz M q1 q2
   refine am 1 V (wT 2 [] 59 59 [] [(59,(.bool (decide ((i:Int)<(((l.getD k v_).u.getD b v_).v.length:Int)))))] V fun _=>zd 4 5 (fun c9=>?_) fun c9=>?_)
   ·refine ab ?_;obtain⟨a3,bk⟩:=Sv.view (SR.sv ap ax);obtain⟨e0,e1,e2,e3,e4,e8⟩:=VInT.fx (bk i);refine bL 2 0 60 61 [] [(61,(aG [(iI (((l.getD k v_).u.getD b v_).v.getD i v_).i.op),(iI (((l.getD k v_).u.getD b v_).v.getD i v_).i.a),(iI (((l.getD k v_).u.getD b v_).v.getD i v_).i.b),(iI (((l.getD k v_).u.getD b v_).v.getD i v_).i.c),(iI (((l.getD k v_).u.getD b v_).v.getD i v_).i.n),(sL (cA (a3 i) 5) (((l.getD k v_).u.getD b v_).v.getD i v_).args.length (cK (a3 i) 5))]))] (Ha_ (Sv.ix (j:=(i:Int)) (SR.sv ap ax)) (Hl_ 1 (qn 88 0 6 (VInT.vw (bk i)) V V V V) Hn_)) (by kernel_rfl) V fun _=>zn ax V fun hg he b8=>sgo 1 3 1 0 [] [] (Hr_ 3 2 Hn_) b8 V V fun f3 hf E=>ah 2 V (aU 3 62 64 [] [(64,(iI (((l.getD k v_).u.getD b v_).v.getD i v_).i.op))] (Hr_ 2 2 Hn_) E V V fun _=>wT 1 [] 65 66 [] [(65,(.bool ((((l.getD k v_).u.getD b v_).v.getD i v_).i.op==6)))] V fun _=>zI 1 2 (fun dd=>?_) fun dd=>?_)
    ·obtain⟨f0,bl⟩:=Sv.view (SR.sv hl E);obtain⟨e5,e6,fd⟩:=VFnT.fx (bl (((l.getD k v_).u.getD b v_).v.getD i v_).i.n.toNat);refine sdr0 1 67 85 [] [(85,(.bool ((decide ((l.length:Int)<=(((l.getD k v_).u.getD b v_).v.getD i v_).i.n))||(((((l.getD k v_).u.getD b v_).v.getD i v_).args.length:Int) !=(l.getD (((l.getD k v_).u.getD b v_).v.getD i v_).i.n.toNat v_).m))))] (Hr_ 2 2 (be 8 (fun _=>(ql 22 5 (hc0 (j_ E V)) V V)) (be 13 (fun _=>(ql 2 4 (hc0 (j_ E V)) V V)) (Ha_ (fun(g1:(decide ((l.length:Int)<=(((l.getD k v_).u.getD b v_).v.getD i v_).i.n))=false)=>(Sv.ix (j:=(((l.getD k v_).u.getD b v_).v.getD i v_).i.n) (SR.sv hl E) (by(try simp only[BS]at g1);omega) (by(try simp only[BS]at g1);omega))) (be 16 (fun g1=>(ql 3 0 (hc0 (VFnT.vw (bl (((l.getD k v_).u.getD b v_).v.getD i v_).i.n.toNat) (by(try simp only[BS]at g1);omega))) V V)) Hn_))))) E V V V fun _=>zI 1 3 (fun dk=>?_) fun dk=>?_
     ·refine wT 1 [] 4 4 [] [(4,(.bool false))] V fun _=>aj ⟨.inr V,_,V,false,_,(fT (fT (fT (fT (aa) Z) ag) an) T),(HS.forget E),V,(vp_not (k:=k) (b:=b) (i:=i) M M M (vpI_not M))⟩
     refine wU 1 [] 58 58 [95] [(58,(iI ((i:Int)+1)))] (vi (n:=(i:Int)+1)) V fun _=>?_
     refine ay _ _ _ ?_ ⟨i+1,_,(T),(HS.sub E (a03 _ _)),⟨V,V,V,V,V,V,V,V,V,V,V,trivial⟩,V,M,(bR hia (gV.2 ⟨by omega,by omega⟩))⟩;omega
    refine wT 1 [] 86 87 [] [(86,(.bool ((((l.getD k v_).u.getD b v_).v.getD i v_).i.op==34)))] V fun _=>zi 1 0 (fun ar=>?_) fun ar=>?_
    ·have a2:=ar;try simp only[BS]at a2
     refine aS 1 (v:=((((l.getD k v_).u.getD b v_).v.getD i v_).i.op==34)) V ar V V (aU 1 89 94 [] [(94,(.bool (decide ((lens.length:Int)<=(((l.getD k v_).u.getD b v_).v.getD i v_).i.n))))] (Hr_ 2 2 Hn_) E V V fun _=>zd 1 3 (fun dl=>?_) fun dl=>?_)
     ·refine wT 1 [] 4 4 [] [(4,(.bool false))] V fun _=>aj ⟨.inr V,_,V,false,_,(fT (fT (fT (fT (aa) Z) ag) an) T),(HS.forget E),V,(vp_not (k:=k) (b:=b) (i:=i) M M M (vpI_not M))⟩
     refine wU 1 [] 58 58 [95] [(58,(iI ((i:Int)+1)))] (vi (n:=(i:Int)+1)) V fun _=>?_
     refine ay _ _ _ ?_ ⟨i+1,_,(T),(HS.sub E (a03 _ _)),⟨V,V,V,V,V,V,V,V,V,V,V,trivial⟩,V,M,(bR hia (gV.2 ⟨by omega,by omega⟩))⟩;omega
    have a2:=ar;try simp only[BS]at a2
    refine wT 1 [] 86 88 [] [(86,(.bool ((((l.getD k v_).u.getD b v_).v.getD i v_).i.op==35)))] V fun _=>zI 1 3 (fun dn=>?_) fun dn=>?_
    ·refine aU 1 89 94 [] [(94,(.bool (decide ((lens.length:Int)<=(((l.getD k v_).u.getD b v_).v.getD i v_).i.n))))] (Hr_ 2 2 Hn_) E V V fun _=>zd 1 3 (fun ds=>?_) fun ds=>?_
     ·refine wT 1 [] 4 4 [] [(4,(.bool false))] V fun _=>aj ⟨.inr V,_,V,false,_,(fT (fT (fT (fT (aa) Z) ag) an) T),(HS.forget E),V,(vp_not (k:=k) (b:=b) (i:=i) M M M (vpI_not M))⟩
     refine wU 1 [] 58 58 [95] [(58,(iI ((i:Int)+1)))] (vi (n:=(i:Int)+1)) V fun _=>?_
     refine ay _ _ _ ?_ ⟨i+1,_,(T),(HS.sub E (a03 _ _)),⟨V,V,V,V,V,V,V,V,V,V,V,trivial⟩,V,M,(bR hia (gV.2 ⟨by omega,by omega⟩))⟩;omega
    refine wU 1 [] 58 58 [95] [(58,(iI ((i:Int)+1)))] (vi (n:=(i:Int)+1)) V fun _=>?_
    refine ay _ _ _ ?_ ⟨i+1,_,(T),(HS.sub E (a03 _ _)),⟨V,V,V,V,V,V,V,V,V,V,V,trivial⟩,V,M,(bR hia (gV.2 ⟨by omega,by omega⟩))⟩;omega
   refine wU 1 [] 51 51 [96] [(51,(iI ((b:Int)+1)))] (vi (n:=(b:Int)+1)) V fun _=>?_
   refine cc _ _ _ ?_ ⟨b+1,_,(fT (an) T),(HS.sub ax (a03 _ _)),⟨V,V,V,V,V,V,V,V,trivial⟩,V,M,(bR hba (dQ hia M))⟩;omega
  refine wU 1 [] 41 41 [97] [(41,(iI ((k:Int)+1)))] (vi (n:=(k:Int)+1)) V fun _=>?_
  refine b9 _ _ _ ?_ ⟨k+1,_,(fT (fT (Z) ag) an),(HS.sub aw (a03 _ _)),⟨V,V,V,V,V,trivial⟩,V,M,(bR hka (vpF_yes bz (dQ hba M)))⟩;omega
 refine wT 1 [] 4 4 [] [(4,(.bool true))] V fun _=>aj ⟨.inr V,_,V,true,_,(fT (aa) Z),(HS.forget av),V,(vp_yes M (dQ hqa M) (dQ hka M))⟩
end m8
open m8
namespace ma
variable (ex:FuncId) {F:Fz} {H:Heap} {R:List Fp}
abbrev Asc(l:List Int):Prop:=l.Pairwise (· < ·)
def cU(a l:List Int):List Int:=l.foldl dB a
def gT(a b:List Int):List Int:=a.filter fun x=> !jJ b x
theorem asc_at{l:List Int}(h:Asc l){i j:Nat}(E:i<j)(N:j<l.length):l.getD i 0<l.getD j 0:=by have:=(a20.1 h) i j M N E;rw[a02,a02,a06 N,a06 (show i<l.length by omega)];exact this
theorem pre_lt{l:List Int}{n:Int}: ∀x∈l.take (jC l n),x<n:=by
 intro x E;have e:l.take (jC l n)=l.takeWhile (fun x=>decide (x<n)):=by unfold jC;exact(List.prefix_iff_eq_take.1 (List.takeWhile_prefix _)).symm
 rw[e]at E;have:=a0m.1 (List.all_takeWhile (p:=fun x=>decide (x<n)) (l:=l)) x E;simpa using this
theorem mq{l:List Int}{n:Int}(h:jC l n<l.length): ¬l.getD (jC l n) 0<n:=by
 induction l with
 |nil=>simp at h
 |cons x l ih=>
  unfold jC at h⊢
  by_cases E:x<n
  ·rw[List.takeWhile_cons_of_pos (by simpa using E)]at h⊢;simp only[a05,a2t]at h⊢;exact ih (by unfold jC;omega)
  rw[List.takeWhile_cons_of_neg (by simpa using E)]
  simpa using E
theorem pre_ge{l:List Int}{n:Int}(N:Asc l): ∀x∈l.drop (jC l n),n<=x:=by
 intro x T;obtain⟨i,hi,rfl⟩:=a0t.1 T;rw[List.getElem_drop];rw[a0H]at hi;have E:=mq (l:=l) (n:=n) M;rw[a02,a06 (show jC l n<l.length by omega)]at E;rcases a1R i with rfl|hp
 ·simp only[a2w];simpa using E
 have:=(a20.1 N) (jC l n) (jC l n+i) M M M
 simp only[a0I]at E;omega
theorem ins_asc{l:List Int}{n:Int}(h:Asc l):Asc (dB l n):=by
 unfold dB;split
 ·exact h
 rename_i hc;have ad:=pre_ge (n:=n) h;have aa:=pre_lt (l:=l) (n:=n);refine a2n.2 ⟨a2n.2 ⟨h.sublist (List.take_sublist _ _),List.pairwise_singleton _ _,fun a U b Z=>?_⟩,h.sublist (List.drop_sublist _ _),fun a U b Z=>?_⟩
 ·rw[a08]at Z;subst Z;exact aa a U
 have hn:n<b:=by
  have T:=ad b Z;rcases Int.lt_or_eq_of_le T with E|E
  ·exact E
  exfalso;obtain⟨i,hi,rfl⟩:=a0t.1 Z;rw[a0H]at hi;rw[List.getElem_drop]at E;apply hc;refine⟨by omega,?_⟩;have N:=mq (l:=l) (n:=n) M;rw[a02,a06 (show jC l n<l.length by omega)]at N⊢;simp only[a0I]at N⊢;rcases a1R i with rfl|hp
  ·simpa using E.symm
  have:=(a20.1 h) (jC l n) (jC l n+i) M M M
  omega
 rcases a07.1 U with U|U
 ·have:=aa a U;omega
 rw[a08]at U;subst U;exact hn
theorem im{l:List Int}{n x:Int}:x∈dB l n↔x=n\/x∈l:=by
 unfold dB;split
 ·rename_i h;constructor
  ·exact .inr
  rintro(rfl|E)
  ·rw[←h.2,a02,a06 h.1];exact a10 h.1
  exact E
 rw[a07,a07,a08];constructor
 ·rintro((h|h)|h)
  ·exact .inr (a1k h)
  ·exact .inl h
  exact .inr (a2o h)
 rintro(h|h)
 ·exact .inl (.inr h)
 rw[←a13 (jC l n) l]at h;rcases a07.1 h with h|h
 ·exact .inl (.inl h)
 exact .inr h
theorem uni_asc{l:List Int}: ∀{a:List Int},Asc a->Asc (cU a l):=by
 induction l with
 |nil=>exact fun h=>h
 |cons x l ih=>exact fun h=>ih (ins_asc h)
theorem nh{l:List Int}{x:Int}: ∀{a:List Int},x∈cU a l↔x∈a\/x∈l:=by
 induction l with
 |nil=>intro a;simp[cU]
 |cons y l ih=>
  intro a
  have:cU a (y::l)=cU (dB a y) l:=rfl
  rw[this,ih,im,a0v]
  constructor
  ·rintro((h|h)|h)
   ·exact .inr (.inl h)
   ·exact .inl h
   exact .inr (.inr h)
  rintro(h|h|h)
  ·exact .inl (.inr h)
  ·exact .inl (.inl h)
  exact .inr h
theorem eE{l:List Int}: ∀{a:List Int},(cU a l).length<=a.length+l.length:=by
 induction l with
 |nil=>intro a;exact a0d _
 |cons y l ih=>
  intro a
  have E:=ih (a:=dB a y)
  have N:=ins_len (l:=a) (n:=y)
  have:cU a (y::l)=cU (dB a y) l:=rfl
  rw[this,a05];omega
theorem uni_snoc{a l:List Int}{x:Int}:cU a (l++[x])=dB (cU a l) x:=by unfold cU;rw[List.foldl_append];rfl
theorem uni_app{a l m:List Int}:cU a (l++m)=cU (cU a l) m:=by unfold cU;rw[List.foldl_append]
theorem aX{α:Type}{d:α}{l:List α}{i:Nat}(h:i<l.length):l.take (i+1)=l.take i++[l.getD i d]:=by rw[List.take_add_one,a06 h,a02,a06 h];rfl
theorem j2{a l o:List Int}{i:Nat}(h:i<l.length)(E:o=cU a (l.take i)):dB o (l.getD i 0)=cU a (l.take (i+1)):=by rw[aX h (d:=0),uni_snoc,E]
theorem uni_all{a l o:List Int}{i:Nat}(h:l.length<=i)(E:o=cU a (l.take i)):o=cU a l:=by rw[E,a0i h]
theorem pre_eqR{l:List Int}{n:Int}{k:Nat}(ha:Asc l)(hk:k<=l.length)(N: ∀j,k<=j->j<l.length->n<=l.getD j 0)(T:0<k->l.getD (k-1) 0<n):k=jC l n:=by
 refine pre_eq hk (fun j hj=>?_) (fun Z=>by have:=N k (a0d _) Z;omega);have U:=T M;rcases a0g j (k-1) with E|E
 ·have:=asc_at ha E M;omega
 have:j=k-1:=M
 subst this;exact U
theorem ge_step{l:List Int}{n:Int}{k:Nat}(h: ∀j,k<=j->j<l.length->n<=l.getD j 0)(N:n<=l.getD (k-1) 0): ∀j,k-1<=j->j<l.length->n<=l.getD j 0:=fun j a_ T=>by
 rcases a0g j k with E|E
 ·have U:j=k-1:=M
  subst U;exact N
 exact h j E T
theorem cp_ins{l:List Int}{n:Int}{k:Nat}(hk:k=jC l n)(Z:k<=l.length)(h: ¬(k<l.length/\l.getD k 0=n)):(cpL (l++[0]) (k+1) ((l++[0]).drop k)).set k n=dB l n:=by
 have e:cpL (l++[0]) (k+1) ((l++[0]).drop k)=(l++[0]).take (k+1)++l.drop k:=by
  unfold cpL;have N:((l++[0]).drop k).length=l.length+1-k:=by simp
  have E:(l++[(0:Int)]).length=l.length+1:=by simp
  rw[N,E,show min (l.length+1-k) (l.length+1-(k+1))=l.length-k by omega,show k+1+(l.length-k)=l.length+1 by omega];rw[show List.drop (l.length+1) (l++[(0:Int)])=[] from List.drop_of_length_le (by rw[E];exact a0d _),a0o];congr 1;rw[List.drop_append,a2i,a0H,show l.length+1-(k+1)=l.length-k by omega,a1S,List.take_zero,a0o,a0i (by rw[a0H];omega)]
 rw[e,←ins_new hk h,a0l,List.take_add_one];rw[List.set_append];have T:(List.take k (l++[0]))=l.take k:=by rw[a2i,Nat.sub_eq_zero_of_le Z,List.take_zero,a0o]
 have U:(l++[(0:Int)])[k]?.toList=[(l++[(0:Int)]).getD k 0]:=by rw[a02,a06 (show k<(l++[(0:Int)]).length by simp;omega)];rfl
 rw[T,U];have a_:(List.take k l++[(l++[(0:Int)]).getD k 0]).length=k+1:=by simp;omega
 rw[if_pos (by rw[a_];omega),List.set_append,if_neg p_,a0p,show k-min k l.length=0 by omega];simp
def eG(v:VInT):List Int:=(if(aE v.i.op).ra then [v.i.a] else [])++((if(aE v.i.op).rb then [v.i.b] else [])++((if v.i.op=11\/v.i.op=12 then [v.i.c] else [])++(if v.i.op=6 then v.args else [])))
def aF(v:VInT):List Int:=if alV v.i.op then cU [] (eG v) else []
def ae(v:VInT):List Int:=if alV v.i.op=true/\((aE v.i.op).wa=true\/v.i.op=6\/v.i.op=38) then [v.i.a] else []
def br(b:BlkT):List Int:=if b.f=1 then [b.t] else if b.f=2 then dB [b.t] b.e else []
def d6(b:BlkT):List Int:=if b.f=2\/b.f=3 then [b.r] else []
theorem reads_no{v:VInT}(h:alV v.i.op=false):[]=aF v:=by unfold aF;rw[h];rfl
theorem reads_yes{v:VInT}{l:List Int}(h:alV v.i.op=true)(E:l=eG v):cU [] l=aF v:=by unfold aF;rw[h,E];rfl
theorem rrT{l:List Int}{a:Int}{p:Prop} [Decidable p](h:p):dB l a=cU l (if p then [a] else []):=by rw[if_pos h];rfl
theorem rrF{l:List Int}{a:Int}{p:Prop} [Decidable p](h: ¬p):l=cU l (if p then [a] else []):=by rw[if_neg h];rfl
theorem vra{op:Int}:(aN op).ra=(aE op).ra:=by unfold aN;split<;>first|rfl|(rename_i h;subst h;rfl)
theorem vrb{op:Int}:(aN op).rb=(aE op).rb:=by unfold aN;split<;>first|rfl|(rename_i h;subst h;rfl)
theorem vf4{op:Int}(h:alV op=true):(aN op).f=4↔op=11\/op=12:=by
 unfold alV at h;have h:=of_decide_eq_true h;by_cases E:op=38
 ·subst E;decide
 have e:aN op=aE op:=by unfold aN;rw[if_neg E]
 rw[e];obtain⟨k,N⟩:=ex37 (op:=op) ⟨by omega,by omega⟩;rw[N];clear N;revert k;decide+kernel
theorem rr_end{v:VInT}{N T U a_:List Int}{k:Nat}(aa:alV v.i.op=true)(Z:N=cU [] (if(aE v.i.op).ra=true then [v.i.a] else []))(q2:T=cU N (if(aE v.i.op).rb=true then [v.i.b] else []))(q3:U=cU T (if v.i.op=11\/v.i.op=12 then [v.i.c] else []))
  (q4:a_=cU U (v.args.take k)) (q6:k=0\/v.i.op=6) (h:v.i.op=6->v.args.length<=k):a_=aF v:=by
 have e:v.args.take k=if v.i.op=6 then v.args else []:=by
  by_cases E:v.i.op=6
  ·rw[if_pos E,a0i (h E)]
  rw[if_neg E];have:k=0:=M
  subst this;rfl
 unfold aF eG
 rw[if_pos aa,uni_app,uni_app,uni_app,←Z,←q2,←q3,←e,←q4]
theorem da{a:Int}{p:Prop} [Decidable p]:(if p then [a] else []).length<=1:=by split<;>simp
theorem rr_len{v:VInT}{E N T U:List Int}{k:Nat}(q1:E=cU [] (if(aE v.i.op).ra=true then [v.i.a] else []))(q2:N=cU E (if(aE v.i.op).rb=true then [v.i.b] else []))(q3:T=cU N (if v.i.op=11\/v.i.op=12 then [v.i.c] else []))
  (q4:U=cU T (v.args.take k)):U.length<=3+v.args.length:=by
 have a_:E.length<=1:=by rw[q1];exact a0e eE (by simpa using da)
 have Z:N.length<=2:=by rw[q2];exact a0e eE (a1G a_ da)
 have h3:T.length<=3:=by rw[q3];exact a0e eE (a1G Z da)
 rw[q4];exact a0e eE (a1G h3 p_)
theorem rr_len1{v:VInT}{E:List Int}(N:E=cU [] (if(aE v.i.op).ra=true then [v.i.a] else [])):E.length<=1:=by rw[N];exact a0e eE (by simpa using da)
theorem rr_len2{v:VInT}{E N:List Int}(T:E.length<=1)(U:N=cU E (if(aE v.i.op).rb=true then [v.i.b] else [])):N.length<=2:=by rw[U];exact a0e eE (a1G T da)
theorem writes_no{v:VInT}(h:alV v.i.op=false):[]=ae v:=by unfold ae;rw[if_neg (by simp[h])]
theorem lV{v:VInT}(h:alV v.i.op=true)(E:(aE v.i.op).wa=true\/v.i.op=6\/v.i.op=38):[v.i.a]=ae v:=by unfold ae;rw[if_pos ⟨h,E⟩]
theorem writes_not{v:VInT}(h: ¬((aE v.i.op).wa=true\/v.i.op=6\/v.i.op=38)):[]=ae v:=by unfold ae;rw[if_neg fun E=>h E.2]
theorem vwa{op:Int}:((aN op).wa=true)↔((aE op).wa=true\/op=38):=by
 unfold aN;split
 ·rename_i h;subst h;simp
 rename_i h;constructor
 ·exact .inl
 rintro(E|E)
 ·exact E
 exact absurd E h
theorem rwr_yes{v:VInT}(h:alV v.i.op=true/\((aN v.i.op).wa=true\/v.i.op=6)):[v.i.a]=ae v:=lV h.1 (by have:=vwa (op:=v.i.op);rcases h.2 with E|E;(rcases this.1 E with N|N);exact .inl N;exact .inr (.inr N);exact .inr (.inl E))
theorem rwr_no{v:VInT}(h:alV v.i.op=true->(aN v.i.op).wa=false/\v.i.op≠6):[]=ae v:=by
 unfold ae;rw[if_neg];rintro⟨T,E⟩;obtain⟨N,U⟩:=h T;have:=vwa (op:=v.i.op);rcases E with E|E|E
 ·rw[this.2 (.inl E)]at N;cases N
 ·exact U E
 rw[this.2 (.inr E)]at N;cases N
theorem succ1{b:BlkT}(h:b.f=1):[b.t]=br b:=by unfold br;rw[if_pos h]
theorem succ2{b:BlkT}(h:b.f=2):br b=dB [b.t] b.e:=by unfold br;rw[if_neg M,if_pos h]
theorem succ0{b:BlkT}(h:b.f≠1/\b.f≠2):[]=br b:=by unfold br;rw[if_neg h.1,if_neg h.2]
theorem j7{a b o:List Int}{i:Nat}(h:i<a.length)(E:o=gT (a.take i) b):(jJ b (a.getD i 0)=false->o++[a.getD i 0]=gT (a.take (i+1)) b)/\(jJ b (a.getD i 0)=true->o=gT (a.take (i+1)) b):=by
 unfold gT at E⊢;rw[aX h (d:=0),List.filter_append,←E];constructor
 ·intro hc;rw[a1C,hc];rfl
 intro hc;rw[a1C,hc];simp
theorem min_len{a b:List Int}:(gT a b).length<=a.length:=a1a _ _
theorem unique_c{ai:Option Addr}{ao:Nat}(l:List Int)(hs:HS (.of H []) F H [] R)(hl:SR F (sL ai l.length ao) l)(hT:TB 37 tabC F)(go:l.length<=1048600):kKt ex 132 [(sL ai l.length ao)] H fun v H'=> ∃(ar:Option Addr) (kr:Nat) (r:List Int) (p:Fp) (F':Fz),Fz.le F F'/\HS (.of H []) F' H' [p] R/\v=sL ar r.length kr/\OS F' (sL ar r.length kr) r p/\r=cU [] l:=by
 refine aC Tryz.func132 V V (am 1 V (wT 2 [] 2 2 [] [(2,(sL none 0 0))] V fun _=>wT 3 [] 1 0 [3] [(3,(sL none 0 0))] V fun _=>wT 2 [] 7 9 [] [(7,(sL ai l.length ao)),(8,(iI (l.length:Int))),(9,(iI 0))] V fun _=>?_));have c9:=HS.snoc hs;refine ak (fun(mm:Nat) f H'=> ∃(ow:List Int) (i:Nat) (E:Option Addr) (N:Nat) (a_:Fp) (F':Fz),Fz.le F F'/\HS (Base.of H []) F' H' [a_] R/\OS F' (sL E ow.length N) ow a_/\aB f [(3,(sL E ow.length N)),(7,(sL ai l.length ao)),(8,(iI (l.length:Int))),(9,(iI (i:Int)))]/\mm=l.length-i/\(i<=l.length)/\(ow=cU [] (l.take i))) _ ⟨([]:List Int),0,none,0,[],_,fR,c9,(OS.nil:OS _ (sL none 0 0) ([]:List Int) []),⟨V,V,V,V,trivial⟩,V,M,m_⟩ ?_;rintro f2 f4 H4 ⟨ow,i,E,N,a_,F4,a2,U,T,bz,rfl,h1,h2⟩ b2;refine au _ bz (fun _=>?_);clear bz;replace hl:=hl.mono a2;have ck:Asc ow:=h2▸uni_asc List.Pairwise.nil;have gs:ow.length<=i:=by rw[h2];exact a0e eE l_
 refine am 1 V (wT 2 [] 10 10 [] [(10,(.bool (decide ((i:Int)<(l.length:Int)))))] V fun _=>zd 4 5 (fun c7=>?_) fun c7=>?_)
 ·obtain⟨e6,b1⟩:=Sv.view (SR.sv hl U);have g9:=fI (b1 i);refine wrp 2 11 12 [5] [(5,(iI (l.getD i 0)))] (Ha_ (Sv.ix (j:=(i:Int)) (SR.sv hl U)) (Hl_ 1 (ql 3 0 (vI (b1 i)) V V) Hn_)) (by kernel_rfl) V fun _=>wT 3 [] 13 14 [6] [(6,(iI (ow.length:Int)))] V fun _=>ak (fun(mm:Nat) f H'=> ∃(k:Nat),H'=H4/\aB f [(3,(sL E ow.length N)),(5,(iI (l.getD i 0))),(6,(iI (k:Int))),(7,(sL ai l.length ao)),(8,(iI (l.length:Int))),(9,(iI (i:Int)))]/\mm=k+1/\(k<=ow.length)/\(∀j,k<=j->j<ow.length->l.getD i 0<=ow.getD j 0)) _ ⟨ow.length,V,⟨V,V,V,V,V,V,trivial⟩,V,M,(by intro j h5 h6;omega)⟩ ?_
  rintro e0 e8 H4 ⟨k,rfl,a4,rfl,h3,h4⟩ b7;refine au _ a4 (fun _=>?_);clear a4;refine am 2 V ?_;obtain⟨d2,a7⟩:=Sv.view (OS.sv T U (i:=0) V);have fd:=fI (a7 (k-1));refine wrp 1 15 25 [] [(25,(.bool ((decide ((0:Int)<(k:Int)))&&(decide ((l.getD i 0)<=(ow.getD (k-1) 0))))))] (Ho_ 5 (.e ((k-1:Nat):Int)) (fun(g1:(decide ((0:Int)<(k:Int)))=true)=>(ve (n:=(k:Int)-1) (m:=((k-1:Nat):Int)) (by(try simp only[BS]at g1);omega) (by(try simp only[BS]at g1);omega))) (Ha_ (fun(g1:(decide ((0:Int)<(k:Int)))=true)=>(Sv.ix (j:=((k-1:Nat):Int)) (OS.sv T U (i:=0) V) (by(try simp only[BS]at g1);omega) (by(try simp only[BS]at g1);omega))) (be 7 (fun g1=>(ql 3 0 (vI (a7 (k-1)) (by(try simp only[BS]at g1);omega)) V V)) Hn_))) V V fun _=>zI 2 6 (fun co=>?_) fun co=>?_
  ·refine wU 2 [(1,.e ((k-1:Nat):Int))] 26 27 [6] [(6,(iI ((k-1:Nat):Int)))] (ve (n:=(k:Int)-1) (m:=((k-1:Nat):Int)) M M) V fun _=>?_
   refine b7 _ _ _ ?_ ⟨k-1,V,⟨V,V,V,V,V,V,trivial⟩,V,M,(ge_step h4 M)⟩;omega
  have hk:=pre_eqR ck h3 h4 M;obtain⟨ef,a8⟩:=Sv.view (OS.sv T U (i:=0) V);have fi:=fI (a8 k);refine wrp 1 28 39 [] [(39,(.bool ((decide ((k:Int)<(ow.length:Int)))&&((ow.getD k 0)==(l.getD i 0)))))] (Ha_ (fun(g1:(decide ((k:Int)<(ow.length:Int)))=true)=>(Sv.ix (j:=(k:Int)) (OS.sv T U (i:=0) V) (by(try simp only[BS]at g1);omega) (by(try simp only[BS]at g1);omega))) (be 8 (fun g1=>(ql 3 0 (vI (a8 k) (by(try simp only[BS]at g1);omega)) V V)) Hn_)) V V fun _=>zI 3 2 (fun c5=>?_) fun c5=>?_
  ·refine wU 1 [] 9 9 [55] [(9,(iI ((i:Int)+1)))] (vi (n:=(i:Int)+1)) V fun _=>?_
   refine b2 _ _ _ ?_ ⟨ow,i+1,E,N,a_,_,(a2),U,T,⟨V,V,V,V,trivial⟩,V,M,(by(rw[←j2 M h2];exact nC hk M M))⟩;omega
  refine ab (zm (sL E ow.length N) (zlo ([0]:List Int) U V (RL.cs ⟨V,by omega⟩ RL.nl) V fun e3 fj f3 e1 b4 a5=>zao 0 T a5 (OS.sv b4 a5 (i:=1) V) V V V M fun Z aa dd cg ax aA=>za (sL Z (ow++([0]:List Int)).length aa) (ah 2 V ?_)));have la:(ow++([0]:List Int)).length=ow.length+1:=by simp
  refine aL V (zfm (sL Z (ow++([0]:List Int)).length aa) (zfm (iI (k:Int)) (wfv (v:=(iI ((k:Int)+1))) (ap_add V V (w_i64 (n:=(k:Int)+1) M)) (fu (id:= .r) (rs_cutX (α:=Int) (i:=k+1) ax aA.log0 (q:=0) V V V V (optN M) M) V V (by rintro _ _ _ ⟨_,_,_,hH,_⟩;simp only at hH;subst hH;exact did_r fun b hb=>absurd hb a0k) (kb V) ?_))));rintro _ _ _ ⟨e4,f0,rfl,ap,ez,a9⟩ b8 bb;simp only at ap;replace ap:=ap.symm;subst ap;have aw:=HS.lg aA.log0 aA bb;generalize ({{cg with log:=[]} with log:=b8}:Heap)=b3 at aw⊢;refine zfm (sL Z (ow++([0]:List Int)).length aa) (zfm (iI (k:Int)) (fu (id:= .r) (rs_cutX (α:=Int) (i:=k) ax aw.log0 (q:=0) V V V V (optN M) M) V V (by rintro _ _ _ ⟨_,_,_,hH,_⟩;simp only at hH;subst hH;exact did_r fun b hb=>absurd hb a0k) (kb V) ?_));rintro _ _ _ ⟨e5,f1,rfl,aq,b5,dn⟩ b9 bk;simp only at aq;replace aq:=aq.symm;subst aq;have a1:=HS.lg aw.log0 aw bk;generalize ({{b3 with log:=[]} with log:=b9}:Heap)=dt at a1⊢;refine fu (id:= .x (dd.map Prod.fst)) (rs_cp (α:=Int) (i:=k+1) ax a1.log0 (q:=0) V V a9 M b5 V V V) V V (by rintro _ _ dk ⟨rfl,av,_,hwr⟩;exact dC V V (Wr.did hwr)) (kb V) ?_;rintro _ ch dk ⟨rfl,av,an,_⟩ cc bl;replace an:=HS.lg an a1 bl;generalize ({ch with log:=cc}:Heap)=dv at an⊢;have et:=OS.len' av;refine gS (am 1 V (ab (bL 4 0 51 54 [] [(53,(iI (l.getD i 0))),(54,(.pointer (some ⟨sB (sL Z (ow++([0]:List Int)).length aa),sO (sL Z (ow++([0]:List Int)).length aa)+k *Rp.sz Int,none⟩)))] (Ha_ (Sv.ix (j:=(k:Int)) (OS.sv av an (i:=0) V)) Hn_) (by kernel_rfl) V fun _=>gf (dm (α:=Int) (j:=k) (off:=0) (q:=0) (l.getD i 0) av an V V V V V V V V (bg (x:=(0:Int)) M) V (by rintro cs ⟨rfl,_⟩;exact⟨a0a V,V,by omega⟩)) V ?_)));rintro _ e2 dl ⟨ay,b6,_⟩;have ds:=OS.len' ay;refine ah 2 V (wU 1 [] 9 9 [55] [(9,(iI ((i:Int)+1)))] (vi (n:=(i:Int)+1)) V fun _=>?_);refine b2 _ _ _ ?_ ⟨(cpL (ow++([0]:List Int)) (k+1) ((ow++([0]:List Int)).drop k)).set k (l.getD i 0),i+1,Z,aa,dl,_,(a2),(HS.sub b6 (a03 _ _)),(OS.norm ay),(agC (show Value.slice Z (ow++([0]:List Int)).length aa=Value.slice Z ((cpL (ow++([0]:List Int)) (k+1) ((ow++([0]:List Int)).drop k)).set k (l.getD i 0)).length aa by rw[OS.len' ay]) ⟨V,V,V,trivial⟩),V,M,(by(rw[cp_ins hk h3 M];exact j2 M h2))⟩;omega
 refine wT 1 [] 2 2 [56] [(2,(sL E ow.length N))] V fun _=>aj ⟨.inr V,_,V,E,N,ow,a_,_,(a2),(HS.only U (i:=0) V),V,T,(uni_all M h2)⟩
theorem mZ{aw:Option Addr}{ax:Nat}(iv:VInT)(hs:HS (.of H []) F H [] R)(hp:in64 iv.i.op)(hr:in64 iv.i.a)(ht:in64 iv.i.b)(hu:in64 iv.i.c)(hv:in64 iv.i.n)(E:SR F (sL aw iv.args.length ax) iv.args)(hT:TB 37 tabC F)(kn:iv.args.length<=1048576):kKt ex 87 [(aG [(iI iv.i.op),(iI iv.i.a),(iI iv.i.b),(iI iv.i.c),(iI iv.i.n),(sL aw iv.args.length ax)])] H fun v H'=> ∃(ar:Option Addr) (kr:Nat) (r:List Int) (p:Fp) (F':Fz),Fz.le F F'/\HS (.of H []) F' H' [p] R/\v=sL ar r.length kr/\OS F' (sL ar r.length kr) r p/\r=aF iv:=by
 refine aC Tryz.func87 V V (am 1 V (ab (bd (aR hs V V) V V ?_)));rintro _ H2 _ ⟨b1,rfl,a8,_⟩;refine za (sL none 0 0) (ah 3 V (aU 1 6 10 [] [(10,(.bool (!(alV iv.i.op))))] (Hr_ 2 0 (Hc_ 3 (m1.ng ex iv.i.op H2) Hn_)) a8 V V fun _=>zI 1 2 (fun c4=>?_) fun c4=>?_))
 ·refine wT 1 [] 2 2 [] [(2,(sL none 0 0))] V fun _=>aj ⟨.inr V,_,V,none,0,([]:List Int),[],_,fR,(HS.cons (HS.forget a8)),V,(OS.nil:OS _ _ _ []),(reads_no X)⟩
 refine ab (aY 3 0 12 14 [] [(14,(iI iv.i.op))] (Hr_ 2 0 Hn_) a8 V V fun _=>zc (m1.ic ex iv.i.op (HS.call a8) M hT) ?_);rintro _ H7 ⟨x7,o7,F7,ci,dn,rfl,ha,hb,rfl,rfl⟩;replace dn:=HS.back a8 V dn;replace hT:=hT.mono ci;replace E:=E.mono ci;refine bL 3 4 16 17 [11] [(16,(aG [(tX (aE iv.i.op).name.b),(iI (aE iv.i.op).f),(.bool (aE iv.i.op).ra),(.bool (aE iv.i.op).wa),(.bool (aE iv.i.op).rb),(.bool (aE iv.i.op).mt),(iI (aE iv.i.op).w)])),(17,(.bool (infO iv.i.op)))] Hn_ (by kernel_rfl) V fun _=>zn dn V fun b9 hG f5=>sgo 2 8 1 0 [4] [] (Hr_ 8 1 Hn_) f5 V V fun hz hH c8=>ah 2 V (wT 3 [] 1 0 [5] [(5,(sL none 0 0))] V fun _=>aU 1 18 19 [] [(19,(.bool (aE iv.i.op).ra))] (Hr_ 1 1 Hn_) c8 V V fun _=>?_)
 have b4:=HS.snoc c8;let b6:Fp:=(fP b1 [(iI iv.i.op),(iI iv.i.a),(iI iv.i.b),(iI iv.i.c),(iI iv.i.n),(sL aw iv.args.length ax)])
 let b7:Fp:=(fP b9 [(tX (aE iv.i.op).name.b),(iI (aE iv.i.op).f),(.bool (aE iv.i.op).ra),(.bool (aE iv.i.op).wa),(.bool (aE iv.i.op).rb),(.bool (aE iv.i.op).mt),(iI (aE iv.i.op).w)])
 refine bj (fun f H'=> ∃(l1:List Int) (N:Option Addr) (a_:Nat) (ap:Fp) (F':Fz),Fz.le F7 F'/\HS (Base.of H []) F' H' [b6,b7,ap] R/\OS F' (sL N l1.length a_) l1 ap/\aB f [(1,(pT b1 0)),(3,(pT b9 0)),(5,(sL N l1.length a_))]/\(l1=if(aE iv.i.op).ra=true then [iv.i.a] else [])) (fun ds=>?_) ?_
 ·refine zI 0 0 (fun g6=>?_) fun g6=>?_
  ·refine ab (aY 4 0 20 23 [] [(20,(sL none 0 0)),(23,(iI iv.i.a))] (Hr_ 3 0 Hn_) b4 V V fun _=>zlo ([iv.i.a]:List Int) b4 V (RL.cs ⟨V,by omega⟩ RL.nl) V fun hX h5 h8 hJ fi c9=>zao 2 (OS.nil:OS _ (sL none 0 0) ([]:List Int) []) c9 (OS.sv fi c9 (i:=3) V) V V V M fun b8 d2 e8 hK b3 f6=>?_);have b3:OS F7 (sL b8 ([iv.i.a]:List Int).length d2) ([iv.i.a]:List Int) e8:=b3;refine za (sL b8 ([iv.i.a]:List Int).length d2) (ah 0 V ?_);exact ds _ _ ⟨([iv.i.a]:List Int),b8,d2,e8,_,fR,(HS.sub f6 (a03 _ _)),b3,⟨V,V,V,trivial⟩,(by(rw[if_pos (by first|assumption|omega)];done))⟩
  exact ds _ _ ⟨([]:List Int),none,0,[],_,fR,b4,(OS.nil:OS _ (sL none 0 0) ([]:List Int) []),⟨V,V,V,trivial⟩,(by(rw[if_neg (by first|omega|(intro hh;simp_all;done))];done))⟩
 skip;rintro h1 hI ⟨l1,N,a_,ap,g1,bl,a7,a9,co,q1⟩;refine au _ co (fun _=>?_);clear co;replace hT:=hT.mono bl;replace E:=E.mono bl;have n1:l1.length<=1:=by rw[q1];exact da
 refine am 3 V (aU 1 26 27 [] [(27,(.bool (aE iv.i.op).rb))] (Hr_ 1 1 Hn_) a7 V V fun _=>bj (fun f H'=> ∃(l2:List Int) (T:Option Addr) (Z:Nat) (aq:Fp) (F':Fz),Fz.le g1 F'/\HS (Base.of H []) F' H' [b6,b7,aq] R/\OS F' (sL T l2.length Z) l2 aq/\aB f [(1,(pT b1 0)),(5,(sL T l2.length Z))]/\(l2=l1++if(aE iv.i.op).rb=true then [iv.i.b] else [])) (fun dt=>?_) ?_)
 ·refine zI 0 0 (fun g7=>?_) fun g7=>?_
  ·refine ab (aY 4 0 28 31 [] [(28,(sL N l1.length a_)),(31,(iI iv.i.b))] (Hr_ 3 0 Hn_) a7 V V fun _=>zlo ([iv.i.b]:List Int) a7 V (RL.cs ⟨V,by omega⟩ RL.nl) V fun hY h6 h9 hM fj dd=>zao 2 a9 dd (OS.sv fj dd (i:=3) V) V V V M fun e1 e4 he hO f0 f7=>za (sL e1 (l1++([iv.i.b]:List Int)).length e4) (ah 0 V ?_));exact dt _ _ ⟨l1++([iv.i.b]:List Int),e1,e4,he,_,fR,(HS.sub f7 (a03 _ _)),f0,⟨V,V,trivial⟩,(by(rw[if_pos (by first|assumption|omega)];done))⟩
  exact dt _ _ ⟨l1,N,a_,ap,_,fR,a7,a9,⟨V,V,trivial⟩,(by(rw[if_neg (by first|omega|(intro hh;simp_all;done)),a0o]))⟩
 skip;rintro h2 hL ⟨l2,T,Z,aq,g2,bz,ay,bb,c5,q2⟩;refine au _ c5 (fun _=>?_);clear c5;replace hT:=hT.mono bz;replace E:=E.mono bz;have n2:l2.length<=2:=by rw[q2,a01];exact a1G n1 da
 refine am 3 V (aU 1 34 43 [] [(43,(.bool ((iv.i.op==11)||(iv.i.op==12))))] (Hr_ 2 0 (be 7 (fun _=>(ql 3 0 (h_ ay V) V V)) Hn_)) ay V V fun _=>bj (fun f H'=> ∃(l3:List Int) (U:Option Addr) (aa:Nat) (av:Fp) (F':Fz),Fz.le g2 F'/\HS (Base.of H []) F' H' [b6,b7,av] R/\OS F' (sL U l3.length aa) l3 av/\aB f [(1,(pT b1 0)),(5,(sL U l3.length aa))]/\(l3=l2++if iv.i.op=11\/iv.i.op=12 then [iv.i.c] else [])) (fun dv=>?_) ?_)
 ·refine zI 0 0 (fun g8=>?_) fun g8=>?_
  ·refine ab (aY 4 0 44 47 [] [(44,(sL T l2.length Z)),(47,(iI iv.i.c))] (Hr_ 3 0 Hn_) ay V V fun _=>zlo ([iv.i.c]:List Int) ay V (RL.cs ⟨V,by omega⟩ RL.nl) V fun h0 h7 ib hQ f1 dk=>zao 2 bb dk (OS.sv f1 dk (i:=3) V) V V V M fun e2 e5 hf hR f2 f8=>za (sL e2 (l2++([iv.i.c]:List Int)).length e5) (ah 0 V ?_));exact dv _ _ ⟨l2++([iv.i.c]:List Int),e2,e5,hf,_,fR,(HS.sub f8 (a03 _ _)),f2,⟨V,V,trivial⟩,(by(rw[if_pos (by first|assumption|omega)];done))⟩
  exact dv _ _ ⟨l2,T,Z,aq,_,fR,ay,bb,⟨V,V,trivial⟩,(by(rw[if_neg (by first|omega|(intro hh;simp_all;done)),a0o]))⟩
 skip;rintro h3 hP ⟨l3,U,aa,av,g3,b2,aA,bk,c6,q3⟩;refine au _ c6 (fun _=>?_);clear c6;replace hT:=hT.mono b2;replace E:=E.mono b2;have n3:l3.length<=3:=by rw[q3,a01];exact a1G n2 da
 refine am 3 V (aU 1 50 53 [] [(53,(.bool (iv.i.op==6)))] (Hr_ 2 0 Hn_) aA V V fun _=>bj (fun f H'=> ∃(l4:List Int) (ag:Option Addr) (an:Nat) (a4:Fp) (F':Fz),Fz.le g3 F'/\HS (Base.of H []) F' H' [b6,b7,a4] R/\OS F' (sL ag l4.length an) l4 a4/\aB f [(5,(sL ag l4.length an))]/\(l4=l3++if iv.i.op=6 then iv.args else [])) (fun d1=>?_) ?_)
 ·refine zI 0 0 (fun g9=>?_) fun g9=>?_
  ·refine ab (aY 3 0 54 56 [] [(54,(sL U l3.length aa)),(56,(sL aw iv.args.length ax))] (Hr_ 2 0 Hn_) aA V V fun _=>zao 2 bk aA (SR.sv E aA) V V V M fun e3 e6 hg hV f3 go=>za (sL e3 (l3++iv.args).length e6) (ah 0 V ?_));exact d1 _ _ ⟨l3++iv.args,e3,e6,hg,_,fR,go,f3,⟨V,trivial⟩,(by(rw[if_pos (by first|assumption|omega)];done))⟩
  exact d1 _ _ ⟨l3,U,aa,av,_,fR,aA,bk,⟨V,trivial⟩,(by(rw[if_neg (by first|omega|(intro hh;simp_all;done)),a0o]))⟩
 skip;rintro h4 hS ⟨l4,ag,an,a4,hD,cg,f9,et,c7,q4⟩;refine au _ c7 (fun _=>?_);clear c7;have n4:l4.length<=1048579:=by rw[q4,a01];(have hq:(if iv.i.op=6 then iv.args else []).length<=iv.args.length:=by split<;>first|exact a0d _|exact a0D _);omega
 refine am 2 V (ab (zm (sL ag l4.length an) ?_));obtain⟨hE,ch,dl,f4,hA⟩:=OS.frz et f9 (i:=2) V;replace hT:=(hT.mono cg).mono ch;refine zc (unique_c ex l4 (HS.call dl) f4 hT M) ?_;rintro _ hW ⟨cc,ef,ih,hj,hF,fd,b5,rfl,e0,rfl⟩;replace b5:=HS.back dl V b5;refine za (sL cc (cU [] l4).length ef) (ah 1 V (aj ⟨.inr V,_,V,cc,ef,cU [] l4,hj,_,(fT (fT (fT (fT (fT (fT (ci) bl) bz) b2) cg) ch) fd),(HS.only b5 (i:=3) V),V,e0,(reads_yes X (by simp only[q4,q3,q2,q1,eG,a0l]))⟩))
theorem nt{a1:Option Addr}{a3:Nat}(iv:VInT)(hs:HS (.of H []) F H [] R)(g2:in64 iv.i.op)(g3:in64 iv.i.a)(g4:in64 iv.i.b)(g5:in64 iv.i.c)(g6:in64 iv.i.n)(E:SR F (sL a1 iv.args.length a3) iv.args)(hT:TB 37 tabC F)(gt:iv.args.length<=1048576):kKt ex 77 [(aG [(iI iv.i.op),(iI iv.i.a),(iI iv.i.b),(iI iv.i.c),(iI iv.i.n),(sL a1 iv.args.length a3)])] H fun v H'=> ∃(ar:Option Addr) (kr:Nat) (r:List Int) (F':Fz),Fz.le F F'/\HS (.of H []) F' H' [] R/\v=sL ar r.length kr/\SR F' (sL ar r.length kr) r/\r=aF iv:=by
 refine aC Tryz.func77 V V (am 1 V (ab (bd (aR hs V V) V V ?_)));rintro _ H2 _ ⟨b1,rfl,a4,_⟩;refine za (sL none 0 0) (ah 2 V (wT 3 [] 1 0 [3] [(3,(sL none 0 0))] V fun _=>aU 1 6 10 [] [(10,(.bool (!(alV iv.i.op))))] (Hr_ 2 0 (Hc_ 3 (m1.ralw_c_q ex iv.i.op H2) Hn_)) a4 V V fun _=>zI 1 2 (fun c5=>?_) fun c5=>?_))
 ·refine wT 1 [] 2 2 [11] [(2,(sL none 0 0))] V fun _=>aj ⟨.inr V,_,V,none,0,([]:List Int),_,fR,(HS.forget a4),V,(SR.nil:SR F (sL none 0 0) ([]:List Int)),(reads_no X)⟩
 have cg:alV iv.i.op=true:=by assumption
 refine ab (aY 3 0 12 14 [] [(14,(iI iv.i.op))] (Hr_ 2 0 Hn_) a4 V V fun _=>zc (m3.rinfo_c ex iv.i.op (HS.call a4) M hT) ?_);rintro _ H8 ⟨x8,F8,ch,c8,rfl,f9,go,rfl⟩;replace c8:=HS.back a4 V c8;replace hT:=hT.mono ch;replace E:=E.mono ch;let b5:Fp:=(fP b1 [(iI iv.i.op),(iI iv.i.a),(iI iv.i.b),(iI iv.i.c),(iI iv.i.n),(sL a1 iv.args.length a3)])
 refine zn c8 V fun b9 hn e8=>sgo 1 5 1 0 [] [] (Hr_ 5 1 Hn_) e8 V V fun ha hp aq=>ah 3 V (aU 1 16 17 [] [(17,(.bool (aN iv.i.op).ra))] (Hr_ 1 1 Hn_) aq V V fun _=>bj (fun f H'=> ∃(l1:List Int) (a_:Option Addr) (aa:Nat) (F':Fz),Fz.le F8 F'/\HS (Base.of H []) F' H' [b5,(fP b9 [(tX (aN iv.i.op).name.b),(iI (aN iv.i.op).f),(.bool (aN iv.i.op).ra),(.bool (aN iv.i.op).wa),(.bool (aN iv.i.op).rb),(.bool (aN iv.i.op).mt),(iI (aN iv.i.op).w)])] R/\SR F' (sL a_ l1.length aa) l1/\aB f [(1,(pT b1 0)),(3,(sL a_ l1.length aa)),(4,(pT b9 0))]/\(l1=cU [] (if(aE iv.i.op).ra=true then [iv.i.a] else []))) (fun dd=>?_) ?_)
 ·refine zI 0 0 (fun f5=>?_) fun f5=>?_
  ·refine ab (aY 4 0 18 21 [] [(18,(sL none 0 0)),(21,(iI iv.i.a))] (Hr_ 3 0 Hn_) aq V V fun _=>zc (m6.dz ex ([]:List Int) iv.i.a (HS.call aq) (SR.nil:SR F8 (sL none 0 0) ([]:List Int)) M hT u_) ?_);rintro _ hr ⟨b6,dn,hG,hg,e3,bl,rfl,et,rfl⟩;replace bl:=HS.back aq V bl;refine za (sL b6 (dB ([]:List Int) iv.i.a).length dn) (ah 0 V ?_);exact dd _ _ ⟨dB ([]:List Int) iv.i.a,b6,dn,_,(e3),bl,et,⟨V,V,V,trivial⟩,(rrT (by rw[←vra];assumption))⟩
  exact dd _ _ ⟨([]:List Int),none,0,_,fR,aq,(SR.nil:SR F8 (sL none 0 0) ([]:List Int)),⟨V,V,V,trivial⟩,(rrF (by rw[←vra];simp_all))⟩
 skip;rintro hB hq ⟨l1,a_,aa,f2,a9,av,a5,ci,q1⟩;refine au _ ci (fun _=>?_);clear ci;replace hT:=hT.mono a9;replace E:=E.mono a9;have n1:=rr_len1 q1;let d2:Fp:=(fP b9 [(tX (aN iv.i.op).name.b),(iI (aN iv.i.op).f),(.bool (aN iv.i.op).ra),(.bool (aN iv.i.op).wa),(.bool (aN iv.i.op).rb),(.bool (aN iv.i.op).mt),(iI (aN iv.i.op).w)])
 refine am 3 V (aU 1 23 24 [] [(24,(.bool (aN iv.i.op).rb))] (Hr_ 1 1 Hn_) av V V fun _=>bj (fun f H'=> ∃(l2:List Int) (Z:Option Addr) (ag:Nat) (F':Fz),Fz.le f2 F'/\HS (Base.of H []) F' H' [b5,d2] R/\SR F' (sL Z l2.length ag) l2/\aB f [(1,(pT b1 0)),(3,(sL Z l2.length ag)),(4,(pT b9 0))]/\(l2=cU l1 (if(aE iv.i.op).rb=true then [iv.i.b] else []))) (fun dk=>?_) ?_)
 ·refine zI 0 0 (fun f6=>?_) fun f6=>?_
  ·refine ab (aY 4 0 25 28 [] [(25,(sL a_ l1.length aa)),(28,(iI iv.i.b))] (Hr_ 3 0 Hn_) av V V fun _=>zc (m6.dz ex l1 iv.i.b (HS.call av) a5 M hT M) ?_);rintro _ hu ⟨b7,ds,hH,hj,e4,bz,rfl,ez,rfl⟩;replace bz:=HS.back av V bz;refine za (sL b7 (dB l1 iv.i.b).length ds) (ah 0 V ?_);exact dk _ _ ⟨dB l1 iv.i.b,b7,ds,_,(e4),bz,ez,⟨V,V,V,trivial⟩,(rrT (by rw[←vrb];assumption))⟩
  exact dk _ _ ⟨l1,a_,aa,_,fR,av,a5,⟨V,V,V,trivial⟩,(rrF (by rw[←vrb];simp_all))⟩
 skip;rintro hC ht ⟨l2,Z,ag,f3,bb,aw,a7,co,q2⟩;refine au _ co (fun _=>?_);clear co;replace hT:=hT.mono bb;replace E:=E.mono bb;have n2:=rr_len2 n1 q2;refine am 3 V (aU 1 30 32 [] [(32,(.bool ((aN iv.i.op).f==4)))] (Hr_ 1 1 Hn_) aw V V fun _=>bj (fun f H'=> ∃(l3:List Int) (an:Option Addr) (ap:Nat) (F':Fz),Fz.le f3 F'/\HS (Base.of H []) F' H' [b5,d2] R/\SR F' (sL an l3.length ap) l3/\aB f [(1,(pT b1 0)),(3,(sL an l3.length ap))]/\(l3=cU l2 (if iv.i.op=11\/iv.i.op=12 then [iv.i.c] else []))) (fun dl=>?_) ?_)
 ·refine zI 0 0 (fun f7=>?_) fun f7=>?_
  ·refine ab (aY 4 0 33 36 [] [(33,(sL Z l2.length ag)),(36,(iI iv.i.c))] (Hr_ 3 0 Hn_) aw V V fun _=>zc (m6.dz ex l2 iv.i.c (HS.call aw) a7 M hT M) ?_);rintro _ hw ⟨b8,dt,hI,hk,e5,b2,rfl,e0,rfl⟩;replace b2:=HS.back aw V b2;refine za (sL b8 (dB l2 iv.i.c).length dt) (ah 0 V ?_);exact dl _ _ ⟨dB l2 iv.i.c,b8,dt,_,(e5),b2,e0,⟨V,V,trivial⟩,(rrT ((vf4 cg).1 X))⟩
  exact dl _ _ ⟨l2,Z,ag,_,fR,aw,a7,⟨V,V,trivial⟩,(rrF (fun hh=>absurd ((vf4 cg).2 hh) M))⟩
 skip;rintro hD hv ⟨l3,an,ap,f4,bk,fd,d1,c6,q3⟩;refine au _ c6 (fun _=>?_);clear c6;refine am 3 V (wT 2 [] 1 0 [5] [(5,(iI 0))] V fun _=>ak (fun(mm:Nat) f H'=> ∃(l4:List Int) (k:Nat) (N:Option Addr) (T:Nat) (F':Fz),Fz.le f4 F'/\HS (Base.of H []) F' H' [b5,d2] R/\SR F' (sL N l4.length T) l4/\aB f [(1,(pT b1 0)),(3,(sL N l4.length T)),(5,(iI (k:Int)))]/\mm=iv.args.length-k/\(l4=cU l3 (iv.args.take k))/\(k<=iv.args.length)/\(k=0\/iv.i.op=6)) _ ⟨l3,0,an,ap,_,fR,fd,d1,⟨V,V,V,trivial⟩,V,m_,M,M⟩ ?_);rintro hb hE hz ⟨l4,k,N,T,hl,a2,U,a8,c7,rfl,q4,q5,q6⟩ fi;refine au _ c7 (fun _=>?_);clear c7;replace hT:=(hT.mono bk).mono a2;replace E:=(E.mono bk).mono a2;have n4:=rr_len q1 q2 q3 q4;refine am 2 V (aU 1 38 48 [] [(48,(.bool ((decide ((k:Int)<(iv.args.length:Int)))&&(iv.i.op==6))))] (Hr_ 2 0 (be 8 (fun _=>(ql 3 0 (h_ U V) V V)) Hn_)) U V V fun _=>zI 3 5 (fun f8=>?_) fun f8=>?_)
 ·refine ab ?_;obtain⟨g9,c9⟩:=Sv.view (SR.sv E U);have hF:=fI (c9 k);refine aY 6 0 51 56 [] [(51,(sL N l4.length T)),(56,(iI (iv.args.getD k 0)))] (Hr_ 2 0 (Ha_ (Sv.ix (j:=(k:Int)) (SR.sv E U)) (Hl_ 5 (ql 3 0 (vI (c9 k)) V V) Hn_))) U V V fun _=>zc (m6.dz ex l4 (iv.args.getD k 0) (HS.call U) a8 M hT M) ?_
  rintro _ hA ⟨cc,dv,hJ,hm,e6,b3,rfl,e1,rfl⟩;replace b3:=HS.back U V b3;refine za (sL cc (dB l4 (iv.args.getD k 0)).length dv) (ah 2 V (wU 1 [] 49 50 [5] [(5,(iI ((k:Int)+1)))] (vi (n:=(k:Int)+1)) V fun _=>?_));refine fi _ _ _ ?_ ⟨dB l4 (iv.args.getD k 0),k+1,cc,dv,_,(fT (a2) e6),b3,e1,⟨V,V,V,trivial⟩,V,(j2 M q4),M,M⟩;omega
 refine wT 1 [] 2 2 [58] [(2,(sL N l4.length T))] V fun _=>aj ⟨.inr V,_,V,N,T,l4,_,(fT (fT (fT (fT (ch) a9) bb) bk) a2),(HS.forget U),V,a8,(rr_end X q1 q2 q3 q4 q6 M)⟩
theorem iB{T:Option Addr}{U:Nat}(iv:VInT)(hs:HS (.of H []) F H [] R)(aA:in64 iv.i.op)(a1:in64 iv.i.a)(a2:in64 iv.i.b)(a3:in64 iv.i.c)(a4:in64 iv.i.n)(a5:SR F (sL T iv.args.length U) iv.args)(hT:TB 37 tabC F):kKt ex 88 [(aG [(iI iv.i.op),(iI iv.i.a),(iI iv.i.b),(iI iv.i.c),(iI iv.i.n),(sL T iv.args.length U)])] H fun v H'=> ∃(ar:Option Addr) (kr:Nat) (r:List Int) (p:Fp) (F':Fz),Fz.le F F'/\HS (.of H []) F' H' [p] R/\v=sL ar r.length kr/\OS F' (sL ar r.length kr) r p/\r=ae iv:=by
 refine aC Tryz.func88 V V (am 1 V (ab (bd (aR hs V V) V V ?_)));rintro _ H2 _ ⟨b1,rfl,N,_⟩;refine za (sL none 0 0) (ah 3 V (aU 1 5 9 [] [(9,(.bool (!(alV iv.i.op))))] (Hr_ 2 0 (Hc_ 3 (m1.ng ex iv.i.op H2) Hn_)) N V V fun _=>zI 1 2 (fun c4=>?_) fun c4=>?_))
 ·refine wT 1 [] 2 2 [] [(2,(sL none 0 0))] V fun _=>aj ⟨.inr V,_,V,none,0,([]:List Int),[],_,fR,(HS.cons (HS.forget N)),V,(OS.nil:OS _ _ _ []),(writes_no X)⟩
 refine ab (aY 3 0 11 13 [] [(13,(iI iv.i.op))] (Hr_ 2 0 Hn_) N V V fun _=>zc (m1.ic ex iv.i.op (HS.call N) M hT) ?_);rintro _ H7 ⟨x7,o7,F7,aa,a_,rfl,aw,ax,rfl,rfl⟩;replace a_:=HS.back N V a_;refine bL 3 4 15 16 [10] [(15,(aG [(tX (aE iv.i.op).name.b),(iI (aE iv.i.op).f),(.bool (aE iv.i.op).ra),(.bool (aE iv.i.op).wa),(.bool (aE iv.i.op).rb),(.bool (aE iv.i.op).mt),(iI (aE iv.i.op).w)])),(16,(.bool (infO iv.i.op)))] Hn_ (by kernel_rfl) V fun _=>zn a_ V fun b9 a9 ap=>sgo 2 8 1 0 [4] [] (Hr_ 8 1 Hn_) ap V V fun a8 bb E=>ah 3 V (aU 1 17 30 [] [(30,(.bool (((aE iv.i.op).wa||(iv.i.op==6))||(iv.i.op==38))))] (Hr_ 1 1 (be 5 (fun _=>(ql 3 0 (h_ E V) V V)) (be 11 (fun _=>(ql 3 0 (h_ E V) V V)) Hn_))) E V V fun _=>zI 1 2 (fun av=>?_) fun av=>?_)
 ·refine ab (aY 3 0 31 33 [] [(33,(iI iv.i.a))] (Hr_ 2 0 Hn_) E V V fun _=>zlo ([iv.i.a]:List Int) E V (RL.cs ⟨V,by omega⟩ RL.nl) V fun Z ag ay bk an aq=>za (sL Z ([iv.i.a]:List Int).length ag) (ah 1 V (aj ⟨.inr V,_,V,Z,ag,([iv.i.a]:List Int),ay,_,(aa),(HS.only aq (i:=2) V),V,an,(lV X (or_assoc.1 X))⟩)))
 refine wT 1 [] 2 2 [] [(2,(sL none 0 0))] V fun _=>aj ⟨.inr V,_,V,none,0,([]:List Int),[],_,(aa),(HS.cons (HS.forget E)),V,(OS.nil:OS _ _ _ []),(writes_not (by simp_all))⟩
theorem kN{T:Option Addr}{U:Nat}(iv:VInT)(hs:HS (.of H []) F H [] R)(a5:in64 iv.i.op)(a7:in64 iv.i.a)(a8:in64 iv.i.b)(a9:in64 iv.i.c)(bb:in64 iv.i.n)(bk:SR F (sL T iv.args.length U) iv.args)(hT:TB 37 tabC F):kKt ex 61 [(aG [(iI iv.i.op),(iI iv.i.a),(iI iv.i.b),(iI iv.i.c),(iI iv.i.n),(sL T iv.args.length U)])] H fun v H'=> ∃(ar:Option Addr) (kr:Nat) (r:List Int) (p:Fp) (F':Fz),Fz.le F F'/\HS (.of H []) F' H' [p] R/\v=sL ar r.length kr/\OS F' (sL ar r.length kr) r p/\r=ae iv:=by
 refine aC Tryz.func61 V V (am 1 V (ab (bd (aR hs V V) V V ?_)));rintro _ H2 _ ⟨b1,rfl,a_,_⟩;refine za (sL none 0 0) (ah 3 V (wk_rcut 3 19 [] [(19,(.bool (alV iv.i.op&&((aN iv.i.op).wa||(iv.i.op==6)))))] (fun H'=> ∃F',Fz.le F F'/\HS (Base.of H []) F' H' [(fP b1 [(iI iv.i.op),(iI iv.i.a),(iI iv.i.b),(iI iv.i.c),(iI iv.i.n),(sL T iv.args.length U)])] R) ?_ ?_))
 ·refine ab (cP (v:=(pT b1 0)) (ap_fa V V) V V (cP (v:=(pT b1 0)) (ap_fa V V) V V (cP (v:=(iI iv.i.op)) (gB (i:=0) V V (h_ a_ V) V V) V V (zc (m1.ralw_c ex iv.i.op _) ?_))));rintro _ H2 ⟨r6,rfl,rfl,rfl⟩;refine zm (.bool (alV iv.i.op)) (wo_gsT (v:=(alV iv.i.op)) V V (fun E=>?_) (fun E=>?_))
  ·have ap:=E;try simp only[BS]at ap
   refine cP (v:=(pT b1 0)) (ap_fa V V) V V (iZ V E (cP (v:=(pT b1 0)) (ap_fa V V) V V (iZ V E (cP (v:=(iI iv.i.op)) (gB (i:=0) V V (h_ a_ V) V V) V V (iZ V E ?_)))));refine zc (m3.rinfo_c ex iv.i.op (HS.call a_) M hT) ?_;rintro _ H8 ⟨x8,F8,ax,Z,rfl,a2,a3,rfl⟩;replace Z:=HS.back a_ V Z;refine iZ V E (cP (v:=(.bool (aN iv.i.op).wa)) (ap_fv V V) V V (iZ V E (zm (.bool (aN iv.i.op).wa) (wo_gsF (v:=(aN iv.i.op).wa) V V (fun N=>?_) (fun N=>?_)))))
   ·have aq:=N;try simp only[BS]at aq
    refine cP (v:=(pT b1 0)) (ap_fa V V) V V (iZ V N (cP (v:=(pT b1 0)) (ap_fa V V) V V (iZ V N (cP (v:=(iI iv.i.op)) (gB (i:=0) V V (h_ Z V) V V) V V (iZ V N ?_)))));refine cP (v:=(.bool (iv.i.op==6))) (ap_cmp V V V V) V V (iZ V E (cP (v:=(.bool (iv.i.op==6))) (ap_pickF V N V) V V (cP (v:=(.bool (iv.i.op==6))) (nW V E V) V V (iy ?_))));exact aP ⟨V,⟨_,(fT fR ax),HS.sub Z (List.Sublist.refl _)⟩,(by repeat' first|exact Lr|refine Lu V ?_),(agC (congrArg Value.bool (show(iv.i.op==6)=(alV iv.i.op&&((aN iv.i.op).wa||(iv.i.op==6))) by simp only[↓E,↓N,BT])) agN)⟩
   have aq:=N;try simp only[BS]at aq
   refine wo_gf0 V N V (wo_gf0 V N V (wo_gf0 V N V (iZ V E (cP (v:=(.bool true)) (nW V N V) V V (cP (v:=(.bool true)) (nW V E V) V V ?_)))));refine iy ?_;exact aP ⟨V,⟨_,(fT fR ax),HS.sub Z (List.Sublist.refl _)⟩,(by repeat' first|exact Lr|refine Lu V ?_),(agC (congrArg Value.bool (show true=(alV iv.i.op&&((aN iv.i.op).wa||(iv.i.op==6))) by simp only[↓E,↓N,BT])) agN)⟩
  have ap:=E;try simp only[BS]at ap
  refine lX V E V (lX V E V (lX V E V (lX V E V (lX V E V (wo_gn V V ?_)))));refine wo_gn V V (wo_gn V V (wo_gn V V (lX V E V (cP (v:=(.bool false)) (ap_pickF V E V) V V (iy ?_)))));exact aP ⟨V,⟨_,fR,HS.sub a_ (List.Sublist.refl _)⟩,(by repeat' first|exact Lr|refine Lu V ?_),(agC (congrArg Value.bool (show false=(alV iv.i.op&&((aN iv.i.op).wa||(iv.i.op==6))) by simp only[↓E,BT])) agN)⟩
 skip;rintro g5 H5 ⟨F5,aw,an⟩;refine am 1 V (zI 1 2 (fun ag=>?_) fun ag=>?_)
 ·have hq:=ag;refine ab (aY 3 0 20 22 [] [(22,(iI iv.i.a))] (Hr_ 2 0 Hn_) an V V fun _=>zlo ([iv.i.a]:List Int) an V (RL.cs ⟨V,by omega⟩ RL.nl) V fun av ay a4 bz aA a1=>za (sL av ([iv.i.a]:List Int).length ay) (ah 1 V (aj ⟨.inr V,_,V,av,ay,([iv.i.a]:List Int),a4,_,(aw),(HS.only a1 (i:=1) V),V,aA,(rwr_yes hq)⟩)))
 have hq:=ag;refine wT 1 [] 2 2 [] [(2,(sL none 0 0))] V fun _=>aj ⟨.inr V,_,V,none,0,([]:List Int),[],_,(aw),(HS.cons (HS.forget an)),V,(OS.nil:OS _ _ _ []),(rwr_no hq)⟩
theorem vsucc_c{T:Option Addr}{aa:Nat}(b:BlkT)(hs:HS (.of H []) F H [] R)(a5:SR F (sL T b.v.length aa) b.v)(a8:in64 b.f)(a9:in64 b.r)(bb:in64 b.t)(bk:in64 b.e)(hT:TB 37 tabC F):kKt ex 139 [(aG [(sL T b.v.length aa),(iI b.f),(iI b.r),(iI b.t),(iI b.e)])] H fun v H'=> ∃(ar:Option Addr) (kr:Nat) (r:List Int) (p:Fp) (F':Fz),Fz.le F F'/\HS (.of H []) F' H' [p] R/\v=sL ar r.length kr/\OS F' (sL ar r.length kr) r p/\r=br b:=by
 refine aC Tryz.func139 V V (am 1 V (ab (bd (aR hs V V) V V ?_)));rintro _ H2 _ ⟨b1,rfl,E,_⟩;refine za (sL none 0 0) (ah 3 V (aU 3 3 4 [] [(4,(iI b.f))] (Hr_ 1 0 Hn_) E V V fun _=>wT 1 [] 5 6 [] [(5,(.bool (b.f==1)))] V fun _=>zI 1 1 (fun c5=>?_) fun c5=>?_))
 ·refine ab (aY 2 0 7 8 [] [(8,(iI b.t))] (Hr_ 1 0 Hn_) E V V fun _=>zlo ([b.t]:List Int) E V (RL.cs ⟨V,by omega⟩ RL.nl) V fun a7 k7 p7 H8 aA a1=>za (sL a7 ([b.t]:List Int).length k7) (ah 1 V (aj ⟨.inr V,_,V,a7,k7,([b.t]:List Int),p7,_,fR,(HS.only a1 (i:=1) V),V,aA,(succ1 X)⟩)))
 refine wT 1 [] 10 11 [] [(10,(.bool (b.f==2)))] V fun _=>zI 1 3 (fun ay=>?_) fun ay=>?_
 ·refine ab (aY 4 0 12 15 [] [(13,(iI b.t)),(15,(iI b.e))] (Hr_ 1 0 (Hr_ 3 0 Hn_)) E V V fun _=>zlo ([b.t,b.e]:List Int) E V (RL.cs ⟨V,by omega⟩ (RL.cs ⟨V,by omega⟩ RL.nl)) V fun b6 b7 b8 b4 aq aw=>?_);obtain⟨b2,a_,Z,av,bl⟩:=OS.frz aq aw (i:=1) V;replace hT:=hT.mono a_;refine zc (unique_c ex ([b.t,b.e]:List Int) (HS.call Z) av hT o_) ?_;rintro _ b5 ⟨U,ag,b9,a3,b3,ap,N,rfl,an,rfl⟩;replace N:=HS.back Z V N;refine za (sL U (cU [] ([b.t,b.e]:List Int)).length ag) (ah 1 V (aj ⟨.inr V,_,V,U,ag,cU [] ([b.t,b.e]:List Int),a3,_,(fT (a_) ap),(HS.only N (i:=2) V),V,an,(succ2 X).symm⟩))
 refine wT 1 [] 2 2 [] [(2,(sL none 0 0))] V fun _=>aj ⟨.inr V,_,V,none,0,([]:List Int),[],_,fR,(HS.cons (HS.forget E)),V,(OS.nil:OS _ _ _ []),(succ0 M)⟩
theorem rsucc_c{T:Option Addr}{ag:Nat}(b:BlkT)(hs:HS (.of H []) F H [] R)(a9:SR F (sL T b.v.length ag) b.v)(bb:in64 b.f)(bk:in64 b.r)(bl:in64 b.t)(bz:in64 b.e)(hT:TB 37 tabC F):kKt ex 96 [(aG [(sL T b.v.length ag),(iI b.f),(iI b.r),(iI b.t),(iI b.e)])] H fun v H'=> ∃(ar:Option Addr) (kr:Nat) (r:List Int) (F':Fz),Fz.le F F'/\HS (.of H []) F' H' [] R/\v=sL ar r.length kr/\SR F' (sL ar r.length kr) r/\r=br b:=by
 refine aC Tryz.func96 V V (am 1 V (ab (bd (aR hs V V) V V ?_)));rintro _ H2 _ ⟨b1,rfl,E,_⟩;refine za (sL none 0 0) (ah 3 V (aU 3 3 4 [] [(4,(iI b.f))] (Hr_ 1 0 Hn_) E V V fun _=>wT 1 [] 5 6 [] [(5,(.bool (b.f==1)))] V fun _=>zI 1 1 (fun c5=>?_) fun c5=>?_))
 ·refine ab (aY 2 0 7 8 [] [(8,(iI b.t))] (Hr_ 1 0 Hn_) E V V fun _=>zlo ([b.t]:List Int) E V (RL.cs ⟨V,by omega⟩ RL.nl) V fun a7 k7 p7 H8 a1 a3=>za (sL a7 ([b.t]:List Int).length k7) (ah 1 V ?_));obtain⟨F9,aA,a4,a2,b8⟩:=OS.frz a1 a3 (i:=1) V;refine aj ⟨.inr V,_,V,a7,k7,([b.t]:List Int),_,(aA),(HS.forget a4),V,a2,(succ1 X)⟩
 refine wT 1 [] 10 11 [] [(10,(.bool (b.f==2)))] V fun _=>zI 1 3 (fun ay=>?_) fun ay=>?_
 ·refine ab (aY 2 0 12 13 [] [(13,(iI b.t))] (Hr_ 1 0 Hn_) E V V fun _=>zlo ([b.t]:List Int) E V (RL.cs ⟨V,by omega⟩ RL.nl) V fun b7 b9 cc b5 av Z=>aY 2 3 15 16 [] [(16,(iI b.e))] (Hr_ 4 0 Hn_) Z V V fun _=>?_);obtain⟨b3,a_,aa,aw,b2⟩:=OS.frz av Z (i:=1) V;replace hT:=hT.mono a_;refine zc (m6.dz ex ([b.t]:List Int) b.e (HS.call aa) aw M hT o_) ?_;rintro _ b6 ⟨U,an,cg,b4,aq,N,rfl,ap,rfl⟩;replace N:=HS.back aa V N;refine za (sL U (dB ([b.t]:List Int) b.e).length an) (ah 1 V (aj ⟨.inr V,_,V,U,an,dB ([b.t]:List Int) b.e,_,(fT (a_) aq),(HS.forget N),V,ap,(succ2 X).symm⟩))
 refine wT 1 [] 2 2 [] [(2,(sL none 0 0))] V fun _=>aj ⟨.inr V,_,V,none,0,([]:List Int),_,fR,(HS.forget E),V,(SR.nil:SR F (sL none 0 0) ([]:List Int)),(succ0 M)⟩
theorem rend_c{N:Option Addr}{T:Nat}(b:BlkT)(hs:HS (.of H []) F H [] R)(aa:SR F (sL N b.v.length T) b.v)(ag:in64 b.f)(an:in64 b.r)(ap:in64 b.t)(aq:in64 b.e)(hT:TB 37 tabC F):kKt ex 104 [(aG [(sL N b.v.length T),(iI b.f),(iI b.r),(iI b.t),(iI b.e)])] H fun v H'=> ∃(ar:Option Addr) (kr:Nat) (r:List Int) (p:Fp) (F':Fz),Fz.le F F'/\HS (.of H []) F' H' [p] R/\v=sL ar r.length kr/\OS F' (sL ar r.length kr) r p/\r=d6 b:=by
 refine aC Tryz.func104 V V (am 1 V (ab (bd (aR hs V V) V V ?_)));rintro _ H2 _ ⟨b1,rfl,E,_⟩;refine za (sL none 0 0) (ah 3 V (aU 1 3 10 [] [(10,(.bool ((b.f==2)||(b.f==3))))] (Hr_ 1 0 (be 5 (fun _=>(ql 3 1 (h_ E V) V V)) Hn_)) E V V fun _=>zI 1 2 (fun c4=>?_) fun c4=>?_))
 ·refine ab (aY 2 0 11 12 [] [(12,(iI b.r))] (Hr_ 1 0 Hn_) E V V fun _=>zlo ([b.r]:List Int) E V (RL.cs ⟨V,by omega⟩ RL.nl) V fun a6 Z p6 H7 U a_=>za (sL a6 ([b.r]:List Int).length Z) (ah 1 V (aj ⟨.inr V,_,V,a6,Z,([b.r]:List Int),p6,_,fR,(HS.only a_ (i:=1) V),V,U,(if_pos M).symm⟩)))
 refine wT 1 [] 2 2 [] [(2,(sL none 0 0))] V fun _=>aj ⟨.inr V,_,V,none,0,([]:List Int),[],_,fR,(HS.cons (HS.forget E)),V,(OS.nil:OS _ _ _ []),(if_neg M).symm⟩
theorem fv{ad:Option Addr}{al:Nat}(a:List Int){ai:Option Addr}{ao:Nat}(b:List Int)(hs:HS (.of H []) F H [] R)(ha:SR F (sL ad a.length al) a)(hb:SR F (sL ai b.length ao) b)(hT:TB 37 tabC F)(ci:a.length+b.length<=1073741824):kKt ex 64 [(sL ad a.length al),(sL ai b.length ao)] H fun v H'=> ∃(ar:Option Addr) (kr:Nat) (r:List Int) (F':Fz),Fz.le F F'/\HS (.of H []) F' H' [] R/\v=sL ar r.length kr/\SR F' (sL ar r.length kr) r/\r=cU a b:=by
 refine aC Tryz.func64 V V (am 1 V (wT 2 [] 4 4 [] [(4,(sL none 0 0))] V fun _=>ab (zm (sL ad a.length al) ?_)));have ax:=HS.snoc hs;refine zao 0 (OS.nil:OS F (sL none 0 0) ([]:List Int) []) ax (SR.sv ha ax) V V V M fun a3 k3 p3 H4 an a5=>?_
 have an:OS F (sL a3 a.length k3) a p3:=an;refine za (sL a3 a.length k3) (ah 3 V ?_);obtain⟨F5,ag,a7,a4,b3⟩:=OS.frz an a5 (i:=0) V;refine wT 2 [] 1 0 [6] [(6,(iI 0))] V fun _=>ak (fun(mm:Nat) f H'=> ∃(o:List Int) (i:Nat) (E:Option Addr) (N:Nat) (F':Fz),Fz.le F5 F'/\HS (Base.of H []) F' H' [[]] R/\SR F' (sL E o.length N) o/\aB f [(1,(sL ai b.length ao)),(5,(sL E o.length N)),(6,(iI (i:Int)))]/\mm=b.length-i/\(i<=b.length)/\(o=cU a (b.take i))) _ ⟨a,0,a3,k3,_,fR,a7,a4,⟨V,V,V,trivial⟩,V,M,m_⟩ ?_
 rintro b4 f7 H7 ⟨o,i,E,N,F7,a_,T,Z,aw,rfl,h1,h2⟩ a8;refine au _ aw (fun _=>?_);clear aw;replace hT:=(hT.mono ag).mono a_;replace hb:=(hb.mono ag).mono a_;have n4:o.length<=a.length+b.length:=by rw[h2];exact a0e eE l_
 refine am 2 V (wT 1 [] 9 12 [] [(12,(.bool (decide ((i:Int)<(b.length:Int)))))] V fun _=>zd 3 5 (fun c9=>?_) fun c9=>?_)
 ·refine ab ?_;obtain⟨bk,ap⟩:=Sv.view (SR.sv hb T);have b2:=fI (ap i);refine bL 5 0 15 19 [] [(15,(sL E o.length N)),(19,(iI (b.getD i 0)))] (Ha_ (Sv.ix (j:=(i:Int)) (SR.sv hb T)) (Hl_ 4 (ql 3 0 (vI (ap i)) V V) Hn_)) (by kernel_rfl) V fun _=>zc (m6.dz ex o (b.getD i 0) (HS.call T) Z M hT M) ?_
  rintro _ b1 ⟨aa,aq,b5,bz,a1,U,rfl,av,rfl⟩;replace U:=HS.back T V U;refine za (sL aa (dB o (b.getD i 0)).length aq) (ah 2 V (wU 1 [] 13 14 [6] [(6,(iI ((i:Int)+1)))] (vi (n:=(i:Int)+1)) V fun _=>?_));refine a8 _ _ _ ?_ ⟨dB o (b.getD i 0),i+1,aa,aq,_,(fT (a_) a1),U,av,⟨V,V,V,trivial⟩,V,M,(j2 M h2)⟩;omega
 refine wT 1 [] 4 4 [21] [(4,(sL E o.length N))] V fun _=>aj ⟨.inr V,_,V,E,N,o,_,(fT (ag) a_),(HS.forget T),V,Z,(uni_all M h2)⟩
theorem minus_c{ai:Option Addr}{an:Nat}(a:List Int){al:Option Addr}{ao:Nat}(b:List Int)(hs:HS (.of H []) F H [] R)(ha:SR F (sL ai a.length an) a)(hb:SR F (sL al b.length ao) b)(hT:TB 37 tabC F)(co:a.length<=1073741824/\b.length<=1073741824):kKt ex 107 [(sL ai a.length an),(sL al b.length ao)] H fun v H'=> ∃(ar:Option Addr) (kr:Nat) (r:List Int) (p:Fp) (F':Fz),Fz.le F F'/\HS (.of H []) F' H' [p] R/\v=sL ar r.length kr/\OS F' (sL ar r.length kr) r p/\r=gT a b:=by
 refine aC Tryz.func107 V V (am 1 V (wT 2 [] 4 4 [] [(4,(sL none 0 0))] V fun _=>wT 3 [] 1 0 [5] [(5,(sL none 0 0))] V fun _=>wT 2 [] 1 0 [6] [(6,(iI 0))] V fun _=>?_));have a3:=HS.snoc hs;refine ak (fun(mm:Nat) f H'=> ∃(o:List Int) (i:Nat) (E:Option Addr) (N:Nat) (T:Fp) (F':Fz),Fz.le F F'/\HS (Base.of H []) F' H' [T] R/\OS F' (sL E o.length N) o T/\aB f [(0,(sL ai a.length an)),(1,(sL al b.length ao)),(5,(sL E o.length N)),(6,(iI (i:Int)))]/\mm=a.length-i/\(i<=a.length)/\(o=gT (a.take i) b)) _ ⟨([]:List Int),0,none,0,[],_,fR,a3,(OS.nil:OS _ (sL none 0 0) ([]:List Int) []),⟨V,V,V,V,trivial⟩,V,M,m_⟩ ?_;rintro b1 f4 H4 ⟨o,i,E,N,T,F4,a_,U,Z,aq,rfl,h1,h2⟩ aw;refine au _ aq (fun _=>?_);clear aq;replace hT:=hT.mono a_;replace ha:=ha.mono a_;replace hb:=hb.mono a_;have n4:o.length<=a.length:=by rw[h2];exact a0e min_len l_
 refine am 2 V (wT 1 [] 7 10 [] [(10,(.bool (decide ((i:Int)<(a.length:Int)))))] V fun _=>zd 4 5 (fun c7=>?_) fun c7=>?_)
 ·obtain⟨bk,av⟩:=Sv.view (SR.sv ha U);have g9:=fI (av i);refine wrp 1 13 19 [] [(19,(.bool (!(jJ b (a.getD i 0)))))] (Ha_ (Sv.ix (j:=(i:Int)) (SR.sv ha U)) (Hl_ 4 (ql 3 0 (vI (av i)) V V) (Hc_ 5 (m6.dZ ex b (a.getD i 0) (HS.call U) hb M hT M) Hn_))) (by kernel_rfl) V fun _=>zI 0 2 (fun a2=>?_) fun a2=>?_
  ·refine ab ?_;obtain⟨a7,ag⟩:=Sv.view (SR.sv ha U);have bl:=fI (ag i);refine bL 5 0 20 24 [] [(20,(sL E o.length N)),(24,(iI (a.getD i 0)))] (Ha_ (Sv.ix (j:=(i:Int)) (SR.sv ha U)) (Hl_ 4 (ql 3 0 (vI (ag i)) V V) Hn_)) (by kernel_rfl) V fun _=>zlo ([(a.getD i 0)]:List Int) U V (RL.cs ⟨V,by omega⟩ RL.nl) V fun bb bz b2 a8 ay aa=>zao 0 Z aa (OS.sv ay aa (i:=1) V) V V V M fun ap ax a4 a9 aA a1=>za (sL ap (o++([(a.getD i 0)]:List Int)).length ax) (ah 2 V (wU 1 [] 11 12 [6] [(6,(iI ((i:Int)+1)))] (vi (n:=(i:Int)+1)) V fun _=>?_))
   refine aw _ _ _ ?_ ⟨o++([(a.getD i 0)]:List Int),i+1,ap,ax,a4,_,(a_),(HS.sub a1 (a03 _ _)),aA,⟨V,V,V,V,trivial⟩,V,M,((j7 M h2).1 X)⟩;omega
  refine wU 1 [] 11 12 [6] [(6,(iI ((i:Int)+1)))] (vi (n:=(i:Int)+1)) V fun _=>?_
  refine aw _ _ _ ?_ ⟨o,i+1,E,N,T,_,(a_),U,Z,⟨V,V,V,V,trivial⟩,V,M,((j7 M h2).2 X)⟩;omega
 refine wT 1 [] 4 4 [27] [(4,(sL E o.length N))] V fun _=>aj ⟨.inr V,_,V,E,N,o,T,_,(a_),(HS.only U (i:=0) V),V,Z,(by rw[h2,a0i M])⟩
end ma
open ma
namespace ml
open Go.R m1 m2 m3 m4 m5 m6 ma
abbrev bB(c:VFnT)(b:Nat):BlkT:=c.u.getD b v_
def tr:List VInT->(Nat->Prop)->Nat->Prop
 | [],S,r=>S r
 |v::l,S,r=>(r:Int)∈aF v\/(tr l S r/\(r:Int)∉ae v)
theorem nj{S S':Nat->Prop}(h: ∀r,S r->S' r): ∀(l:List VInT) (r:Nat),tr l S r->tr l S' r
 | [],r,hr=>h r hr
 |_::l,r,.inl hr=> .inl hr
 |_::l,r,.inr hr=> .inr ⟨nj h l r hr.1,hr.2⟩
def endS(b:BlkT)(S:Nat->Prop)(r:Nat):Prop:=S r\/(r:Int)∈d6 b
theorem endS_mono{b:BlkT}{S S':Nat->Prop}(h: ∀r,S r->S' r)(r:Nat)(E:endS b S r):endS b S' r:=E.imp (h r) id
def inS(b:BlkT)(S:Nat->Prop)(r:Nat):Prop:=tr b.v (endS b S) r
theorem fG{b:BlkT}{S S':Nat->Prop}(h: ∀r,S r->S' r)(r:Nat)(E:inS b S r):inS b S' r:=nj (endS_mono h) _ r E
def outS(c:VFnT)(I:Nat->Nat->Prop)(b:Nat)(r:Nat):Prop:= ∃t∈br (bB c b),I t.toNat r
theorem iH{c:VFnT}{I T:Nat->Nat->Prop}(h: ∀b r,I b r->T b r)(b r:Nat):outS c I b r->outS c T b r:=fun⟨t,E,N⟩=>⟨t,E,h _ _ N⟩
def Clo(c:VFnT)(I:Nat->Nat->Prop):Prop:= ∀b,b<c.u.length->∀r,inS (bB c b) (outS c I b) r->I b r
def LIn(c:VFnT)(b r:Nat):Prop:= ∀I,Clo c I->I b r
def mW(c:VFnT)(b r:Nat):Prop:=outS c (LIn c) b r
theorem oq(c:VFnT):Clo c (LIn c):=fun b N r U I E=>E b N r (fG (fun q T=>iH (fun b r h=>h I E) b q T) r U)
theorem LIn_lt{c:VFnT}{b r:Nat}(h:LIn c b r):b<c.u.length:=h (fun b _=>b<c.u.length) fun _ E _ _=>E
theorem LIn_step{c:VFnT}{b r:Nat}(h:LIn c b r):inS (bB c b) (mW c b) r:=by
 have hb:=LIn_lt h;refine h (fun b r=>inS (bB c b) (mW c b) r) fun b' an r' U=>?_
 refine fG (fun q hq=>?_) r' U;exact iH (fun T aa N=>by
  intro I hI;rcases a0g T c.u.length with E|E
  ·exact oq c T E aa N I hI
  exfalso;have e:bB c T=v_:=cb E;rw[e]at N;rcases N with N|N
  ·obtain⟨t,Z,_⟩:=N;rw[e]at Z;cases Z
  cases N) b' q hq
theorem LIn_iff{c:VFnT}{b r:Nat}(E:b<c.u.length):LIn c b r↔inS (bB c b) (mW c b) r:=⟨LIn_step,oq c b E r⟩
abbrev wds(c:VFnT):Nat:=(Int.tdiv (c.r+63) 64).toNat
def bI(I:List (List U64))(b r:Nat):Prop:=aH (I.getD b v_) r=true
structure Snd(c:VFnT)(I O:List (List U64)):Prop where
 li:I.length=c.u.length
 lo:O.length=c.u.length
 wi: ∀b,b<c.u.length->(I.getD b v_).length=wds c
 wo: ∀b,b<c.u.length->(O.getD b v_).length=wds c
 si: ∀b r,bI I b r->LIn c b r
 so: ∀b r,bI O b r->mW c b r
def Cl1(c:VFnT)(I O:List (List U64))(b:Nat):Prop:=(∀t∈br (bB c b),∀r,bI I t.toNat r->bI O b r)/\(∀r,inS (bB c b) (bI O b) r->bI I b r)
structure AnF(c:VFnT)(I O:List (List U64)):Prop where
 li:I.length=c.u.length
 lo:O.length=c.u.length
 wi: ∀b,b<c.u.length->(I.getD b v_).length=wds c
 wo: ∀b,b<c.u.length->(O.getD b v_).length=wds c
 hi: ∀b r,bI I b r↔LIn c b r
 ho: ∀b,b<c.u.length->∀r,bI O b r↔mW c b r
theorem anF_of{c:VFnT}{I O:List (List U64)}(h:Snd c I O)(hc: ∀b,b<c.u.length->Cl1 c I O b):AnF c I O:=by
 have T:Clo c (bI I):=fun b U r hr=>(hc b U).2 r (fG (fun q ⟨t,E,N⟩=>(hc b U).1 t E q N) r hr)
 refine⟨h.li,h.lo,h.wi,h.wo,fun b r=>⟨h.si b r,fun Z=>Z _ T⟩,fun b U r=>⟨h.so b r,fun⟨t,E,N⟩=>(hc b U).1 t E r (N _ T)⟩⟩
def nN(I:List (List U64)):Nat:=(I.map fun s=>(jU s).length).sum
theorem cnt_le{c:VFnT}{I:List (List U64)}(Z:I.length=c.u.length)(hw: ∀b,b<c.u.length->(I.getD b v_).length=wds c):nN I<=c.u.length *(64 *wds c):=by
 have T: ∀(l:List (List U64)) (B:Nat),(∀s∈l,(jU s).length<=B)->(l.map fun s=>(jU s).length).sum<=l.length *B:=by
  intro l B;induction l with
  |nil=>intro _;simp
  |cons s l ih=>
   intro h
   have N:=ih fun x hx=>h x (a0f _ hx)
   have E:=h s (a0n ..)
   rw[a1K,a29,a05,a1t];omega
 rw[←Z];refine T I _ fun s hs=>?_
 obtain⟨b,U,rfl⟩:=a0t.1 hs;have:=hw b M;rw[a02,a06 U]at this;have E:(jU I[b]).length<=64 *I[b].length:=lstK_len;simp only[a0I]at this;rw[this]at E;exact E
theorem lst_more{s Z:List U64}(hl:Z.length=s.length)(h: ∀i,aH s i=true->aH Z i=true){i:Nat}(E:aH Z i=true)(T:aH s i=false):(jU s).length<(jU Z).length:=by
 have hi:i<64 *s.length:=by
  rcases a0g i (64 *s.length) with N|N
  ·exact N
  rw[nS (by rw[hl];exact N)]at E;cases E
 unfold jU ms;rw[a1u,a1u,hl];have ai: ∀l:List Nat,(l.filter (aH s)).length<=(l.filter (aH Z)).length/\(i∈l->(l.filter (aH s)).length<(l.filter (aH Z)).length):=by
  intro l;induction l with
  |nil=>exact⟨a0d _,fun h=>by cases h⟩
  |cons x l ih=>
   rw[a1C,a1C]
   by_cases hx:aH s x=true
   ·rw[if_pos hx,if_pos (h x hx)];refine⟨by simpa using ih.1,fun U=>?_⟩;rcases a0v.1 U with rfl|U
    ·rw[T]at hx;cases hx
    simpa using ih.2 U
   rw[if_neg hx]
   by_cases ad:aH Z x=true
   ·rw[if_pos ad];exact⟨by simp;omega,fun _=>by simp;omega⟩
   rw[if_neg ad]
   refine⟨ih.1,fun U=>?_⟩
   rcases a0v.1 U with rfl|U
   ·exact absurd E ad
   exact ih.2 U
 exact(ai _).2 (a2d.2 hi)
theorem sum_set: ∀(l:List Nat) (i x:Nat),i<l.length->(l.set i x).sum+l.getD i 0=l.sum+x
 | [],i,x,h=>by simp at h
 |y::l,0,x,_=>by simp;omega
 |y::l,i+1,x,h=>by have:=sum_set l i x (by simpa using h);simp only[a26,a29,a2t];omega
theorem cnt_set{I:List (List U64)}{b:Nat}(E:b<I.length)(s:List U64):nN (I.set b s)+(jU (I.getD b v_)).length=nN I+(jU s).length:=by unfold nN;rw[List.map_set];have:=sum_set (I.map fun s=>(jU s).length) b (jU s).length (by rw[a1u];exact E);rw[a02,a14,a06 E]at this;rw[a02,a06 E];exact this
def mea(E:Bool)(B n:Nat):Nat:=bif E then 2 *(B-n)+1 else 0
theorem mea_lt{m2:Bool}{B n E:Nat}(h:m2=true->n<E)(N:E<=B):mea m2 B E<mea true B n:=by
 unfold mea;cases m2 with
 |false=>simp
 |true=>have:=h V;simp;omega
theorem cz{α:Type}{d:α}{l:List α}{i j:Nat}{x:α}:(l.set i x).getD j d=if i=j/\j<l.length then x else l.getD j d:=by
 simp only[a02,a1T];by_cases h:i=j
 ·subst h;by_cases E:i<l.length
  ·rw[if_pos V,if_pos E,if_pos ⟨V,E⟩];rfl
  rw[if_pos V,if_neg E,if_neg (fun e=>E e.2),a0J M]
 rw[if_neg h,if_neg (fun e=>h e.1)]
theorem snd_start{c:VFnT}{I O:List (List U64)}(E:I.length=c.u.length)(N:O.length=c.u.length)(T: ∀j,j<c.u.length->I.getD j v_=List.replicate (wds c) ⟨0⟩)(U: ∀j,j<c.u.length->O.getD j v_=List.replicate (wds c) ⟨0⟩):Snd c I O:=by
 have hz: ∀(c_:List (List U64)),c_.length=c.u.length->(∀j,j<c.u.length->c_.getD j v_=List.replicate (wds c) ⟨0⟩)->∀b r,¬bI c_ b r:=by
  intro c_ hX hx b r Z;unfold bI at Z;rcases a0g b c.u.length with h|h
  ·rw[hx b h,bit_rep]at Z;cases Z
  rw[cb M]at Z;rw[nS (a0D _)]at Z;cases Z
 exact⟨E,N,fun b Z=>by rw[T b Z,a0O],fun b Z=>by rw[U b Z,a0O],fun b r h=>absurd h (hz I E T b r),fun b r h=>absurd h (hz O N U b r)⟩
theorem snd_out{c:VFnT}{I O:List (List U64)}{k:Nat}{t:Int}{s:List U64}(h:Snd c I O)(U:k<c.u.length)(Z:t∈br (bB c k))(hs:s.length=(O.getD k v_).length)(T: ∀i,aH s i=(aH (O.getD k v_) i||aH (I.getD t.toNat v_) i)):Snd c I (O.set k s):=by
 refine⟨h.li,by rw[a0h];exact h.lo,h.wi,fun b N=>?_,h.si,fun b r E=>?_⟩
 ·rw[cz];split
  ·rename_i e;rw[hs];exact h.wo k U
  exact h.wo b N
 unfold bI at E;rw[cz]at E;split at E
 ·rename_i e;obtain⟨rfl,_⟩:=e;rw[T,a0A]at E;rcases E with E|E
  ·exact h.so _ r E
  exact⟨t,Z,h.si _ r E⟩
 exact h.so b r E
theorem snd_in{c:VFnT}{I O:List (List U64)}{k:Nat}{s N:List U64}(h:Snd c I O)(U:k<c.u.length)(hs:N.length=(I.getD k v_).length)(Z: ∀i,aH N i=(aH (I.getD k v_) i||aH s i))(ht: ∀r,aH s r=true↔inS (bB c k) (bI O k) r):Snd c (I.set k N) O:=by
 refine⟨by rw[a0h];exact h.li,h.lo,fun b T=>?_,h.wo,fun b r E=>?_,h.so⟩
 ·rw[cz];split
  ·rw[hs];exact h.wi k U
  exact h.wi b T
 unfold bI at E;rw[cz]at E;split at E
 ·rename_i e;obtain⟨rfl,_⟩:=e;rw[Z,a0A]at E;rcases E with E|E
  ·exact h.si _ r E
  exact oq c _ U r (fG (h.so _) r ((ht r).1 E))
 exact h.si b r E
theorem cnt_more{I:List (List U64)}{k:Nat}{s Z:List U64}(hk:k<I.length)(hs:Z.length=(I.getD k v_).length)(hb: ∀i,aH Z i=(aH (I.getD k v_) i||aH s i))(hx: ∃i,aH s i=true/\aH (I.getD k v_) i=false):nN I<nN (I.set k Z):=by obtain⟨i,E,N⟩:=hx;have T:=cnt_set hk Z;have U:=lst_more hs (fun i hi=>by rw[hb,hi];rfl) (i:=i) (by rw[hb,E,Bool.or_true]) N;omega
theorem tr_drop{l:List VInT}{i:Nat}(h:i<l.length)(S:Nat->Prop)(r:Nat):tr (l.drop i) S r↔(r:Int)∈aF (l.getD i v_)\/(tr (l.drop (i+1)) S r/\(r:Int)∉ae (l.getD i v_)):=by rw[a1f h,a02,a06 h];exact Iff.rfl
theorem tr_next{l:List VInT}{i:Nat}{S:Nat->Prop}{s N:List U64}(h:i<l.length)(hs: ∀r,aH s r=true↔tr (l.drop (i+1)) S r)(T: ∀r,aH N r=((aH s r&& !decide ((r:Int)∈ae (l.getD i v_)))||decide ((r:Int)∈aF (l.getD i v_))))(r:Nat):aH N r=true↔tr (l.drop i) S r:=by
 rw[tr_drop h,T,←hs r];simp only[a0A,a09,a0G,decide_eq_true_eq,decide_eq_false_iff_not];constructor
 ·rintro(E|E)
  ·exact .inr E
  exact .inl E
 rintro(E|E)
 ·exact .inr E
 exact .inl E
theorem bF{params regs:Int}{v:VInT}(h:eP params regs v=true):(∀x∈aF v,0<=x/\x<regs)/\(∀x∈ae v,0<=x/\x<regs)/\v.args.length<=6:=by
 unfold eP at h;simp only[a09,decide_eq_true_eq]at h;obtain⟨⟨⟨⟨⟨⟨⟨aa,T⟩,hl⟩,ag⟩,ha⟩,hb⟩,hc⟩,_⟩:=h;have N:v.i.op=38\/(1<=v.i.op/\v.i.op<=37/\v.i.op≠38):=by unfold alV at aa;have:=of_decide_eq_true aa;omega
 have hT: ∀{p:Bool} {n:Int},fE p n regs=true->p=true->0<=n/\n<regs:=by intro p n hp Z;subst Z;unfold fE at hp;exact aZ.1 (by simpa using hp)
 have ad: ∀k:Fin 37,((aE ((k.val:Int)+1)).ra=true\/(aE ((k.val:Int)+1)).wa=true\/((k.val:Int)+1)=6->aK ((k.val:Int)+1)≠1)/\((aE ((k.val:Int)+1)).rb=true->aK ((k.val:Int)+1)=3\/aK ((k.val:Int)+1)=4\/aK ((k.val:Int)+1)=7)/\((((k.val:Int)+1)=11\/((k.val:Int)+1)=12)->aK ((k.val:Int)+1)=4):=by decide+kernel
 have hA:(aE v.i.op).ra=true\/(aE v.i.op).wa=true\/v.i.op=6\/v.i.op=38->0<=v.i.a/\v.i.a<regs:=by
  intro Z;refine hT ha (decide_eq_true ?_);rcases N with e|e
  ·rw[e];decide
  obtain⟨k,hk⟩:=ex37 (op:=v.i.op) ⟨e.1,e.2.1⟩;rw[hk]at Z⊢;refine(ad k).1 ?_;rcases Z with E|E|E|E
  ·exact .inl E
  ·exact .inr (.inl E)
  ·exact .inr (.inr E)
  omega
 have hB:(aE v.i.op).rb=true->0<=v.i.b/\v.i.b<regs:=by
  intro Z;refine hT hb (decide_eq_true ?_);rcases N with e|e
  ·rw[e]at Z;exact absurd Z e_
  obtain⟨k,hk⟩:=ex37 (op:=v.i.op) ⟨e.1,e.2.1⟩;rw[hk]at Z⊢;exact(ad k).2.1 Z
 have hC:v.i.op=11\/v.i.op=12->0<=v.i.c/\v.i.c<regs:=by intro Z;refine hT hc (decide_eq_true ?_);rcases Z with e|e<;>rw[e]<;>decide
 refine⟨fun x U=>?_,fun x U=>?_,hl⟩
 ·unfold aF at U;rw[if_pos aa,nh]at U;rcases U with U|U
  ·cases U
  unfold eG at U;simp only[a07]at U;rcases U with U|U|U|U
  ·split at U
   ·rename_i Z;rw[a08]at U;rw[U];exact hA (.inl Z)
   cases U
  ·split at U
   ·rename_i Z;rw[a08]at U;rw[U];exact hB Z
   cases U
  ·split at U
   ·rename_i Z;rw[a08]at U;rw[U];exact hC Z
   cases U
  split at U
  ·exact aZ.1 (a0m.1 ag x U)
  cases U
 unfold ae at U;split at U
 ·rename_i Z;rw[a08]at U;rw[U];refine hA ?_;rcases Z.2 with E|E|E
  ·exact .inr (.inl E)
  ·exact .inr (.inr (.inl E))
  exact .inr (.inr (.inr E))
 cases U
structure VF(c:VFnT):Prop where
 r:0<=c.r/\c.r<=3000
 m:0<=c.m/\c.m<=6
 nb:1<=c.u.length/\c.u.length<=1000
 succ: ∀b,b<c.u.length->∀t∈br (bB c b),0<=t/\t<(c.u.length:Int)
 f: ∀b,b<c.u.length->((bB c b).f=2\/(bB c b).f=3)->0<=(bB c b).r/\(bB c b).r<c.r
 v: ∀b,b<c.u.length->∀i,i<(bB c b).v.length->eP c.m c.r ((bB c b).v.getD i v_)=true
theorem e7{c:VFnT}(h:ca c=true):VF c:=by
 unfold ca at h;rw[a09]at h;obtain⟨E,N⟩:=h;have E:=of_decide_eq_true E;have Z: ∀b,b<c.u.length->jM c.m c.r (c.u.length:Int) (bB c b)=true:=fun b U=>lH N U
 refine⟨by omega,by omega,by omega,fun b U t T=>?_,fun b U hf=>?_,fun b U i hi=>?_⟩
 ·have:=Z b U;unfold jM at this;rw[a09]at this;have hv:=bM.1 this.2;unfold br at T;split at T
  ·rw[a08]at T;subst T;omega
  split at T
  ·rw[im,a08]at T;rcases T with rfl|rfl<;>omega
  cases T
 ·have:=Z b U;unfold jM at this;rw[a09]at this;have hv:=bM.1 this.2;omega
 have:=Z b U;unfold jM at this;rw[a09]at this;exact lH this.1 hi
end ml
open ml
namespace mb
variable (ex:FuncId) {F:Fz} {H:Heap} {R:List Fp}
theorem lst_step1{s:List U64}{o:List Int}{k b:Nat}(E:o=ms s (64 *k+b))(h:aH s (64 *k+b)=true):o++([64 *(k:Int)+(b:Int)]:List Int)=ms s (64 *k+(b+1)):=by rw[show 64 *k+(b+1)=(64 *k+b)+1 by omega,lb,if_pos h,←E];simp
theorem lst_step0{s:List U64}{o:List Int}{k b:Nat}(E:o=ms s (64 *k+b))(h: ¬aH s (64 *k+b)=true):o=ms s (64 *k+(b+1)):=by rw[show 64 *k+(b+1)=(64 *k+b)+1 by omega,lb,if_neg h,←E];simp
theorem end_ok{s U:List U64}{b:BlkT}(h:((b.f=2\/b.f=3)/\0<=b.r/\∀i,aH U i=(aH s i||decide (i=b.r.toNat)))\/(¬(b.f=2\/b.f=3)/\U=s))(i:Nat):aH U i=(aH s i||decide ((i:Int)∈d6 b)):=by
 unfold d6;rcases h with⟨E,T,N⟩|⟨E,rfl⟩
 ·rw[if_pos E,N];congr 1;rw[decide_eq_decide,a08];omega
 rw[if_neg E];simp
theorem rem_step{s w w':List U64}{l:List Int}{k:Nat}(Z:k<l.length)(h: ∀i,aH w i=(aH s i&& !decide ((i:Int)∈l.take k)))(U:0<=l.getD k 0)(T: ∀i,aH w' i=(aH w i&& !decide (i=(l.getD k 0).toNat)))(i:Nat):aH w' i=(aH s i&& !decide ((i:Int)∈l.take (k+1))):=by
 rw[T,h,aX Z (d:=0),Bool.and_assoc];congr 1;rw[a0s];simp only[a09,a0G,decide_eq_false_iff_not,a07,a08];constructor
 ·rintro⟨N,a_⟩ (E|E)
  ·exact N E
  omega
 intro N;exact⟨fun E=>N (.inl E),fun E=>N (.inr M)⟩
theorem add_step{s w w':List U64}{l:List Int}{k:Nat}(U:k<l.length)(h: ∀i,aH w i=(aH s i||decide ((i:Int)∈l.take k)))(T:0<=l.getD k 0)(N: ∀i,aH w' i=(aH w i||decide (i=(l.getD k 0).toNat)))(i:Nat):aH w' i=(aH s i||decide ((i:Int)∈l.take (k+1))):=by
 rw[N,h,aX U (d:=0),Bool.or_assoc];congr 1;rw[a0s];simp only[a0A,decide_eq_true_eq,a07,a08];constructor
 ·rintro(E|E)
  ·exact .inl E
  exact .inr M
 rintro(E|E)
 ·exact .inl E
 exact .inr M
theorem dG{l:List Int}{m:Int}(h: ∀x∈l,0<=x/\x<m){k:Nat}(E:k<l.length):0<=l.getD k 0/\l.getD k 0<m:=by rw[a02,a06 E];exact h _ (a10 E)
theorem dI{v:VInT}:(ae v).length<=1:=by unfold ae;split<;>simp
theorem eF{v:VInT}:(aF v).length<=3+v.args.length:=by
 unfold aF;split
 ·refine a0e eE ?_;unfold eG;simp only[a01,a0b];have E:=da (a:=v.i.a) (p:=(aE v.i.op).ra=true);have N:=da (a:=v.i.b) (p:=(aE v.i.op).rb=true);have T:=da (a:=v.i.c) (p:=v.i.op=11\/v.i.op=12);have U:(if v.i.op=6 then v.args else []).length<=v.args.length:=by split<;>first|exact a0d _|exact a0D _
  omega
 exact a0D _
theorem tr_done{s w v':List U64}{iv:VInT}(E: ∀i,aH w i=(aH s i&& !decide ((i:Int)∈ae iv)))(N: ∀i,aH v' i=(aH w i||decide ((i:Int)∈aF iv)))(i:Nat):aH v' i=((aH s i&& !decide ((i:Int)∈ae iv))||decide ((i:Int)∈aF iv)):=by rw[N,E]
theorem empty_c(n:Int)(hs:HS (.of H []) F H [] R)(hn:in64 n)(hT:TB 37 tabC F)(hn:0<=n/\n<=1000000):kKt ex 116 [(iI n)] H fun v H'=> ∃(ar:Option Addr) (kr:Nat) (r:List U64) (p:Fp) (F':Fz),Fz.le F F'/\HS (.of H []) F' H' [p] R/\v=sL ar r.length kr/\OS F' (sL ar r.length kr) r p/\r=List.replicate (Int.tdiv (n+63) 64).toNat (⟨0⟩:U64):=by
 have hq:Int.tdiv (n+63) 64=(n+63)/64:=a1e M;refine aC Tryz.func116 V V (am 1 V (wT 2 [] 2 2 [] [(2,(sL none 0 0))] V fun _=>ab ?_));have Z:in64 (n+63)->in64 (Int.tdiv (n+63) 64):=fun h=>vq h e_
 refine wRo 3 0 [] 3 5 [] [(5,(iI (Int.tdiv (n+63) 64)))] (vA (vi (n:=n+63)) (vA (vA (show(64:Int)≠0 from by decide) (vq (a:=n+63) (b:=64) M e_)) trivial)) V fun _=>bd (cQ (⟨0⟩:U64) hs V V V V V V V V V ⟨V,by decide⟩ M M) V V ?_
 rintro _ H5 a_ ⟨E,U,rfl,N,T,_⟩;refine za (sL E (List.replicate (Int.tdiv (n+63) 64).toNat (⟨0⟩:U64)).length U) (ah 1 V (aj ⟨.inr V,_,V,E,U,List.replicate (Int.tdiv (n+63) 64).toNat (⟨0⟩:U64),a_,_,fR,(HS.only T (i:=0) V),V,N,m_⟩))
theorem add_c{ad:Option Addr}{ai ag:Nat}{al:Fp}(z:List U64)(n:Int)(hs:HS (.of H (al.map Prod.fst)) F H [al] R)(hz:OS F (sL ad ai ag) z al)(hn:in64 n)(hT:TB 37 tabC F)(hn:0<=n/\n<64 *(z.length:Int))(av:z.length<=100000):kKt ex 119 [(sL ad ai ag),(iI n)] H fun v H'=> ∃(z':List U64) (pm:Fp) (F':Fz),Fz.le F F'/\HS (.of H (al.map Prod.fst)) F' H' [pm] R/\v= .tuple #[]/\OS F' (sL ad ai ag) z' pm/\(z'.length=z.length)/\(∀i,aH z' i=(aH z i||decide (i=n.toNat))):=by
 have ar:=OS.len' hz;have hq:=n64 hn;refine aC Tryz.func119 V V (ab ?_);have aa:in64 n->in64 (Int.tdiv n 64):=fun h=>vq h e_
 obtain⟨Z,N⟩:=Sv.view (OS.sv hz hs (i:=0) V);have g3:=fU (N (Int.tdiv n 64).toNat);refine bL 11 0 4 14 [] [(13,(.int .u64 (aD .or .u64 (z.getD (Int.tdiv n 64).toNat v_).n (IntKind.u64.wrap (1 *2^(Nat.min (Int.tmod n 64).toNat 64)))))),(14,(.pointer (some ⟨sB (sL ad ai ag),sO (sL ad ai ag)+(Int.tdiv n 64).toNat *Rp.sz U64,none⟩)))] (Ha_ (vA (show(64:Int)≠0 from by decide) (vq (a:=n) (b:=64) M e_)) (Ha_ (Sv.ix (j:=Int.tdiv n 64) (OS.sv hz hs (i:=0) V)) (Hl_ 4 (ql 161 0 (vU (N (Int.tdiv n 64).toNat)) V V) (Ha_ (show(64:Int)≠0 from by decide) (Ha_ (vu (n:=Int.tmod n 64) M) (Ha_ (show(0:Int)<=Int.tmod n 64 from by omega) (Ha_ (Sv.ix (j:=Int.tdiv n 64) (OS.sv hz hs (i:=0) V)) Hn_))))))) (by kernel_rfl) V fun _=>gf (dm (α:=U64) (j:=(Int.tdiv n 64).toNat) (off:=0) (q:=0) ⟨aD .or .u64 (z.getD (Int.tdiv n 64).toNat v_).n (IntKind.u64.wrap (1 *2^(Nat.min (Int.tmod n 64).toNat 64)))⟩ hz hs V V V V V V V V (bg (x:=v_) M) V (by rintro cs ⟨rfl,_⟩;exact⟨a0a V,V,by(dsimp only;exact fM _ _ _)⟩)) V ?_
 rintro _ H7 a_ ⟨E,T,_⟩;have U:=OS.len' E;refine ah 0 V (aP ⟨.inl V,_,V,z.set (Int.tdiv n 64).toNat ⟨aD .or .u64 (z.getD (Int.tdiv n 64).toNat v_).n (IntKind.u64.wrap (1 *2^(Nat.min (Int.tmod n 64).toNat 64)))⟩,a_,_,fR,(HS.first T),V,E,(a0h),(fun i=>add_ok hn X i)⟩)
theorem rem_c{ad:Option Addr}{ai ag:Nat}{al:Fp}(z:List U64)(n:Int)(hs:HS (.of H (al.map Prod.fst)) F H [al] R)(hz:OS F (sL ad ai ag) z al)(hn:in64 n)(hT:TB 37 tabC F)(hn:0<=n/\n<64 *(z.length:Int))(av:z.length<=100000):kKt ex 118 [(sL ad ai ag),(iI n)] H fun v H'=> ∃(z':List U64) (pm:Fp) (F':Fz),Fz.le F F'/\HS (.of H (al.map Prod.fst)) F' H' [pm] R/\v= .tuple #[]/\OS F' (sL ad ai ag) z' pm/\(z'.length=z.length)/\(∀i,aH z' i=(aH z i&& !decide (i=n.toNat))):=by
 have ar:=OS.len' hz;have hq:=n64 hn;refine aC Tryz.func118 V V (ab ?_);have aa:in64 n->in64 (Int.tdiv n 64):=fun h=>vq h e_
 obtain⟨Z,N⟩:=Sv.view (OS.sv hz hs (i:=0) V);have g3:=fU (N (Int.tdiv n 64).toNat);refine bL 11 0 4 14 [] [(13,(.int .u64 (aD .andNot .u64 (z.getD (Int.tdiv n 64).toNat v_).n (IntKind.u64.wrap (1 *2^(Nat.min (Int.tmod n 64).toNat 64)))))),(14,(.pointer (some ⟨sB (sL ad ai ag),sO (sL ad ai ag)+(Int.tdiv n 64).toNat *Rp.sz U64,none⟩)))] (Ha_ (vA (show(64:Int)≠0 from by decide) (vq (a:=n) (b:=64) M e_)) (Ha_ (Sv.ix (j:=Int.tdiv n 64) (OS.sv hz hs (i:=0) V)) (Hl_ 4 (ql 161 0 (vU (N (Int.tdiv n 64).toNat)) V V) (Ha_ (show(64:Int)≠0 from by decide) (Ha_ (vu (n:=Int.tmod n 64) M) (Ha_ (show(0:Int)<=Int.tmod n 64 from by omega) (Ha_ (Sv.ix (j:=Int.tdiv n 64) (OS.sv hz hs (i:=0) V)) Hn_))))))) (by kernel_rfl) V fun _=>gf (dm (α:=U64) (j:=(Int.tdiv n 64).toNat) (off:=0) (q:=0) ⟨aD .andNot .u64 (z.getD (Int.tdiv n 64).toNat v_).n (IntKind.u64.wrap (1 *2^(Nat.min (Int.tmod n 64).toNat 64)))⟩ hz hs V V V V V V V V (bg (x:=v_) M) V (by rintro cs ⟨rfl,_⟩;exact⟨a0a V,V,by(dsimp only;exact fM _ _ _)⟩)) V ?_
 rintro _ H7 a_ ⟨E,T,_⟩;have U:=OS.len' E;refine ah 0 V (aP ⟨.inl V,_,V,z.set (Int.tdiv n 64).toNat ⟨aD .andNot .u64 (z.getD (Int.tdiv n 64).toNat v_).n (IntKind.u64.wrap (1 *2^(Nat.min (Int.tmod n 64).toNat 64)))⟩,a_,_,fR,(HS.first T),V,E,(a0h),(fun i=>rem_ok hn X i)⟩)
theorem fv{ai:Option Addr}{ad al:Nat}{ao:Fp}(z:List U64){a6:Option Addr}{b0 a7:Nat}(t:List U64)(hs:HS (.of H (ao.map Prod.fst)) F H [ao] R)(hz:OS F (sL ai ad al) z ao)(ht:SR F (sL a6 b0 a7) t)(hT:TB 37 tabC F)(hl:t.length=z.length)(cv:z.length<=100000):kKt ex 120 [(sL ai ad al),(sL a6 b0 a7)] H fun v H'=> ∃(r:Bool) (z':List U64) (pm:Fp) (F':Fz),Fz.le F F'/\HS (.of H (ao.map Prod.fst)) F' H' [pm] R/\v= .bool r/\OS F' (sL ai ad al) z' pm/\(z'.length=z.length)/\(∀i,aH z' i=(aH z i||aH t i))/\(r=false->z'=z)/\(r=true->∃i,aH t i=true/\aH z i=false):=by
 have ck:=SR.len' ht;have cc:=OS.len' hz;refine aC Tryz.func120 V V (am 1 V (wT 2 [] 4 4 [] [(4,(.bool false))] V fun _=>wT 3 [] 1 0 [5] [(5,(.bool false))] V fun _=>wT 2 [] 7 9 [] [(8,(iI (ad:Int))),(9,(iI 0))] V fun _=>ak (fun(mm:Nat) f H'=> ∃(w:List U64) (k:Nat) (m:Bool) (T:Fp) (F':Fz),Fz.le F F'/\HS (Base.of H (ao.map Prod.fst)) F' H' [T] R/\OS F' (sL ai ad al) w T/\aB f [(0,(sL ai ad al)),(1,(sL a6 b0 a7)),(5,(.bool m)),(8,(iI (ad:Int))),(9,(iI (k:Int)))]/\mm=z.length-k/\(uniB z t k w)/\(k<=z.length)/\(m=false->w=z)/\(m=true->∃i,aH t i=true/\aH z i=false)) _ ⟨z,0,false,ao,_,fR,hs,hz,⟨V,V,V,V,V,trivial⟩,V,(uniB_zero),M,(fun _=>rfl),(by intro h;cases h)⟩ ?_));rintro b2 f4 H4 ⟨w,k,m,T,F4,Z,N,E,aq,rfl,hu,hk,a2,a3⟩ av;refine au _ aq (fun _=>?_);clear aq;replace ht:=ht.mono Z;have ay:=OS.len' E;have c0:=hu.1;refine am 1 V (wT 2 [] 10 10 [] [(10,(.bool (decide ((k:Int)<(ad:Int)))))] V fun _=>zd 4 5 (fun c6=>?_) fun c6=>?_)
 ·refine wT 2 [] 11 11 [6] [(6,(iI (k:Int)))] V fun _=>?_
  obtain⟨bk,ar⟩:=Sv.view (SR.sv ht N);have g9:=fU (ar k);obtain⟨a8,aa⟩:=Sv.view (OS.sv E N (i:=0) V);have bl:=fU (aa k);refine wrDp 1 12 21 [] [(21,(.bool (aD .andNot .u64 (t.getD k v_).n (w.getD k v_).n !=0)))] (Ha_ (Sv.ix (j:=(k:Int)) (SR.sv ht N)) (Hl_ 3 (ql 161 0 (hc0 (vU (ar k))) V V) (Ha_ (Sv.ix (j:=(k:Int)) (OS.sv E N (i:=0) V)) (Hl_ 7 (ql 161 0 (hc0 (vU (aa k))) V V) Hn_)))) V (by kernel_rfl) V fun _=>zI 1 2 (fun a1=>?_) fun a1=>?_
  ·refine wT 1 [] 1 0 [5] [(5,(.bool true))] V fun _=>aL V ?_
   obtain⟨a9,ag⟩:=Sv.view (OS.sv E N (i:=0) V);have bz:=fU (ag k);obtain⟨bb,an⟩:=Sv.view (SR.sv ht N);have b1:=fU (an k);refine eO 10 22 31 [] [(30,(.int .u64 (aD .or .u64 (w.getD k v_).n (t.getD k v_).n))),(31,(.pointer (some ⟨sB (sL ai ad al),sO (sL ai ad al)+k *Rp.sz U64,none⟩)))] (Ha_ (Sv.ix (j:=(k:Int)) (OS.sv E N (i:=0) V)) (Hl_ 3 (ql 161 0 (hc0 (vU (ag k))) V V) (Ha_ (Sv.ix (j:=(k:Int)) (SR.sv ht N)) (Hl_ 7 (ql 161 0 (hc0 (vU (an k))) V V) (Ha_ (Sv.ix (j:=(k:Int)) (OS.sv E N (i:=0) V)) Hn_))))) N V V fun _=>gP (id:= .x (T.map Prod.fst)) (dm (α:=U64) (j:=k) (off:=0) (q:=0) ⟨aD .or .u64 (w.getD k v_).n (t.getD k v_).n⟩ E N.log0 V V V V V V V V (bg (x:=v_) M) V (by rintro cs ⟨rfl,_⟩;exact⟨a0a V,V,by(dsimp only;exact fM _ _ _)⟩)) V (by rintro _ _ aw ⟨a_,_,hwr⟩;exact dC V V (Wr.did hwr)) (kb V) ?_
   rintro _ aA aw ⟨a_,U,_⟩ ax ap;replace U:=HS.lg U N ap;generalize ({aA with log:=ax}:Heap)=a5 at U⊢;have a4:=OS.len' a_;refine bC 2 V (wU 1 [] 9 9 [32] [(9,(iI ((k:Int)+1)))] (vi (n:=(k:Int)+1)) V fun _=>?_);refine av _ _ _ ?_ ⟨w.set k ⟨aD .or .u64 (w.getD k v_).n (t.getD k v_).n⟩,k+1,true,aw,_,(Z),U,a_,⟨V,V,V,V,V,trivial⟩,V,(uniB_or hu M X X),M,(by(intro h;cases h;done)),(by(intro _;exact uniB_new hu X X X))⟩;omega
  refine wU 1 [] 9 9 [32] [(9,(iI ((k:Int)+1)))] (vi (n:=(k:Int)+1)) V fun _=>?_
  refine av _ _ _ ?_ ⟨w,k+1,m,T,_,(Z),N,E,⟨V,V,V,V,V,trivial⟩,V,(uniB_same hu X X X),M,X,X⟩;omega
 refine wT 1 [] 4 4 [33] [(4,(.bool m))] V fun _=>aj ⟨.inr V,_,V,m,w,T,_,(Z),(HS.first N),V,E,(hu.1),(uniB_all hu M hl),(a2),(a3)⟩
theorem list_c{an:Option Addr}{ad ao:Nat}(z:List U64)(hs:HS (.of H []) F H [] R)(hz:SR F (sL an ad ao) z)(hT:TB 37 tabC F)(en:z.length<=100000):kKt ex 113 [(sL an ad ao)] H fun v H'=> ∃(ar:Option Addr) (kr:Nat) (r:List Int) (p:Fp) (F':Fz),Fz.le F F'/\HS (.of H []) F' H' [p] R/\v=sL ar r.length kr/\OS F' (sL ar r.length kr) r p/\r=jU z:=by
 have el:=SR.len' hz;refine aC Tryz.func113 V V (am 1 V (wT 2 [] 2 2 [] [(2,(sL none 0 0))] V fun _=>wT 3 [] 1 0 [3] [(3,(sL none 0 0))] V fun _=>wT 2 [] 6 8 [] [(7,(iI (ad:Int))),(8,(iI 0))] V fun _=>?_));have bz:=HS.snoc hs;refine ak (fun(mm:Nat) f H'=> ∃(o:List Int) (k:Nat) (U:Option Addr) (a_:Nat) (aa:Fp) (F':Fz),Fz.le F F'/\HS (Base.of H []) F' H' [aa] R/\OS F' (sL U o.length a_) o aa/\aB f [(0,(sL an ad ao)),(3,(sL U o.length a_)),(7,(iI (ad:Int))),(8,(iI (k:Int)))]/\mm=z.length-k/\(o=ms z (64 *k))/\(k<=z.length)) _ ⟨([]:List Int),0,none,0,[],_,fR,bz,(OS.nil:OS _ (sL none 0 0) ([]:List Int) []),⟨V,V,V,V,trivial⟩,V,m_,M⟩ ?_;rintro c9 f4 H4 ⟨o,k,U,a_,aa,F4,aw,a7,av,a5,rfl,ho,hk⟩ b1;refine au _ a5 (fun _=>?_);clear a5;replace hz:=hz.mono aw;refine am 1 V (wT 2 [] 9 9 [] [(9,(.bool (decide ((k:Int)<(ad:Int)))))] V fun _=>zd 4 5 (fun c7=>?_) fun c7=>?_)
 ·refine wT 2 [] 10 10 [4] [(4,(iI (k:Int)))] V fun _=>wT 2 [] 1 0 [5] [(5,(iI 0))] V fun _=>ak (fun(mm:Nat) f H'=> ∃(o2:List Int) (b:Nat) (E:Option Addr) (N:Nat) (T:Fp) (F':Fz),Fz.le F4 F'/\HS (Base.of H []) F' H' [T] R/\OS F' (sL E o2.length N) o2 T/\aB f [(0,(sL an ad ao)),(3,(sL E o2.length N)),(4,(iI (k:Int))),(5,(iI (b:Int))),(7,(iI (ad:Int))),(8,(iI (k:Int)))]/\mm=64-b/\(o2=ms z (64 *k+b))/\(b<=64)) _ ⟨o,0,U,a_,aa,_,fR,a7,av,⟨V,V,V,V,V,V,trivial⟩,V,(ho),M⟩ ?_
  rintro b8 co cc ⟨o2,b,E,N,T,b9,ap,Z,ag,ax,rfl,aq,hb⟩ a2;refine au _ ax (fun _=>?_);clear ax;replace hz:=hz.mono ap;have em:o2.length<=64 *k+b:=by rw[aq];exact lstK_len
  refine am 2 V ?_;obtain⟨b5,aA⟩:=Sv.view (SR.sv hz Z);have c5:=fU (aA k);refine wrp 1 11 18 [] [(18,(.bool (Int.fdiv (z.getD k v_).n (2^(Nat.min b 64)) !=0)))] (Ha_ (Sv.ix (j:=(k:Int)) (SR.sv hz Z)) (Hl_ 3 (ql 161 0 (vU (aA k)) V V) (Ha_ (vu (n:=(b:Int)) M) (Ha_ (show(0:Int)<=(b:Int) from by omega) Hn_)))) (by kernel_rfl) V fun _=>zI 4 5 (fun a4=>?_) fun a4=>?_
  ·have b7:=list_lt X hb a4;obtain⟨b6,a1⟩:=Sv.view (SR.sv hz Z);have c6:=fU (a1 k);refine wrp 1 21 29 [] [(29,(.bool (aD .and .u64 (Int.fdiv (z.getD k v_).n (2^(Nat.min b 64))) 1==1)))] (Ha_ (Sv.ix (j:=(k:Int)) (SR.sv hz Z)) (Hl_ 3 (ql 161 0 (vU (a1 k)) V V) (Ha_ (vu (n:=(b:Int)) M) (Ha_ (show(0:Int)<=(b:Int) from by omega) Hn_)))) (by kernel_rfl) V fun _=>zI 0 2 (fun bl=>?_) fun bl=>?_
   ·refine ab (wRo 5 0 [] 30 34 [] [(30,(sL E o2.length N)),(34,(iI ((64 *(k:Int))+(b:Int))))] (vA (vi (n:=64 *(k:Int))) (vA (vi (n:=(64 *(k:Int))+(b:Int))) trivial)) V fun _=>zlo ([(64 *(k:Int))+(b:Int)]:List Int) Z V (RL.cs ⟨V,by omega⟩ RL.nl) V fun ci c8 dd cg a9 ay=>zao 0 ag ay (OS.sv a9 ay (i:=1) V) V V V M fun a3 a8 b2 ch bb bk=>za (sL a3 (o2++([(64 *(k:Int))+(b:Int)]:List Int)).length a8) (ah 2 V ?_));refine wU 1 [] 19 20 [5] [(5,(iI ((b:Int)+1)))] (vi (n:=(b:Int)+1)) V fun _=>?_
    refine a2 _ _ _ ?_ ⟨o2++([(64 *(k:Int))+(b:Int)]:List Int),b+1,a3,a8,b2,_,(ap),(HS.sub bk (a03 _ _)),bb,⟨V,V,V,V,V,V,trivial⟩,V,(lst_step1 aq ((j8 X M).1 X)),M⟩;omega
   refine wU 1 [] 19 20 [5] [(5,(iI ((b:Int)+1)))] (vi (n:=(b:Int)+1)) V fun _=>?_
   refine a2 _ _ _ ?_ ⟨o2,b+1,E,N,T,_,(ap),Z,ag,⟨V,V,V,V,V,V,trivial⟩,V,(lst_step0 aq (fun hh=>absurd ((j8 X M).2 hh) X)),M⟩;omega
  refine wU 1 [] 8 8 [37] [(8,(iI ((k:Int)+1)))] (vi (n:=(k:Int)+1)) V fun _=>?_
  refine b1 _ _ _ ?_ ⟨o2,k+1,E,N,T,_,(fT (aw) ap),Z,ag,⟨V,V,V,V,trivial⟩,V,(by rw[aq];exact list_stop X hb X),M⟩;omega
 refine wT 1 [] 2 2 [38] [(2,(sL U o.length a_))] V fun _=>aj ⟨.inr V,_,V,U,a_,o,aa,_,(aw),(HS.only a7 (i:=0) V),V,av,(by rw[ho];unfold jU;congr 1;omega)⟩
theorem addT_c{ai:Option Addr}{ao al:Nat}{ad:Fp}(z:List U64){N:Option Addr}{U:Nat}(b:BlkT)(hs:HS (.of H (ad.map Prod.fst)) F H [ad] R)(hz:OS F (sL ai ao al) z ad)(an:SR F (sL N b.v.length U) b.v)(ap:in64 b.f)(aq:in64 b.r)(ar:in64 b.t)(av:in64 b.e)(hT:TB 37 tabC F)(hb:(b.f=2\/b.f=3)->0<=b.r/\b.r<64 *(z.length:Int))(a6:z.length<=100000):kKt ex 117 [(sL ai ao al),(aG [(sL N b.v.length U),(iI b.f),(iI b.r),(iI b.t),(iI b.e)])] H fun v H'=> ∃(z':List U64) (pm:Fp) (F':Fz),Fz.le F F'/\HS (.of H (ad.map Prod.fst)) F' H' [pm] R/\v= .tuple #[]/\OS F' (sL ai ao al) z' pm/\(z'.length=z.length)/\(∀i,aH z' i=(aH z i||decide ((i:Int)∈d6 b))):=by
 have a3:=OS.len' hz;refine aC Tryz.func117 V V (am 1 V (ab (bd (aR hs V V) V V ?_)));rintro _ H2 _ ⟨b1,rfl,E,_⟩;refine ah 2 V (aU 1 4 11 [] [(11,(.bool ((b.f==2)||(b.f==3))))] (Hr_ 1 1 (be 5 (fun _=>(ql 3 1 (i_ E V) V V)) Hn_)) E V V fun _=>zI 0 0 (fun c4=>?_) fun c4=>?_)
 ·have ay:=hb M;refine ab (aY 3 0 12 14 [] [(12,(sL ai ao al)),(14,(iI b.r))] (Hr_ 2 1 Hn_) E V V fun _=>zc (add_c ex z b.r (g_ E V) hz M hT M M) ?_);rintro _ H6 ⟨ag,aa,F6,Z,T,rfl,a_,aw,ax⟩;replace T:=E.bO T;have aA:=OS.len' a_;refine ah 0 V (aP ⟨.inl V,_,V,ag,aa,_,(Z),(HS.first T),V,a_,X,(end_ok (.inl ⟨by omega,by omega,by assumption⟩))⟩)
 refine aP ⟨.inl V,_,V,z,ad,_,fR,(HS.first E),V,hz,m_,(end_ok (.inr ⟨by omega,V⟩))⟩
theorem lZ{ad:Option Addr}{al ai:Nat}{ao:Fp}(z:List U64){T:Option Addr}{Z:Nat}(iv:VInT)(hs:HS (.of H (ao.map Prod.fst)) F H [ao] R)(hz:OS F (sL ad al ai) z ao)(dn:in64 iv.i.op)(ds:in64 iv.i.a)(dt:in64 iv.i.b)(dv:in64 iv.i.c)(d1:in64 iv.i.n)(U:SR F (sL T iv.args.length Z) iv.args)(hT:TB 37 tabC F)(hr: ∀x∈aF iv,0<=x/\x<64 *(z.length:Int))(hw: ∀x∈ae iv,0<=x/\x<64 *(z.length:Int))(el:iv.args.length<=1048576)(f9:z.length<=100000):kKt ex 121 [(sL ad al ai),(aG [(iI iv.i.op),(iI iv.i.a),(iI iv.i.b),(iI iv.i.c),(iI iv.i.n),(sL T iv.args.length Z)])] H fun v H'=> ∃(z':List U64) (pm:Fp) (F':Fz),Fz.le F F'/\HS (.of H (ao.map Prod.fst)) F' H' [pm] R/\v= .tuple #[]/\OS F' (sL ad al ai) z' pm/\(z'.length=z.length)/\(∀i,aH z' i=((aH z i&& !decide ((i:Int)∈ae iv))||decide ((i:Int)∈aF iv))):=by
 have dl:=OS.len' hz;have gb:=dI (v:=iv);have fz:=eF (v:=iv);refine aC Tryz.func121 V V (am 1 V (ab (bd (aR hs V V) V V ?_)));rintro _ H2 _ ⟨b1,rfl,a5,_⟩;let bk:Value:=(aG [(iI iv.i.op),(iI iv.i.a),(iI iv.i.b),(iI iv.i.c),(iI iv.i.n),(sL T iv.args.length Z)])
 refine ah 3 V (ab (aY 1 0 8 8 [] [(8,bk)] (Hr_ 0 1 Hn_) a5 V V fun _=>zc (ma.iB ex iv (HS.call a5) M M M M M U hT) ?_));rintro _ H4 ⟨ci,dd,r4,p4,F4,a1,a7,rfl,ar,rfl⟩;replace a7:=HS.back a5 V a7;replace hz:=hz.mono a1;let bl:Fp:=(fP b1 [(iI iv.i.op),(iI iv.i.a),(iI iv.i.b),(iI iv.i.c),(iI iv.i.n),(sL T iv.args.length Z)])
 refine bL 2 2 10 11 [] [(10,(iI ((ae iv).length:Int))),(11,(iI 0))] Hn_ (by kernel_rfl) V fun _=>ah 2 V (ak (fun(mm:Nat) f H'=> ∃(w:List U64) (k:Nat) (aa:Fp) (F':Fz),Fz.le F4 F'/\HS (Base.of H (ao.map Prod.fst)) F' H' [aa,bl,p4] R/\OS F' (sL ad al ai) w aa/\aB f [(0,(sL ad al ai)),(3,(pT b1 0)),(9,(sL ci (ae iv).length dd)),(10,(iI ((ae iv).length:Int))),(11,(iI (k:Int)))]/\mm=(ae iv).length-k/\(w.length=z.length)/\(∀i,aH w i=(aH z i&& !decide ((i:Int)∈(ae iv).take k)))/\(k<=(ae iv).length)) _ ⟨z,0,ao,_,fR,a7,hz,⟨V,V,V,V,V,trivial⟩,V,m_,(by intro i;simp),M⟩ ?_)
 rintro f7 f6 H6 ⟨w,k,aa,F6,av,an,E,a9,rfl,g1,g2,g3⟩ c9;refine au _ a9 (fun _=>?_);clear a9;replace hT:=(hT.mono a1).mono av;replace U:=(U.mono a1).mono av;replace ar:=ar.mono av;have cg:=OS.len' E;refine am 1 V (wT 2 [] 12 12 [] [(12,(.bool (decide ((k:Int)<((ae iv).length:Int)))))] V fun _=>zd 4 5 (fun c8=>?_) fun c8=>?_)
 ·have en:=dG hw (by omega:k<(ae iv).length);obtain⟨f2,bb⟩:=Sv.view (OS.sv ar an (i:=2) V);have f4:=fI (bb k);refine wrp 1 13 14 [5] [(5,(iI ((ae iv).getD k 0)))] (Ha_ (Sv.ix (j:=(k:Int)) (OS.sv ar an (i:=2) V)) (Hl_ 1 (ql 3 0 (vI (bb k)) V V) Hn_)) (by kernel_rfl) V fun _=>ab (wTo 2 0 [] 15 16 [] [(15,(sL ad al ai)),(16,(iI ((ae iv).getD k 0)))] V fun _=>zc (rem_c ex w ((ae iv).getD k 0) (g_ an V) E M hT M M) ?_)
  rintro _ fi ⟨b9,b7,e6,b2,ax,rfl,a3,ez,e1⟩;replace ax:=an.bO ax;have e3:=OS.len' a3;refine ah 2 V (wU 1 [] 11 11 [18] [(11,(iI ((k:Int)+1)))] (vi (n:=(k:Int)+1)) V fun _=>?_);refine c9 _ _ _ ?_ ⟨b9,k+1,b7,_,(fT (av) b2),ax,a3,⟨V,V,V,V,V,trivial⟩,V,M,(rem_step M g2 (dG hw M).1 X),M⟩;omega
 refine ab (aY 1 0 19 19 [] [(19,bk)] (Hr_ 0 1 Hn_) an V V fun _=>zc (ma.mZ ex iv (HS.call an) M M M M M U hT M) ?_);rintro _ fj ⟨bz,b5,f8,dk,ch,aw,ay,rfl,a_,rfl⟩;replace ay:=HS.back an V ay;replace E:=E.mono aw;refine bL 2 2 21 22 [] [(21,(iI ((aF iv).length:Int))),(22,(iI 0))] Hn_ (by kernel_rfl) V fun _=>ah 2 V (ak (fun(mm:Nat) f H'=> ∃(u:List U64) (q:Nat) (N:Fp) (F':Fz),Fz.le ch F'/\HS (Base.of H (ao.map Prod.fst)) F' H' [N,bl,p4,dk] R/\OS F' (sL ad al ai) u N/\aB f [(0,(sL ad al ai)),(20,(sL bz (aF iv).length b5)),(21,(iI ((aF iv).length:Int))),(22,(iI (q:Int)))]/\mm=(aF iv).length-q/\(u.length=z.length)/\(∀i,aH u i=(aH w i||decide ((i:Int)∈(aF iv).take q)))/\(q<=(aF iv).length)) _ ⟨w,0,aa,_,fR,ay,E,⟨V,V,V,V,trivial⟩,V,M,(by intro i;simp),M⟩ ?_)
 rintro e5 f3 f0 ⟨u,q,N,e8,aq,ag,ap,a2,rfl,g4,g5,g6⟩ b4;refine au _ a2 (fun _=>?_);clear a2;replace hT:=(hT.mono aw).mono aq;replace a_:=a_.mono aq;have b6:=OS.len' ap;refine am 1 V (wT 2 [] 23 23 [] [(23,(.bool (decide ((q:Int)<((aF iv).length:Int)))))] V fun _=>zd 4 3 (fun c5=>?_) fun c5=>?_)
 ·have em:=dG hr (by omega:q<(aF iv).length);obtain⟨et,a8⟩:=Sv.view (OS.sv a_ ag (i:=3) V);have f5:=fI (a8 q);refine wrp 1 24 25 [7] [(7,(iI ((aF iv).getD q 0)))] (Ha_ (Sv.ix (j:=(q:Int)) (OS.sv a_ ag (i:=3) V)) (Hl_ 1 (ql 3 0 (vI (a8 q)) V V) Hn_)) (by kernel_rfl) V fun _=>ab (wTo 2 0 [] 26 27 [] [(26,(sL ad al ai)),(27,(iI ((aF iv).getD q 0)))] V fun _=>zc (add_c ex u ((aF iv).getD q 0) (g_ ag V) ap M hT M M) ?_)
  rintro _ f1 ⟨cc,b8,fd,b3,aA,rfl,a4,e0,e2⟩;replace aA:=ag.bO aA;have e4:=OS.len' a4;refine ah 2 V (wU 1 [] 22 22 [29] [(22,(iI ((q:Int)+1)))] (vi (n:=(q:Int)+1)) V fun _=>?_);refine b4 _ _ _ ?_ ⟨cc,q+1,b8,_,(fT (aq) b3),aA,a4,⟨V,V,V,V,trivial⟩,V,M,(add_step M g5 (dG hr M).1 X),M⟩;omega
 refine aP ⟨.inl V,_,V,u,N,_,(fT (fT (fT (a1) av) aw) aq),(HS.first ag),V,ap,M,(tr_done (fun i=>by rw[g2 i,a0i M]) (fun i=>by rw[g5 i,a0i M]))⟩
end mb
open mb
namespace mc
variable (ex:FuncId) {F:Fz} {H:Heap} {R:List Fp}
theorem zset{l:List (List U64)}{k:Nat}{z:List U64}(h: ∀j,j<k->l.getD j v_=z)(N:k<l.length): ∀j,j<k+1->(l.set k z).getD j v_=z:=fun j E=>by
 rw[cz];split
 ·rfl
 rename_i T;exact h j M
theorem iJ{l:List Int}{q:Nat}(h:q<l.length):l.getD q 0∈l:=by rw[a02,a06 h];exact a10 h
theorem succ_step{I O:List (List U64)}{k q:Nat}{s:List U64}{l:List Int}(Z:q<l.length)(U:k<O.length)(h: ∀t∈l.take q,∀r,bI I t.toNat r->bI O k r)(T: ∀i,aH s i=(aH (O.getD k v_) i||aH (I.getD (l.getD q 0).toNat v_) i)): ∀t∈l.take (q+1),∀r,bI I t.toNat r->bI (O.set k s) k r:=by
 intro t E r N;unfold bI;rw[cz,if_pos ⟨V,U⟩,T,a0A];rw[aX Z (d:=0),a07,a08]at E;rcases E with E|rfl
 ·exact .inl (h t E r N)
 exact .inr N
theorem tr_start{b:BlkT}{S:Nat->Prop}{s z:List U64}{n:Nat}(E:b.v.length<=n)(hs: ∀r,aH s r=true↔S r)(h: ∀i,aH z i=(aH s i||decide ((i:Int)∈d6 b)))(r:Nat):aH z r=true↔tr (b.v.drop n) (endS b S) r:=by rw[List.drop_of_length_le E,h,a0A,hs,decide_eq_true_eq];exact Iff.rfl
theorem cl_step{c:VFnT}{I O E:List (List U64)}{s z:List U64}{k:Nat}(hk:k<c.u.length)(ad: ∀b:Nat,(k:Int)<(b:Int)->b<c.u.length->Cl1 c I O b)(ho: ∀j,j≠k->E.getD j v_=O.getD j v_)(hs: ∀t∈br (bB c k),∀r,bI I t.toNat r->bI E k r)
  (ht: ∀r,aH s r=true↔inS (bB c k) (bI E k) r) (hz:z=I.getD k v_) (hb: ∀i,aH z i=(aH (I.getD k v_) i||aH s i)): ∀b:Nat,(k:Int)-1<(b:Int)->b<c.u.length->Cl1 c (I.set k z) E b:=by
 intro b a_ U
 rw[hz,eQ]
 by_cases e:b=k
 ·subst e;refine⟨hs,fun r Z=>?_⟩;have:=hb r;rw[hz]at this;unfold bI;rw[this,(ht r).2 Z,Bool.or_true]
 have T:=ad b M U
 have N:bI E b=bI O b:=by unfold bI;rw[ho b e]
 exact⟨fun t ht r Z=>by rw[N];exact T.1 t ht r Z,fun r Z=>T.2 r (by rw[N]at Z;exact Z)⟩
theorem cnt_t{m2:Bool}{A B D:List (List U64)}(E:m2=false->B=A)(N:m2=true->nN A<nN B)(h:nN B<nN D):nN A<nN D:=by
 cases m2 with
 |false=>rw[E rfl]at h;exact h
 |true=>have:=N V;omega
theorem keep0{m2 r:Bool}{A B:List (List U64)}{k:Nat}{z:List U64}(N:r=false->z=B.getD k v_)(T:r=false)(E:m2=false->B=A):m2=false->B.set k z=A:=fun h=>by rw[N T,eQ];exact E h
theorem keep1{m2 r:Bool}{A B:List (List U64)}{k:Nat}{z:List U64}(N:r=false->z=B.getD k v_)(T:r=false)(E:m2=true->nN A<nN B):m2=true->nN A<nN (B.set k z):=fun h=>by rw[N T,eQ];exact E h
theorem use3{α:Prop}{r:Bool}(h:r=false->α)(E:r=false):α:=h E
theorem use4{α:Prop}{r:Bool}(h:r=true->α)(E:r=true):α:=h E
theorem succ_len{b:BlkT}:(br b).length<=2:=by
 unfold br;split
 ·simp
 split
 ·exact ins_len
 simp
theorem wd_le{c:VFnT}(h:0<=c.r/\c.r<=3000):c.r<=64 *((wds c:Nat):Int)/\wds c<=48:=by unfold wds;rw[a1e M];omega
theorem analyze_c{hJ:Option Addr}{h4:Nat}(c:VFnT)(hs:HS (.of H []) F H [] R)(q7:in64 c.m)(q8:in64 c.r)(b8:SR F (sL hJ c.u.length h4) c.u)(hT:TB 37 tabC F)(ra:ca c=true)(qx: ∀j,(c.u.getD j v_).v.length<=1099511627776):kKt ex 112 [(aG [(iI c.m),(iI c.r),(sL hJ c.u.length h4)])] H fun v H'=> ∃(l3:Option Addr) (l4:Nat) (il:List (List U64)) (aol:Option Addr) (kol:Nat) (ol:List (List U64)) (F':Fz),Fz.le F F'/\HS (.of H []) F' H' [] R/\v= .tuple ⟨[sL l3 il.length l4,sL aol ol.length kol]⟩/\SR F' (sL l3 il.length l4) il/\SR F' (sL aol ol.length kol) ol/\(AnF c il ol):=by
 have vF:=e7 ra;have t7:=vF.nb;have so:=vF.r;have ua:=wd_le so;refine aC Tryz.func112 V V (am 1 V (ab (bd (aR hs V V) V V ?_)));rintro _ H2 _ ⟨b1,rfl,kp,_⟩;refine wTo 2 1 [] 1 0 [2,3] [(2,(sL none 0 0)),(3,(sL none 0 0))] V fun _=>ah 2 V (aU 2 13 15 [4] [(4,(iI (c.u.length:Int)))] (Hr_ 1 0 Hn_) kp V V fun _=>aL V (zfm (iI (c.u.length:Int)) (fu (id:= .x []) (cQ (v_:Hd) kp.log0 V V V V V V V V V V M M) V V (by rintro _ _ p5 ⟨a5,k5,rfl,h5,_,hwr⟩;exact dC V V (Wr.did hwr)) (kb V) ?_)))
 rintro _ H6 p5 ⟨a5,k5,rfl,h5,h7,_⟩ p6 oX;replace h7:=HS.lg h7 kp oX;generalize ({H6 with log:=p6}:Heap)=r2 at h7⊢;have h5:OS F (sL a5 (List.replicate c.u.length (v_:Hd)).length k5) (List.replicate c.u.length (v_:Hd)) p5:=h5;have ou:=HS.snoc h7;have ob:SF F (List.replicate c.u.length (v_:Hd)) (List.replicate c.u.length ([]:List U64)) []:=SF.rep _;have sg:=FAM.len ob;refine zfm (iI (c.u.length:Int)) (fu (id:= .x []) (cQ (v_:Hd) ou.log0 V V V V V V V V V V M M) V V (by rintro _ _ p8 ⟨a8,k8,rfl,h6,_,hwr⟩;exact dC V V (Wr.did hwr)) (⟨.inl V,.inr ⟨trivial,trivial⟩,q_⟩) ?_);rintro _ H9 p8 ⟨a8,k8,rfl,h6,h8,_⟩ p7 oY;replace h8:=HS.lg h8 ou oY;generalize ({H9 with log:=p7}:Heap)=r8 at h8⊢;have h6:OS F (sL a8 (List.replicate c.u.length (v_:Hd)).length k8) (List.replicate c.u.length (v_:Hd)) p8:=h6;have o2:=HS.snoc h8;have i4:SF F (List.replicate c.u.length (v_:Hd)) (List.replicate c.u.length ([]:List U64)) []:=SF.rep _;have qF:=FAM.len i4;let hI:Fp:=(fP b1 [(iI c.m),(iI c.r),(sL hJ c.u.length h4)])
 refine fa (sL a5 (List.replicate c.u.length (v_:Hd)).length k5) V V V (fa (sL a8 (List.replicate c.u.length (v_:Hd)).length k8) V V V (gS (am 3 V (wT 2 [] 20 22 [] [(21,(iI ((List.replicate c.u.length (v_:Hd)).length:Int))),(22,(iI 0))] V fun _=>ak (fun(mm:Nat) f H'=> ∃(oh:List Hd) (ol:List (List U64)) (ih:List Hd) (il:List (List U64)) (k:Nat) (an:Option Addr) (av:Nat) (c7:Fp) (ap:Option Addr) (aw:Nat) (c8:Fp) (e2:Fp) (e3:Fp) (F':Fz),Fz.le F F'/\HS (Base.of H []) F' H' [hI,c7,e2,c8,e3] R/\OS F' (sL an ih.length av) ih c7/\OS F' (sL ap oh.length aw) oh c8/\SF F' ih il e2/\SF F' oh ol e3/\aB f [(1,(pT b1 0)),(2,(sL an ih.length av)),(3,(sL ap oh.length aw)),(4,(iI (c.u.length:Int))),(21,(iI ((List.replicate c.u.length (v_:Hd)).length:Int))),(22,(iI (k:Int)))]/\mm=c.u.length-k/\(il.length=c.u.length)/\(ol.length=c.u.length)/\(∀j,j<k->il.getD j v_=List.replicate (wds c) ⟨0⟩)/\(∀j,j<k->ol.getD j v_=List.replicate (wds c) ⟨0⟩)/\(k<=c.u.length)) _ ⟨List.replicate c.u.length (v_:Hd),List.replicate c.u.length ([]:List U64),List.replicate c.u.length (v_:Hd),List.replicate c.u.length ([]:List U64),0,a5,k5,p5,a8,k8,p8,[],[],_,fR,o2,h5,h6,ob,i4,⟨V,V,V,V,V,V,trivial⟩,V,o_,o_,(by intro j hj;omega),(by intro j hj;omega),M⟩ ?_))));rintro rA sb rR ⟨oh,ol,ih,il,k,an,av,c7,ap,aw,c8,e2,e3,pP,hh,f5,co,c5,a1,a2,jb,rfl,li,lo,zi,zo,hk⟩ pm;refine au _ jb (fun _=>?_);clear jb;replace hT:=hT.mono hh;replace b8:=b8.mono hh;have pH:=FAM.len a1;have pI:=FAM.len a2;have t8:(List.replicate c.u.length (v_:Hd)).length=c.u.length:=a0O;refine am 1 V (wT 2 [] 23 23 [] [(23,(.bool (decide ((k:Int)<((List.replicate c.u.length (v_:Hd)).length:Int)))))] V fun _=>zd 4 6 (fun pZ=>?_) fun pZ=>?_)
 ·refine wT 1 [] 24 24 [5] [(5,(iI (k:Int)))] V fun _=>aL V (eO 6 25 30 [] [(25,(sL an ih.length av)),(26,(iI (k:Int))),(27,(sL ap oh.length aw)),(28,(iI (k:Int))),(30,(iI c.r))] (Hr_ 5 0 Hn_) f5 V V fun _=>ba (W:=[]) (aO V V V) V V V (mb.empty_c ex c.r (HS.call f5.log0) M hT M) (kb V) ?_)
  rintro _ pV ⟨g9,hE,sx,sq,rI,e8,bb,rfl,hA,rfl⟩;refine⟨Wr.did bb.log,fun px l7=>?_⟩;replace bb:=HS.back f5.log0 V bb;replace bb:=HS.lg bb f5 l7;generalize ({pV with log:=px}:Heap)=qt at bb⊢;replace hT:=hT.mono e8;replace a1:=SF.mono e8 a1;replace a2:=SF.mono e8 a2;refine bE (v:=(pT b1 1)) (id:= .v) (ap_fa V V) V V (did_v V) (i9 _) (bE (v:=(iI c.r)) (id:= .l b1) (gB (i:=1) V V (HS.hc bb.log0 (i:=0) V) V V) V V (jj V) (⟨.inl V,.inr a0k,q_⟩) (ba (W:=[]) (aO V V V) V V V (mb.empty_c ex c.r (HS.call bb.log0) M hT M) (kb V) ?_));rintro _ pW ⟨ha,hF,sy,ss,n6,fd,b9,rfl,m0,rfl⟩;refine⟨Wr.did b9.log,fun py l8=>?_⟩;replace b9:=HS.back bb.log0 V b9;replace b9:=HS.lg b9 bb l8;generalize ({pW with log:=py}:Heap)=qu at b9⊢;replace hA:=hA.mono fd;replace co:=(co.mono e8).mono fd;replace c5:=(c5.mono e8).mono fd;replace a1:=SF.mono fd a1;replace a2:=SF.mono fd a2;refine zx Hd k (OS.sv co b9.log0 (i:=1) V) ?_;obtain⟨qN,oD,o3,hP,oP⟩:=SF.open a1 b9 (q:=2) (i:=k) V M;have hP:OS n6 (sL (ih.getD k v_).a (ih.getD k v_).n (ih.getD k v_).k) (il.getD k v_) oD:=hP;have rn:=OS.nlen hP;obtain⟨oI,kr,jq⟩:=SF.shutN (⟨g9,(List.replicate (Int.tdiv (c.r+63) 64).toNat (⟨0⟩:U64)).length,hE⟩:Hd) oP fR o3 (q:=2) (m:=5) e_ V V hA;have qG:=FAM.len jq;refine gP (id:= .x (c7.map Prod.fst)) (dm (α:=Hd) (j:=k) (off:=0) (q:=1) (⟨g9,(List.replicate (Int.tdiv (c.r+63) 64).toNat (⟨0⟩:U64)).length,hE⟩:Hd) co kr.log0 V V V V V V V V (bg (x:=v_) M) V (by rintro cs rfl;exact⟨a0a V,V⟩)) V (by rintro _ _ ov ⟨hu,_,hwr⟩;exact dC V V (Wr.did hwr)) (kb V) ?_;rintro _ pX ov ⟨hu,f6,_⟩ pz l9;replace f6:=HS.lg f6 kr l9;generalize ({pX with log:=pz}:Heap)=qv at f6⊢;have qk:=OS.len' hu;refine zx Hd k (OS.sv c5 f6.log0 (i:=3) V) ?_;obtain⟨qO,oE,o4,hQ,oQ⟩:=SF.open a2 f6 (q:=4) (i:=k) V M;have hQ:OS n6 (sL (oh.getD k v_).a (oh.getD k v_).n (oh.getD k v_).k) (ol.getD k v_) oE:=hQ;have rp:=OS.nlen hQ;obtain⟨oJ,kx,jw⟩:=SF.shutN (⟨ha,(List.replicate (Int.tdiv (c.r+63) 64).toNat (⟨0⟩:U64)).length,hF⟩:Hd) oQ fR o4 (q:=4) (m:=6) e_ V V m0;have qH:=FAM.len jw;refine gP (id:= .x (c8.map Prod.fst)) (dm (α:=Hd) (j:=k) (off:=0) (q:=3) (⟨ha,(List.replicate (Int.tdiv (c.r+63) 64).toNat (⟨0⟩:U64)).length,hF⟩:Hd) c5 kx.log0 V V V V V V V V (bg (x:=v_) M) V (by rintro cs rfl;exact⟨a0a V,V⟩)) V (by rintro _ _ ow ⟨hv,_,hwr⟩;exact dC V V (Wr.did hwr)) (kb V) ?_;rintro _ pY ow ⟨hv,hB,_⟩ pA mk;replace hB:=HS.lg hB kx mk;generalize ({pY with log:=pA}:Heap)=qw at hB⊢;have qm:=OS.len' hv;refine bC 2 V (wU 1 [] 22 22 [37] [(22,(iI ((k:Int)+1)))] (vi (n:=(k:Int)+1)) V fun _=>?_);refine pm _ _ _ ?_ ⟨oh.set k (⟨ha,(List.replicate (Int.tdiv (c.r+63) 64).toNat (⟨0⟩:U64)).length,hF⟩:Hd),ol.set k (List.replicate (Int.tdiv (c.r+63) 64).toNat (⟨0⟩:U64)),ih.set k (⟨g9,(List.replicate (Int.tdiv (c.r+63) 64).toNat (⟨0⟩:U64)).length,hE⟩:Hd),il.set k (List.replicate (Int.tdiv (c.r+63) 64).toNat (⟨0⟩:U64)),k+1,an,av,ov,ap,aw,ow,oI,oJ,_,(fT (fT (hh) e8) fd),(HS.sub hB (a03 _ _)),(OS.norm hu),(OS.norm hv),jq,jw,(agC V (agC (show Value.slice an ih.length av=Value.slice an (ih.set k (⟨g9,(List.replicate (Int.tdiv (c.r+63) 64).toNat (⟨0⟩:U64)).length,hE⟩:Hd)).length av by rw[OS.len' hu]) (agC (show Value.slice ap oh.length aw=Value.slice ap (oh.set k (⟨ha,(List.replicate (Int.tdiv (c.r+63) 64).toNat (⟨0⟩:U64)).length,hF⟩:Hd)).length aw by rw[OS.len' hv]) ⟨V,V,V,trivial⟩))),V,(by rw[a0h];exact li),(by rw[a0h];exact lo),(zset zi M),(zset zo M),M⟩;omega
 refine wT 2 [] 1 0 [6] [(6,(.bool true))] V fun _=>ak (fun(mm:Nat) f H'=> ∃(g2:List Hd) (g8:List (List U64)) (f9:List Hd) (d1:List (List U64)) (mo:Bool) (bk:Option Addr) (bz:Nat) (e0:Fp) (bl:Option Addr) (b2:Nat) (e1:Fp) (e4:Fp) (e5:Fp) (F':Fz),Fz.le pP F'/\HS (Base.of H []) F' H' [hI,e0,e4,e1,e5] R/\OS F' (sL bk f9.length bz) f9 e0/\OS F' (sL bl g2.length b2) g2 e1/\SF F' f9 d1 e4/\SF F' g2 g8 e5/\aB f [(1,(pT b1 0)),(2,(sL bk f9.length bz)),(3,(sL bl g2.length b2)),(4,(iI (c.u.length:Int))),(6,(.bool mo))]/\mm=mea mo (c.u.length *(64 *wds c)) (nN d1)/\(Snd c d1 g8)/\(mo=false->∀b,b<c.u.length->Cl1 c d1 g8 b)) _ ⟨oh,ol,ih,il,true,an,av,c7,ap,aw,c8,e2,e3,_,fR,f5,co,c5,a1,a2,⟨V,V,V,V,V,trivial⟩,V,(snd_start li lo (fun j hj=>zi j M) (fun j hj=>zo j M)),(by intro h;cases h)⟩ ?_
 rintro rB sc rS ⟨g2,g8,f9,d1,mo,bk,bz,e0,bl,b2,e1,e4,e5,pQ,hl,ky,ef,et,d2,ar,ka,rfl,snd,cl⟩ pn;refine au _ ka (fun _=>?_);clear ka;replace hT:=hT.mono hl;replace b8:=b8.mono hl;have pJ:=FAM.len d2;have pK:=FAM.len ar;have t5:=snd.li;have t6:=snd.lo;refine am 2 V (wT 1 [] 38 38 [] [(38,(.bool mo))] V fun _=>eV 3 5 (v:=mo) V V V V (fun ik=>?_) (fun ik=>?_))
 ·try simp only[BS]at ik
  have sm:=ik;refine wT 2 [] 1 0 [6] [(6,(.bool false))] V fun _=>wU 2 [] 39 40 [7] [(7,(iI ((c.u.length:Int)-1)))] (vi (n:=(c.u.length:Int)-1)) V fun _=>ak (fun(mm:Nat) f H'=> ∃(g3:List Hd) (g4:List (List U64)) (N:List Hd) (ag:List (List U64)) (kz:Int) (m2:Bool) (aq:Option Addr) (ax:Nat) (ay:Fp) (cg:Option Addr) (c6:Nat) (c9:Fp) (dd:Fp) (dk:Fp) (F':Fz),Fz.le pQ F'/\HS (Base.of H []) F' H' [hI,ay,dd,c9,dk] R/\OS F' (sL aq N.length ax) N ay/\OS F' (sL cg g3.length c6) g3 c9/\SF F' N ag dd/\SF F' g3 g4 dk/\aB f [(1,(pT b1 0)),(2,(sL aq N.length ax)),(3,(sL cg g3.length c6)),(4,(iI (c.u.length:Int))),(6,(.bool m2)),(7,(iI kz))]/\mm=(kz+1).toNat/\(Snd c ag g4)/\(-1<=kz/\kz<(c.u.length:Int))/\(m2=false->ag=d1)/\(m2=true->nN d1<nN ag)/\(m2=false->∀b:Nat,kz<(b:Int)->b<c.u.length->Cl1 c ag g4 b)) _ ⟨g2,g8,f9,d1,(c.u.length:Int)-1,false,bk,bz,e0,bl,b2,e1,e4,e5,_,fR,ky,ef,et,d2,ar,⟨V,V,V,V,V,V,trivial⟩,V,(snd),M,(fun _=>rfl),(by intro h;cases h),(by intro _ b h1 h2;omega)⟩ ?_
  rintro rD sd rU ⟨g3,g4,N,ag,kz,m2,aq,ax,ay,cg,c6,c9,dd,dk,rJ,f2,f7,E,ez,ch,ci,kc,rfl,f0,hkz,oc,ko,hcl⟩ lf;refine au _ kc (fun _=>?_);clear kc;replace hT:=hT.mono f2;replace b8:=b8.mono f2;have pL:=FAM.len ch;have pM:=FAM.len ci;have q9:=f0.li;have rc:=f0.lo;refine am 2 V (wT 1 [] 41 42 [] [(42,(.bool (decide ((0:Int)<=kz))))] V fun _=>zd 4 5 (fun p0=>?_) fun p0=>?_)
  ·have ao:kz.toNat<c.u.length:=M
   have t3:=qx kz.toNat;have t4:((c.u.getD kz.toNat v_).f=2\/(c.u.getD kz.toNat v_).f=3)->0<=(c.u.getD kz.toNat v_).r/\(c.u.getD kz.toNat v_).r<c.r:=vF.f kz.toNat ao;have si: ∀{Q:Nat->Prop},(∀b:Nat,((kz.toNat:Nat):Int)-1<(b:Int)->Q b)->∀b:Nat,kz-1<(b:Int)->Q b:=fun h b hb=>h b M
   refine ab ?_;obtain⟨he,k6⟩:=Sv.view (SR.sv b8 f7);obtain⟨qb,qc,qd,qe,a9⟩:=BlkT.fx (k6 kz.toNat);let l2:Value:=(aG [(sL (cA (he kz.toNat) 0) (c.u.getD kz.toNat v_).v.length (cK (he kz.toNat) 0)),(iI (c.u.getD kz.toNat v_).f),(iI (c.u.getD kz.toNat v_).r),(iI (c.u.getD kz.toNat v_).t),(iI (c.u.getD kz.toNat v_).e)])
   refine aY 5 0 45 49 [] [(49,l2)] (Hr_ 1 0 (Ha_ (Sv.ix (j:=kz) (SR.sv b8 f7)) (Hl_ 4 (qn 82 0 5 (BlkT.vw (k6 kz.toNat)) V V V V) Hn_))) f7 V V fun _=>zn f7 V fun ib rV o5=>sgo 1 6 1 0 [] [] (Hr_ 6 5 Hn_) o5 V V fun qT rW hS=>ah 3 V (ab (aY 1 0 50 50 [] [(50,l2)] (Hr_ 0 5 Hn_) hS V V fun _=>zc (ma.vsucc_c ex (c.u.getD kz.toNat v_) (HS.call hS) a9 M M M M hT) ?_))
   rintro _ rX ⟨oz,pw,sC,ox,pR,b7,hV,rfl,f1,rfl⟩;replace hV:=HS.back hS V hV;replace ez:=ez.mono b7;replace ch:=SF.mono b7 ch;replace ci:=SF.mono b7 ci;let oy:Fp:=(fP ib [(sL (cA (he kz.toNat) 0) (c.u.getD kz.toNat v_).v.length (cK (he kz.toNat) 0)),(iI (c.u.getD kz.toNat v_).f),(iI (c.u.getD kz.toNat v_).r),(iI (c.u.getD kz.toNat v_).t),(iI (c.u.getD kz.toNat v_).e)])
   refine bL 2 2 52 53 [] [(52,(iI ((br (c.u.getD kz.toNat v_)).length:Int))),(53,(iI 0))] Hn_ (by kernel_rfl) V fun _=>ah 2 V (ak (fun(mm:Nat) f H'=> ∃(U:List Hd) (aa:List (List U64)) (q:Nat) (aA:Option Addr) (a4:Nat) (a7:Fp) (g1:Fp) (e6:Fp) (F':Fz),Fz.le pR F'/\HS (Base.of H []) F' H' [hI,ay,e6,a7,g1,oy,ox] R/\OS F' (sL aA U.length a4) U a7/\SF F' U aa g1/\SF F' N ag e6/\aB f [(1,(pT b1 0)),(2,(sL aq N.length ax)),(3,(sL aA U.length a4)),(4,(iI (c.u.length:Int))),(6,(.bool m2)),(7,(iI kz)),(8,(pT ib 0)),(51,(sL oz (br (c.u.getD kz.toNat v_)).length pw)),(52,(iI ((br (c.u.getD kz.toNat v_)).length:Int))),(53,(iI (q:Int)))]/\mm=(br (c.u.getD kz.toNat v_)).length-q/\(Snd c ag aa)/\(q<=(br (c.u.getD kz.toNat v_)).length)/\(∀j,j≠kz.toNat->aa.getD j v_=g4.getD j v_)/\(∀t∈(br (c.u.getD kz.toNat v_)).take q,∀r,bI ag t.toNat r->bI aa kz.toNat r)) _ ⟨g3,g4,0,cg,c6,c9,dk,dd,_,fR,hV,ez,ci,ch,⟨V,V,V,V,V,V,V,V,V,V,trivial⟩,V,(f0),M,(fun _ _=>rfl),(by intro t ht;cases ht)⟩ ?_)
   rintro rE se rY ⟨U,aa,q,aA,a4,a7,g1,e6,hG,dl,dt,T,go,a3,kd,rfl,dv,hq,oo,ot⟩ pq;refine au _ kd (fun _=>?_);clear kd;replace hT:=(hT.mono b7).mono dl;replace f1:=f1.mono dl;replace E:=(E.mono b7).mono dl;replace a9:=(a9.mono b7).mono dl;have pO:=FAM.len go;have pN:=FAM.len a3;have rh:=succ_len (b:=(c.u.getD kz.toNat v_));have re:=dv.lo;have rm:=dv.wo kz.toNat ao;refine am 1 V (wT 2 [] 54 54 [] [(54,(.bool (decide ((q:Int)<((br (c.u.getD kz.toNat v_)).length:Int)))))] V fun _=>zd 4 5 (fun p2=>?_) fun p2=>?_)
   ·have ja:=iJ (l:=br (c.u.getD kz.toNat v_)) (q:=q) M;have t9:=vF.succ kz.toNat ao _ ja;have rj:=dv.wi ((br (c.u.getD kz.toNat v_)).getD q 0).toNat M;obtain⟨qA,k7⟩:=Sv.view (OS.sv f1 dt (i:=6) V);have sk:=fI (k7 q);refine wrp 1 55 56 [10] [(10,(iI ((br (c.u.getD kz.toNat v_)).getD q 0)))] (Ha_ (Sv.ix (j:=(q:Int)) (OS.sv f1 dt (i:=6) V)) (Hl_ 1 (ql 3 0 (vI (k7 q)) V V) Hn_)) (by kernel_rfl) V fun _=>aL V ?_
    obtain⟨qB,pg⟩:=Sv.view (OS.sv T dt (i:=3) V);obtain⟨qP,i1,hW,hw,oR⟩:=SF.open go dt (q:=4) (i:=kz.toNat) V M;have hw:OS hG (sL (U.getD kz.toNat v_).a (U.getD kz.toNat v_).n (U.getD kz.toNat v_).k) (aa.getD kz.toNat v_) i1:=hw;have rq:=OS.nlen hw;obtain⟨qC,ph⟩:=Sv.view (OS.sv E hW (i:=1) V);obtain⟨qQ,oF,k0,f3,oT⟩:=SF.open a3 hW (q:=2) (i:=((br (c.u.getD kz.toNat v_)).getD q 0).toNat) V M;have f3:OS hG (sL (N.getD ((br (c.u.getD kz.toNat v_)).getD q 0).toNat v_).a (N.getD ((br (c.u.getD kz.toNat v_)).getD q 0).toNat v_).n (N.getD ((br (c.u.getD kz.toNat v_)).getD q 0).toNat v_).k) (ag.getD ((br (c.u.getD kz.toNat v_)).getD q 0).toNat v_) oF:=f3;have rr:=OS.nlen f3;refine eO 8 57 64 [] [(60,(sL (U.getD kz.toNat v_).a (U.getD kz.toNat v_).n (U.getD kz.toNat v_).k)),(64,(sL (N.getD ((br (c.u.getD kz.toNat v_)).getD q 0).toNat v_).a (N.getD ((br (c.u.getD kz.toNat v_)).getD q 0).toNat v_).n (N.getD ((br (c.u.getD kz.toNat v_)).getD q 0).toNat v_).k))] (Ha_ (Sv.ix (j:=kz) (OS.sv T dt (i:=3) V)) (Hl_ 3 (ql 185 0 (hc0 (vH (pg kz.toNat))) V V) (Ha_ (Sv.ix (j:=((br (c.u.getD kz.toNat v_)).getD q 0)) (OS.sv E hW (i:=1) V)) (Hl_ 7 (ql 185 0 (hc0 (vH (ph ((br (c.u.getD kz.toNat v_)).getD q 0).toNat))) V V) Hn_)))) dt V V fun _=>?_
    obtain⟨qs,hp,h9,ne,mx⟩:=OS.frz f3 k0 (i:=8) V;refine wcD (i1.map Prod.fst) (j:=7) h9 V V (mb.fv ex (aa.getD kz.toNat v_) (ag.getD ((br (c.u.getD kz.toNat v_)).getD q 0).toNat v_) (HS.callOwn h9.log0 (i:=7) V) (OS.mono hp hw) ne (hT.mono hp) M M) V V (kb V) ?_;rintro _ r0 ⟨sD,pG,rG,rK,i3,f8,rfl,hr,qV,qZ,q3,q5⟩;refine⟨_,_,_,f8,fun qy f8=>?_⟩;replace f8:=HS.thawL k0 (i:=8) V (fT hp i3) (fun b o hb=>i3 _ _ (mx b o hb)) (i':=8) V f8;replace hr:=OS.ind (F':=hG) hr;have rt:=OS.len' hr;refine bC 2 V (wU 1 [] 53 53 [66] [(53,(iI ((q:Int)+1)))] (vi (n:=(q:Int)+1)) V fun _=>?_);obtain⟨oK,o6,kg⟩:=SF.shut0 oT fR f8 (q:=2) (m:=8) e_ V V f3;have qI:=FAM.len kg;obtain⟨oL,o7,ki⟩:=SF.shut oR fR o6 (q:=4) (m:=7) e_ V V hr;have qJ:=FAM.len ki;refine pq _ _ _ ?_ ⟨U,aa.set kz.toNat pG,q+1,aA,a4,a7,oL,oK,_,(dl),(HS.sub o7 (a03 _ _)),T,ki,kg,⟨V,V,V,V,V,V,V,V,V,V,trivial⟩,V,(snd_out dv ao ja X X),M,(by exact fun j hj=>by rw[cz,if_neg (fun e=>hj e.1.symm)];exact oo j hj),(succ_step M M ot X)⟩;omega
   have lx: ∀t∈br (c.u.getD kz.toNat v_),∀r,bI ag t.toNat r->bI aa kz.toNat r:=fun t ht=>ot t (by rw[a0i M];exact ht)
   have rk:=dv.wi kz.toNat ao;refine ab (zlo ([]:List U64) dt V RL.nl V fun r9 sn su r1 oZ hX=>?_);obtain⟨qD,pi⟩:=Sv.view (OS.sv T hX (i:=3) V);obtain⟨qR,oG,k3,ds,oU⟩:=SF.open go hX (q:=4) (i:=kz.toNat) V M;have ds:OS hG (sL (U.getD kz.toNat v_).a (U.getD kz.toNat v_).n (U.getD kz.toNat v_).k) (aa.getD kz.toNat v_) oG:=ds;have ru:=OS.nlen ds;refine bL 4 1 68 71 [] [(71,(sL (U.getD kz.toNat v_).a (U.getD kz.toNat v_).n (U.getD kz.toNat v_).k))] (Ha_ (Sv.ix (j:=kz) (OS.sv T hX (i:=3) V)) (Hl_ 4 (ql 185 0 (vH (pi kz.toNat)) V V) Hn_)) (by kernel_rfl) V fun _=>zao 7 oZ k3 (OS.sv ds k3 (i:=8) V) V V V M fun g5 g6 p9 r3 hR hY=>?_
   have hR:OS hG (sL g5 (aa.getD kz.toNat v_).length g6) (aa.getD kz.toNat v_) p9:=hR;refine za (sL g5 (aa.getD kz.toNat v_).length g6) (ah 2 V (ab (aY 2 0 73 74 [] [(73,(sL g5 (aa.getD kz.toNat v_).length g6)),(74,l2)] (Hr_ 1 5 Hn_) hY V V fun _=>zc (mb.addT_c ex (aa.getD kz.toNat v_) (c.u.getD kz.toNat v_) (HS.callOwn hY (i:=7) V) hR a9 M M M M hT M M) ?_)));rintro _ r4 ⟨lr,pE,pS,b3,hC,rfl,hL,qW,q0⟩;replace hC:=hY.bO hC;replace ds:=ds.mono b3;replace a3:=SF.mono b3 a3;have rv:=OS.len' hL;refine ah 3 V (aU 2 76 79 [12] [(12,(iI (((c.u.getD kz.toNat v_).v.length:Int)-1)))] (Hr_ 1 5 (Ha_ (vi (n:=((c.u.getD kz.toNat v_).v.length:Int)-1)) Hn_)) hC V V fun _=>?_);obtain⟨hK,o8,b6⟩:=SF.shut0 oU (b3) hC (q:=4) (m:=8) e_ V V ds;have qK:=FAM.len b6;refine ak (fun(mm:Nat) f H'=> ∃(sw:List U64) (iz:Int) (a_:Option Addr) (Z:Nat) (fj:Fp) (F':Fz),Fz.le pS F'/\HS (Base.of H []) F' H' [hI,ay,e6,a7,hK,oy,ox,fj,[]] R/\OS F' (sL a_ sw.length Z) sw fj/\aB f [(1,(pT b1 0)),(2,(sL aq N.length ax)),(3,(sL aA U.length a4)),(4,(iI (c.u.length:Int))),(6,(.bool m2)),(7,(iI kz)),(8,(pT ib 0)),(11,(sL a_ sw.length Z)),(12,(iI iz))]/\mm=(iz+1).toNat/\(sw.length=wds c)/\(∀r,aH sw r=true↔tr ((c.u.getD kz.toNat v_).v.drop (iz+1).toNat) (endS (c.u.getD kz.toNat v_) (bI aa kz.toNat)) r)/\(-1<=iz/\iz<((c.u.getD kz.toNat v_).v.length:Int))) _ ⟨lr,((c.u.getD kz.toNat v_).v.length:Int)-1,g5,g6,pE,_,fR,o8,(OS.norm hL),(agC V (agC V (agC V (agC V (agC V (agC V (agC V (agC (show Value.slice g5 (aa.getD kz.toNat v_).length g6=Value.slice g5 lr.length g6 by rw[OS.len' hL]) ⟨V,trivial⟩)))))))),V,M,(tr_start M (fun r=>Iff.rfl) X),M⟩ ?_;rintro rF sf r5 ⟨sw,iz,a_,Z,fj,pU,b4,cc,g7,kk,rfl,hsw,htr,hiz⟩ pu;refine au _ kk (fun _=>?_);clear kk;replace hT:=(hT.mono b3).mono b4;replace E:=(E.mono b3).mono b4;replace T:=(T.mono b3).mono b4;replace a9:=(a9.mono b3).mono b4;replace a3:=SF.mono b4 a3;replace b6:=SF.mono b4 b6;refine am 2 V (wT 1 [] 80 81 [] [(81,(.bool (decide ((0:Int)<=iz))))] V fun _=>zd 3 5 (fun p3=>?_) fun p3=>?_)
   ·have a0:(∀x∈aF ((c.u.getD kz.toNat v_).v.getD iz.toNat v_),0<=x/\x<c.r)/\(∀x∈ae ((c.u.getD kz.toNat v_).v.getD iz.toNat v_),0<=x/\x<c.r)/\((c.u.getD kz.toNat v_).v.getD iz.toNat v_).args.length<=6:=bF (vF.v kz.toNat ao iz.toNat (show iz.toNat<(c.u.getD kz.toNat v_).v.length by omega));have ri:=a0.2.2;refine ab ?_;obtain⟨it,k9⟩:=Sv.view (SR.sv a9 cc);obtain⟨qf,qg,qh,qi,qj,n4⟩:=VInT.fx (k9 iz.toNat);refine aY 6 0 84 89 [] [(84,(sL a_ sw.length Z)),(89,(aG [(iI ((c.u.getD kz.toNat v_).v.getD iz.toNat v_).i.op),(iI ((c.u.getD kz.toNat v_).v.getD iz.toNat v_).i.a),(iI ((c.u.getD kz.toNat v_).v.getD iz.toNat v_).i.b),(iI ((c.u.getD kz.toNat v_).v.getD iz.toNat v_).i.c),(iI ((c.u.getD kz.toNat v_).v.getD iz.toNat v_).i.n),(sL (cA (it iz.toNat) 5) ((c.u.getD kz.toNat v_).v.getD iz.toNat v_).args.length (cK (it iz.toNat) 5))]))] (Hr_ 2 5 (Ha_ (Sv.ix (j:=iz) (SR.sv a9 cc)) (Hl_ 5 (qn 88 0 6 (VInT.vw (k9 iz.toNat)) V V V V) Hn_))) cc V V fun _=>zc (mb.lZ ex sw ((c.u.getD kz.toNat v_).v.getD iz.toNat v_) (HS.callOwn cc (i:=7) V) g7 M M M M M n4 hT (by first|omega|exact fun x hx=>by have:=a0.1 x hx;omega|exact fun x hx=>by have:=a0.2.1 x hx;omega) (by first|omega|exact fun x hx=>by have:=a0.1 x hx;omega|exact fun x hx=>by have:=a0.2.1 x hx;omega) (by first|omega|exact fun x hx=>by have:=a0.1 x hx;omega|exact fun x hx=>by have:=a0.2.1 x hx;omega) (by first|omega|exact fun x hx=>by have:=a0.1 x hx;omega|exact fun x hx=>by have:=a0.2.1 x hx;omega)) ?_
    rintro _ r6 ⟨l0,pF,rL,oV,h0,rfl,hM,qX,q1⟩;replace h0:=cc.bO h0;have rx:=OS.len' hM;refine ah 2 V (wU 1 [] 82 83 [12] [(12,(iI (iz-1)))] (vi (n:=iz-1)) V fun _=>?_);refine pu _ _ _ ?_ ⟨l0,iz-1,a_,Z,pF,_,(fT (b4) oV),h0,(OS.norm hM),(agC V (agC V (agC V (agC V (agC V (agC V (agC V (agC (show Value.slice a_ sw.length Z=Value.slice a_ l0.length Z by rw[OS.len' hM]) ⟨V,trivial⟩)))))))),V,M,(by rw[show(iz-1+1).toNat=iz.toNat by omega];exact tr_next M (by rw[show iz.toNat+1=(iz+1).toNat by omega];exact htr) X),M⟩;omega
   have h3: ∀r,aH sw r=true↔inS (c.u.getD kz.toNat v_) (bI aa kz.toNat) r:=fun r=>by have:=htr r;rwa [show(iz+1).toNat=0 by omega,a1j]at this
   refine ab ?_;obtain⟨qE,pj⟩:=Sv.view (OS.sv E cc (i:=1) V);obtain⟨qS,oH,o9,fi,i2⟩:=SF.open a3 cc (q:=2) (i:=kz.toNat) V M;have fi:OS pU (sL (N.getD kz.toNat v_).a (N.getD kz.toNat v_).n (N.getD kz.toNat v_).k) (ag.getD kz.toNat v_) oH:=fi;have ry:=OS.nlen fi;refine bL 5 0 91 95 [] [(94,(sL (N.getD kz.toNat v_).a (N.getD kz.toNat v_).n (N.getD kz.toNat v_).k)),(95,(sL a_ sw.length Z))] (Ha_ (Sv.ix (j:=kz) (OS.sv E cc (i:=1) V)) (Hl_ 3 (ql 185 0 (vH (pj kz.toNat)) V V) Hn_)) (by kernel_rfl) V fun _=>?_
   obtain⟨rO,b5,k4,o0,rf⟩:=OS.frz g7 o9 (i:=7) V;replace hT:=hT.mono b5;replace fi:=fi.mono b5;replace b6:=SF.mono b5 b6;refine cu (aO V V V) V V (mb.fv ex (ag.getD kz.toNat v_) sw (HS.callOwn k4 (i:=9) V) fi o0 hT M M) ?_;rintro _ r7 ⟨qa,l1,rH,rM,dn,hD,rfl,hO,qY,q2,q4,q6⟩;replace hD:=k4.bO hD;replace E:=(E.mono b5).mono dn;replace T:=(T.mono b5).mono dn;replace b6:=SF.mono dn b6;have rz:=OS.len' hO;refine ah 1 V (eV 0 2 (v:=qa) V V V V (fun oa=>?_) (fun oa=>?_))
   ·try simp only[BS]at oa
    refine wT 2 [] 1 0 [6] [(6,(.bool true))] V fun _=>wU 1 [] 43 44 [7] [(7,(iI (kz-1)))] (vi (n:=kz-1)) V fun _=>?_
    obtain⟨oM,pc,kl⟩:=SF.shut i2 (fT (b5) dn) hD (q:=2) (m:=9) e_ V V hO;have qL:=FAM.len kl;refine lf _ _ _ ?_ ⟨U,aa,N,ag.set kz.toNat l1,kz-1,true,aq,ax,ay,aA,a4,a7,oM,hK,_,(fT (fT (fT (fT (fT (fT (f2) b7) dl) b3) b4) b5) dn),(HS.sub pc (a03 _ _)),E,T,kl,b6,⟨V,V,V,V,V,V,trivial⟩,V,(snd_in dv ao X X h3),M,(by(intro h;cases h;done)),(fun _=>cnt_t oc ko (cnt_more M X X (use4 X X))),(by(intro h;cases h;done))⟩;omega
   refine wU 1 [] 43 44 [7] [(7,(iI (kz-1)))] (vi (n:=kz-1)) V fun _=>?_
   obtain⟨oO,pd,kn⟩:=SF.shut i2 (fT (b5) dn) hD (q:=2) (m:=9) e_ V V hO;have qM:=FAM.len kn;refine lf _ _ _ ?_ ⟨U,aa,N,ag.set kz.toNat l1,kz-1,m2,aq,ax,ay,aA,a4,a7,oO,hK,_,(fT (fT (fT (fT (fT (fT (f2) b7) dl) b3) b4) b5) dn),(HS.sub pd (a03 _ _)),E,T,kn,b6,⟨V,V,V,V,V,V,trivial⟩,V,(snd_in dv ao X X h3),M,(keep0 X X oc),(keep1 X X ko),(by(intro h;exact si (cl_step ao (fun b h1=>hcl h b M) oo lx h3 (use3 X X) X)))⟩;omega
  refine pn _ _ _ ?_ ⟨g3,g4,N,ag,m2,aq,ax,ay,cg,c6,c9,dd,dk,_,(fT (hl) f2),f7,E,ez,ch,ci,⟨V,V,V,V,V,trivial⟩,V,(f0),(fun h b hb=>hcl h b M hb)⟩;rw[sm];exact mea_lt ko (cnt_le f0.li f0.wi)
 refine wT 1 [] 97 98 [2,3] [(2,(sL bk f9.length bz)),(3,(sL bl g2.length b2))] V fun _=>?_
 obtain⟨rP,hm,pe,oW⟩:=SF.freeze d2 ky (q:=2) V;replace ef:=ef.mono hm;replace ar:=SF.mono hm ar;obtain⟨rQ,hn,pf,o1,rg⟩:=OS.frz ef pe (i:=1) V;replace ar:=SF.mono hn ar;have f4:=SR.rows o1 (FAM.len d2) (fun i hi=>SR.mono hn (oW i hi));have pB:=SR.len' f4;have qp:=SR.norm f4;obtain⟨qq,hf,nm,l5⟩:=SF.freeze ar pf (q:=4) V;replace et:=((et.mono hm).mono hn).mono hf;obtain⟨qr,hg,nx,mI,qo⟩:=OS.frz et nm (i:=3) V;replace f4:=(f4.mono hf).mono hg;have hz:=SR.rows mI (FAM.len ar) (fun i hi=>SR.mono hg (l5 i hi));have n3:=SR.len' hz;have p4:=SR.norm hz;refine aj ⟨.inr V,_,V,bk,bz,d1,bl,b2,g8,_,(fT (fT (fT (fT (fT (hh) hl) hm) hn) hf) hg),(HS.forget nx),(by simp only[pB,n3];rfl),(SR.norm f4),(SR.norm hz),(anF_of snd (cl X))⟩
end mc
open mc
namespace md
variable (ex:FuncId) {F:Fz} {H:Heap} {R:List Fp}
structure Lst(l:List Int)(S:Nat->Prop):Prop where
 asc:Asc l
 mem: ∀x,x∈l↔0<=x/\S x.toNat
theorem lst_of{s:List U64}{S:Nat->Prop}(h: ∀r,aH s r=true↔S r):Lst (jU s) S:=⟨lst_asc,fun x=>by rw[lst_mem,h]⟩
structure BkF(c:VFnT)(x y:List (List Int)):Prop where
 lx:x.length=c.u.length
 ly:y.length=c.u.length
 hx: ∀b,b<c.u.length->Lst (x.getD b v_) (LIn c b)
 hy: ∀b,b<c.u.length->Lst (y.getD b v_) (mW c b)
def ptS(c:VFnT)(b i:Nat):Nat->Prop:=tr ((bB c b).v.drop i) (endS (bB c b) (mW c b))
structure PtF(c:VFnT)(b:Nat)(l:List (List Int)):Prop where
 len:l.length=(bB c b).v.length+1
 pt: ∀i,i<=(bB c b).v.length->Lst (l.getD i v_) (ptS c b i)
def acI(c:VFnT)(b i r:Nat):Prop:=((bB c b).v.getD i v_).i.op=6/\((ptS c b (i+1) r/\(r:Int)≠((bB c b).v.getD i v_).i.a)\/(r:Int)∈((bB c b).v.getD i v_).args)
def acS(c:VFnT)(r:Nat):Prop:= ∃b i,b<c.u.length/\i<(bB c b).v.length/\acI c b i r
theorem dA{α:Type}{d:α}{l:List α}{x:α}{j:Nat}:(l++[x]).getD j d=if j=l.length then x else l.getD j d:=by
 rw[a02,a02,a2k];by_cases h:j<l.length
 ·rw[if_pos h,if_neg M]
 rw[if_neg h];by_cases E:j=l.length
 ·subst E;rw[if_pos V,a1S];rfl
 rw[if_neg E,a0J l_,a0J M]
theorem lst_snoc{l:List (List Int)}{S:Nat->Nat->Prop}{k:Nat}{x:List Int}(E:l.length=k)(h: ∀b,b<k->Lst (l.getD b v_) (S b))(N:Lst x (S k)): ∀b,b<k+1->Lst ((l++[x]).getD b v_) (S b):=fun b T=>by
 rw[dA];split
 ·rename_i e;rw[E]at e;subst e;exact N
 exact h b M
theorem pt_start{c:VFnT}{b n:Nat}{s z:List U64}(E:(bB c b).v.length<=n)(hs: ∀r,aH s r=true↔mW c b r)(h: ∀i,aH z i=(aH s i||decide ((i:Int)∈d6 (bB c b))))(r:Nat):aH z r=true↔ptS c b n r:=tr_start E hs h r
theorem blocks_c{bb:Option Addr}{bl:Nat}(c:VFnT)(hs:HS (.of H []) F H [] R)(hz:in64 c.m)(hA:in64 c.r)(bk:SR F (sL bb c.u.length bl) c.u)(hT:TB 37 tabC F)(al: ∀j,(c.u.getD j v_).v.length<=1073741824):kKt ex 67 [(aG [(iI c.m),(iI c.r),(sL bb c.u.length bl)])] H fun v H'=> ∃(ax:Option Addr) (kx:Nat) (x:List (List Int)) (ay:Option Addr) (ky:Nat) (y:List (List Int)) (F':Fz),Fz.le F F'/\HS (.of H []) F' H' [] R/\v= .tuple ⟨[sL ax x.length kx,sL ay y.length ky]⟩/\SR F' (sL ax x.length kx) x/\SR F' (sL ay y.length ky) y/\(ca c=true->BkF c x y)/\(ca c=false->x=[]/\y=[]):=by
 refine aC Tryz.func67 V V ?_;refine am 1 V ?_;refine ab ?_;refine bd (aR hs V V) V V ?_;rintro _ H2 _ ⟨b1,rfl,c8,_⟩;refine wTo 2 1 [] 2 3 [] [(2,(sL none 0 0)),(3,(sL none 0 0))] V fun _=>?_
 refine ah 3 V ?_;refine ab ?_;let e6:Value:=(aG [(iI c.m),(iI c.r),(sL bb c.u.length bl)])
 refine aY 1 0 9 9 [] [(9,e6)] (Hr_ 0 0 Hn_) c8 V V fun _=>?_
 refine cu (aO V V V) V V (m3.kE ex c (HS.call c8) M M bk hT (by exact fun j=>a0e (al j) M)) ?_;rintro _ H5 ⟨r5,F5,b8,a9,rfl,rfl⟩;replace a9:=HS.back c8 V a9;replace hT:=hT.mono b8;replace bk:=bk.mono b8;refine bL 1 2 11 11 [] [(11,(.bool (!(ca c))))] Hn_ (by kernel_rfl) V fun _=>?_
 refine ah 1 V ?_;refine eV 1 2 (v:=(!(ca c))) V V V V (fun c7=>?_) (fun c7=>?_)
 ·try simp only[BS]at c7
  have hv:=c7;refine wT 1 [] 2 3 [] [(2,(sL none 0 0)),(3,(sL none 0 0))] V fun _=>?_
  refine aj ⟨.inr V,_,V,none,0,([]:List (List Int)),none,0,([]:List (List Int)),_,(b8),(HS.forget a9),V,(SR.nil:SR F5 (sL none 0 0) ([]:List (List Int))),(SR.nil:SR F5 (sL none 0 0) ([]:List (List Int))),(by first|exact fun h=>absurd (h.symm.trans hv) e_|exact fun _=>⟨by omega,by omega,fun b hb=>e4 b M,fun b hb=>e5 b M⟩),(by first|exact fun _=>⟨V,V⟩|exact fun h=>absurd (hv.symm.trans h) e_)⟩
 try simp only[BS]at c7
 have hv:=c7;have vF:=e7 hv;have kl:=vF.nb;refine ab ?_;refine aY 1 0 13 13 [] [(13,e6)] (Hr_ 0 0 Hn_) a9 V V fun _=>?_
 refine cu (aO V V V) V V (mc.analyze_c ex c (HS.call a9) M M bk hT (by first|assumption|exact fun j=>a0e (al j) M) (by first|assumption|exact fun j=>a0e (al j) M)) ?_;rintro _ hO ⟨b7,b9,T,av,aA,E,g9,ci,b5,rfl,aw,N,hV⟩;replace b5:=HS.back a9 V b5;refine bL 5 2 15 16 [4,5,12] [(4,(sL b7 T.length b9)),(5,(sL av E.length aA))] Hn_ (by kernel_rfl) V fun _=>?_
 refine ah 2 V ?_;have an:=(by assumption:AnF c _ _)
 have ki:=an.li;have kk:=an.lo;refine wT 3 [] 1 0 [6,7] [(6,(sL none 0 0)),(7,(sL none 0 0))] V fun _=>?_
 refine wT 2 [] 17 19 [] [(18,(iI (T.length:Int))),(19,(iI 0))] V fun _=>?_
 have f8:=HS.snoc b5;have f9:=HS.snoc f8;refine ak (fun(mm:Nat) f H'=> ∃(xs:List (List Int)) (ys:List (List Int)) (k:Nat) (U:Option Addr) (aa:Nat) (a7:Fp) (a_:Option Addr) (ag:Nat) (a8:Fp) (F':Fz),Fz.le g9 F'/\HS (Base.of H []) F' H' [(fP b1 [(iI c.m),(iI c.r),(sL bb c.u.length bl)]),a7,a8] R/\OS F' (sL U xs.length aa) xs a7/\OS F' (sL a_ ys.length ag) ys a8/\aB f [(4,(sL b7 T.length b9)),(5,(sL av E.length aA)),(6,(sL U xs.length aa)),(7,(sL a_ ys.length ag)),(18,(iI (T.length:Int))),(19,(iI (k:Int)))]/\mm=c.u.length-k/\(xs.length=k)/\(ys.length=k)/\(k<=c.u.length)/\(∀b,b<k->Lst (xs.getD b v_) (LIn c b))/\(∀b,b<k->Lst (ys.getD b v_) (mW c b))) _ ⟨([]:List (List Int)),([]:List (List Int)),0,none,0,[],none,0,[],_,fR,f9,(OS.nil:OS _ (sL none 0 0) ([]:List (List Int)) []),(OS.nil:OS _ (sL none 0 0) ([]:List (List Int)) []),f_,V,m_,m_,r_,(by intro b hb;omega),(by intro b hb;omega)⟩ ?_;rintro hF hS hP ⟨xs,ys,k,U,aa,a7,a_,ag,a8,hG,a3,ap,a1,Z,c6,rfl,e1,e2,e3,e4,e5⟩ g4;refine au _ c6 (fun _=>?_);clear c6;replace hT:=(hT.mono ci).mono a3;replace aw:=aw.mono a3;replace N:=N.mono a3;refine am 1 V ?_;refine wT 2 [] 20 20 [] [(20,(.bool (decide ((k:Int)<(T.length:Int)))))] V fun _=>?_
 refine eV 4 5 (v:=(decide ((k:Int)<(T.length:Int)))) V V V V (fun cc=>?_) (fun cc=>?_)
 ·try simp only[BS]at cc
  refine wT 1 [] 21 21 [8] [(8,(iI (k:Int)))] V fun _=>?_
  refine aL V ?_;obtain⟨ch,dk⟩:=Sv.view (SR.sv aw ap);have hj:=fL (dk k);refine eO 5 22 26 [] [(22,(sL U xs.length aa)),(26,(sL (cA (ch k) 0) (T.getD k v_).length (cK (ch k) 0)))] (Ha_ (Sv.ix (j:=(k:Int)) (SR.sv aw ap) M M) (Hl_ 4 (ql 185 0 (hc0 (vL (dk k) M)) V V) Hn_)) ap V V fun _=>?_
  refine ba (W:=[]) (aO V V V) V V V (mb.list_c ex (T.getD k v_) (HS.call ap.log0) hj hT (by first|(rw[an.wi k M];have:=wd_le vF.r;omega)|(rw[an.wo k M];have:=wd_le vF.r;omega))) q_ ?_;rintro _ he ⟨e8,g5,h3,hY,hH,a4,aq,rfl,dt,rfl⟩;refine⟨Wr.did aq.log,fun g7 dn=>?_⟩;replace aq:=HS.back ap.log0 V aq;replace aq:=HS.lg aq ap dn;generalize ({he with log:=g7}:Heap)=hk at aq⊢;obtain⟨hI,a5,go,f4,hB⟩:=OS.frz dt aq (i:=3) V;replace hT:=(hT.mono a4).mono a5;replace N:=(N.mono a4).mono a5;replace a1:=(a1.mono a4).mono a5;refine zld ([jU (T.getD k v_)]:List (List Int)) go V (RL.cs ⟨e8,g5,V,f4⟩ RL.nl) V fun hQ hW h0 hl f1 b6=>?_
  refine zad 1 a1 b6 (OS.sv f1 b6 (i:=4) V) V V V n_ q_ fun ef ez hg hm b3 a2=>?_
  refine eO 4 30 33 [] [(30,(sL a_ ys.length ag)),(33,(.pointer (some ⟨sB (sL av E.length aA),sO (sL av E.length aA)+k *Rp.sz (List U64),none⟩)))] (Ha_ (Sv.ix (j:=(k:Int)) (SR.sv N a2) M M) Hn_) a2 V V fun _=>?_
  obtain⟨ht,f5,f0⟩:=Sv.at (SR.sv N a2.log0) (bg (x:=v_) (show k<E.length from by omega));obtain⟨dl,d1,rfl,d2⟩:=f5;refine bE (v:=(sL dl (E.getD k v_).length d1)) (id:= .l (sB (sL av E.length aA))) (gB (i:=0) V V f0 V V) V V (jj V) (⟨.inl V,.inl V,.inl V,.inr trivial,.inr (SR.nin N b6 (i:=1) V (show k<E.length from by omega)),.inr trivial,.inr a0k,q_⟩) ?_;refine ba (W:=[]) (aO V V V) V V V (mb.list_c ex (E.getD k v_) (HS.call a2.log0) d2 hT (by first|(rw[an.wi k M];have:=wd_le vF.r;omega)|(rw[an.wo k M];have:=wd_le vF.r;omega))) q_ ?_;rintro _ hf ⟨fd,g6,h4,h1,hJ,bz,ar,rfl,dv,rfl⟩;refine⟨Wr.did ar.log,fun g8 ds=>?_⟩;replace ar:=HS.back a2.log0 V ar;replace ar:=HS.lg ar a2 ds;generalize ({hf with log:=g8}:Heap)=hn at ar⊢;obtain⟨hK,b2,g1,f6,hC⟩:=OS.frz dv ar (i:=5) V;replace b3:=(b3.mono bz).mono b2;replace Z:=(((Z.mono a4).mono a5).mono bz).mono b2;refine zld ([jU (E.getD k v_)]:List (List Int)) g1 V (RL.cs ⟨fd,g6,V,f6⟩ RL.nl) V fun hR hX h2 hp f2 c9=>?_
  refine zad 2 Z c9 (OS.sv f2 c9 (i:=6) V) V V V n_ q_ fun et e0 hh hq f3 dd=>?_
  refine eO 2 1 0 [6,7] [(6,(sL ef (xs++([jU (T.getD k v_)]:List (List Int))).length ez)),(7,(sL et (ys++([jU (E.getD k v_)]:List (List Int))).length e0))] Hn_ dd V V fun _=>?_
  refine bC 2 V ?_;refine wU 1 [] 19 19 [38] [(19,(iI ((k:Int)+1)))] (vi (n:=(k:Int)+1) M) V fun _=>?_
  refine g4 _ _ _ ?_ ⟨xs++([jU (T.getD k v_)]:List (List Int)),ys++([jU (E.getD k v_)]:List (List Int)),k+1,ef,ez,hg,et,e0,hh,_,(fT (fT (fT (fT (a3) a4) a5) bz) b2),(HS.sub dd (a03 _ _)),b3,f3,f_,V,l_,l_,r_,(by exact lst_snoc e1 e4 (lst_of (an.hi k))),(by exact lst_snoc e2 e5 (lst_of (an.ho k M)))⟩;omega
 try simp only[BS]at cc
 refine wT 1 [] 2 3 [39,40] [(2,(sL U xs.length aa)),(3,(sL a_ ys.length ag))] V fun _=>?_
 obtain⟨hL,co,g2,b4,hD⟩:=OS.frz a1 ap (i:=1) V;replace Z:=Z.mono co;obtain⟨hM,c5,g3,f7,hE⟩:=OS.frz Z g2 (i:=2) V;replace b4:=b4.mono c5;refine aj ⟨.inr V,_,V,U,aa,xs,a_,ag,ys,_,(fT (fT (fT (fT (b8) ci) a3) co) c5),(HS.forget g3),V,b4,f7,(by first|exact fun h=>absurd (h.symm.trans hv) e_|exact fun _=>⟨by omega,by omega,fun b hb=>e4 b M,fun b hb=>e5 b M⟩),(by first|exact fun _=>⟨V,V⟩|exact fun h=>absurd (hv.symm.trans h) e_)⟩
end md
open md
namespace mf
theorem lin_lt{c:VFnT}(v:VF c){b r:Nat}(h:LIn c b r):(r:Int)<c.r:=by
 refine h (fun _ r=>(r:Int)<c.r) fun b U r N=>?_
 have Z: ∀(l:List VInT),(∀w∈l,eP c.m c.r w=true)->∀r,tr l (endS (bB c b) (outS c (fun _ r=>(r:Int)<c.r) b)) r->(r:Int)<c.r:=by
  intro l;induction l with
  |nil=>
   intro _ r N
   rcases N with⟨t,_,E⟩|E
   ·exact E
   unfold d6 at E
   split at E
   ·rename_i hf;rw[a08]at E;have:=v.f b U hf;omega
   cases E
  |cons w l ih=>
   intro T r N
   rcases N with N|N
   ·exact((bF (T w (a0n ..))).1 _ N).2
   exact ih (fun x hx=>T x (a0f _ hx)) r N.1
 refine Z _ (fun w T=>?_) r N;obtain⟨i,hi,rfl⟩:=a0t.1 T;have:=v.v b U i hi;rwa [a02,a06 hi]at this
theorem jf{c:VFnT}(v:VF c){b r:Nat}(h:mW c b r):(r:Int)<c.r:=by obtain⟨t,_,E⟩:=h;exact lin_lt v E
theorem tr_lt{c:VFnT}(v:VF c){b:Nat}(T:b<c.u.length): ∀(l:List VInT),(∀w∈l,w∈(bB c b).v)->∀r,tr l (endS (bB c b) (mW c b)) r->(r:Int)<c.r:=by
 intro l;induction l with
 |nil=>
  intro _ r N
  rcases N with E|E
  ·exact jf v E
  unfold d6 at E
  split at E
  ·rename_i hf;rw[a08]at E;have:=v.f b T hf;omega
  cases E
 |cons w l ih=>
  intro U r N
  rcases N with N|N
  ·obtain⟨i,hi,Z⟩:=a0t.1 (U w (a0n ..));have:=v.v b T i hi;rw[a02,a06 hi,a0I,Z]at this;exact((bF this).1 _ N).2
  exact ih (fun x hx=>U x (a0f _ hx)) r N.1
theorem iG{c:VFnT}(v:VF c){b i r:Nat}(E:b<c.u.length)(h:ptS c b i r):(r:Int)<c.r:=tr_lt v E _ (fun w N=>a2o N) r h
theorem lF{m:Int}: ∀{l:List Int} (lo:Int),lo<=m->Asc l->(∀x∈l,lo<=x/\x<m)->(l.length:Int)<=m-lo
 | [],lo,h,_,_=>by simp;omega
 |x::l,lo,_,ha,hb=>by
  have E:=List.pairwise_cons.1 ha;have N:=hb x (a0n ..);have:=lF (l:=l) (x+1) M E.2 fun y T=>⟨by have:=E.1 y T;omega,(hb y (a0f _ T)).2⟩
  rw[a05];omega
theorem Lst.len{l:List Int}{S:Nat->Prop}{m:Int}(h:Lst l S)(U:0<=m)(T: ∀r,S r->(r:Int)<m):(l.length:Int)<=m:=by
 have:=lF 0 U h.asc fun x Z=>by obtain⟨E,N⟩:=(h.mem x).1 Z;have:=T _ N;exact⟨E,by omega⟩
 omega
theorem Lst.nil{S:Nat->Prop}(h: ∀r,¬S r):Lst [] S:=⟨List.Pairwise.nil,fun x=>⟨fun E=>(by cases E),fun E=>absurd E.2 (h _)⟩⟩
theorem Lst.addL{a l:List Int}{S:Nat->Prop}(h:Lst a S)(T: ∀x∈l,0<=x):Lst (cU a l) (fun r=>S r\/(r:Int)∈l):=⟨uni_asc h.asc,fun x=>by
 rw[nh,h.mem];constructor
 ·rintro(E|E)
  ·exact⟨E.1,.inl E.2⟩
  have:=T x E;exact⟨this,.inr (by rw[show((x.toNat:Nat):Int)=x by omega];exact E)⟩
 rintro⟨E,N|N⟩
 ·exact .inl ⟨E,N⟩
 exact .inr (by rwa [show((x.toNat:Nat):Int)=x by omega]at N)⟩
theorem Lst.union{a l:List Int}{S S':Nat->Prop}(h:Lst a S)(k:Lst l S'):Lst (cU a l) (fun r=>S r\/S' r):=by
 have T:=Lst.addL (l:=l) h fun x U=>((k.mem x).1 U).1
 refine⟨T.asc,fun x=>?_⟩;rw[T.mem];constructor
 ·rintro⟨N,E|E⟩
  ·exact⟨N,.inl E⟩
  exact⟨N,.inr (((k.mem _).1 E).2)⟩
 rintro⟨N,E|E⟩
 ·exact⟨N,.inl E⟩
 exact⟨N,.inr ((k.mem _).2 ⟨by omega,E⟩)⟩
theorem lA{l:List Int}{n:Int}:jJ l n=true↔n∈l:=by
 unfold jJ;rw[List.any_eq_true];constructor
 ·rintro⟨x,E,N⟩;have:=of_decide_eq_true N;subst this;exact E
 exact fun h=>⟨n,h,decide_eq_true V⟩
theorem Lst.minus{a w:List Int}{S:Nat->Prop}(h:Lst a S):Lst (gT a w) (fun r=>S r/\(r:Int)∉w):=⟨h.asc.sublist List.filter_sublist,fun x=>by
 unfold gT;rw[a24,h.mem];simp only[a0G,a1r,ne_eq,lA];constructor
 ·rintro⟨⟨E,N⟩,T⟩;exact⟨E,N,by rw[show((x.toNat:Nat):Int)=x by omega];exact T⟩
 rintro⟨E,N,T⟩;exact⟨⟨E,N⟩,by rwa [show((x.toNat:Nat):Int)=x by omega]at T⟩⟩
theorem pt_in{c:VFnT}{b:Nat}(E:b<c.u.length)(r:Nat):ptS c b 0 r↔LIn c b r:=by rw[LIn_iff E];exact Iff.rfl
end mf
end Go.Proofs.YtgdggmlghemecaaGreatDoor
