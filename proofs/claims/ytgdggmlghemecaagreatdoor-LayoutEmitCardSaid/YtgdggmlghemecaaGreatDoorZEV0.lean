/-
Symbolic runs of the code that the law reaches, part 1. No condition but bounds on lengths.
-/
import Derived.Test.YtgdggmlghemecaaGreatDoorZERD
import Derived.Test.YtgdggmlghemecaaGreatDoorChecked
noncomputable section
namespace Go.Proofs.YtgdggmlghemecaaGreatDoor
open Go.R
open Inhabited renaming default→v_
set_option maxRecDepth 10000
set_option maxHeartbeats 2000000
set_option linter.unusedVariables false
set_option linter.unusedSimpArgs false
namespace m1
variable (ex:FuncId) {F:Fz} {H:Heap} {R:List Fp}
theorem ql{H b o cs w}(t:TypeId)(i:Nat)(hc:HC H.get b o cs)(A:e7 Tryz.prog t=some false)(E:cs[i]?=some w):LDv Tryz.prog H t (.pointer (some ⟨b,o+i,none⟩)) w:=ld1 hc A E
theorem qn{H b o cs l}(t:TypeId)(i n:Nat)(hc:HC H.get b o cs)(A:e7 Tryz.prog t=some true)(hs:cW Tryz.prog t=some n)(N:Nat.ble (i+n) cs.length=true)(E:dX (d3 cs i) n=l):LDv Tryz.prog H t (.pointer (some ⟨b,o+i,none⟩)) (.agg ⟨l⟩):=ldN hc A hs N E
structure InfT where
 name:Str
 f:Int
 ra:Bool
 wa:Bool
 rb:Bool
 mt:Bool
 w:Int
 deriving Inhabited
instance :Rp InfT where
 sz:=7
 rep F cs x:=cs=[tX x.name.b,iI x.f,.bool x.ra,.bool x.wa,.bool x.rb,.bool x.mt,iI x.w]/\in64 x.f/\in64 x.w
 len:=by rintro F cs x ⟨rfl,_⟩;rfl
 one:=by rintro F cs x ⟨rfl,_⟩;rfl
 mono:=by intro F F' cs x _ h;exact h
theorem InfT.vw{F}{get:Nat->Option AObj}{v:Value}{cf:Nat->List Value}{j:Nat}{l:List InfT}(h:VW F get v l cf j)(N:j<l.length:=by first|(dsimp only;omega)|omega):HC get (sB v) (sO v+j *Rp.sz InfT) [tX (l.getD j v_).name.b,iI (l.getD j v_).f,.bool (l.getD j v_).ra,.bool (l.getD j v_).wa,.bool (l.getD j v_).rb,.bool (l.getD j v_).mt,iI (l.getD j v_).w]:=by obtain⟨⟨E,_⟩,A⟩:=h.1 v_ N;rw[show cf j=_ from E]at A;exact A
theorem InfT.fx{F}{get:Nat->Option AObj}{v:Value}{cf:Nat->List Value}{j:Nat}{l:List InfT}(h:VW F get v l cf j):in64 (l.getD j v_).f/\in64 (l.getD j v_).w:=by
 rcases a0k j l.length with hj|hj
 ·obtain⟨⟨E,h0,A⟩,_⟩:=h.1 v_ hj;exact⟨h0,A⟩
 rw[bZ hj];exact⟨by decide,by decide⟩
theorem jl{B F L R H}(hs:HS B F H L R){b cs w}(t:TypeId)(i j:Nat)(A:e7 Tryz.prog t=some false)(h:L[j]?=some [(b,.cells cs none false)])(E:cs[i]?=some w): ∀H,JJ B F L R H->LDv Tryz.prog H t (pT b i) w:=jl0 hs t i j A h E
theorem jn{B F L R H}(hs:HS B F H L R){b cs l}(t:TypeId)(i n j:Nat)(A:e7 Tryz.prog t=some true)(T:cW Tryz.prog t=some n)(h:L[j]?=some [(b,.cells cs none false)])(N:Nat.ble (i+n) cs.length=true)(E:dX (d3 cs i) n=l): ∀H,JJ B F L R H->LDv Tryz.prog H t (pT b i) (.agg ⟨l⟩):=jn0 hs t i n j A T h N E
structure InsT where
 op:Int
 a:Int
 b:Int
 c:Int
 n:Int
 deriving Inhabited,DecidableEq
instance :Rp InsT where
 sz:=5
 rep F cs x:=cs=[iI x.op,iI x.a,iI x.b,iI x.c,iI x.n]/\in64 x.op/\in64 x.a/\in64 x.b/\in64 x.c/\in64 x.n
 len:=by rintro F cs x ⟨rfl,_⟩;rfl
 one:=by rintro F cs x ⟨rfl,_⟩;rfl
 mono:=by intro F F' cs x _ h;exact h
theorem InsT.vw{F}{get:Nat->Option AObj}{v:Value}{cf:Nat->List Value}{j:Nat}{l:List InsT}(h:VW F get v l cf j)(N:j<l.length:=by first|(dsimp only;omega)|omega):HC get (sB v) (sO v+j *Rp.sz InsT) [iI (l.getD j v_).op,iI (l.getD j v_).a,iI (l.getD j v_).b,iI (l.getD j v_).c,iI (l.getD j v_).n]:=by obtain⟨⟨E,_⟩,A⟩:=h.1 v_ N;rw[show cf j=_ from E]at A;exact A
theorem InsT.fx{F}{get:Nat->Option AObj}{v:Value}{cf:Nat->List Value}{j:Nat}{l:List InsT}(h:VW F get v l cf j):in64 (l.getD j v_).op/\in64 (l.getD j v_).a/\in64 (l.getD j v_).b/\in64 (l.getD j v_).c/\in64 (l.getD j v_).n:=by
 rcases a0k j l.length with hj|hj
 ·obtain⟨⟨U,h0,A,E,N,T⟩,_⟩:=h.1 v_ hj;exact⟨h0,A,E,N,T⟩
 rw[bZ hj];exact⟨by decide,by decide,by decide,by decide,by decide⟩
structure VInT where
 i:InsT
 args:(List Int)
 deriving Inhabited,DecidableEq
instance :Rp VInT where
 sz:=6
 rep F cs x:= ∃a5 k5,cs=[iI x.i.op,iI x.i.a,iI x.i.b,iI x.i.c,iI x.i.n,sL a5 x.args.length k5]/\in64 x.i.op/\in64 x.i.a/\in64 x.i.b/\in64 x.i.c/\in64 x.i.n/\SR F (sL a5 x.args.length k5) x.args
 len:=by rintro F cs x ⟨a5,k5,rfl,_⟩;rfl
 one:=by rintro F cs x ⟨a5,k5,rfl,_⟩;rfl
 mono:=by rintro F F' cs x hF ⟨a5,k5,rfl,h0,h1,h2,h3,h4,h5⟩;exact⟨a5,k5,V,h0,h1,h2,h3,h4,h5.mono hF⟩
theorem VInT.vw{F}{get:Nat->Option AObj}{v:Value}{cf:Nat->List Value}{j:Nat}{l:List VInT}(h:VW F get v l cf j)(U:j<l.length:=by first|(dsimp only;omega)|omega):HC get (sB v) (sO v+j *Rp.sz VInT) [iI (l.getD j v_).i.op,iI (l.getD j v_).i.a,iI (l.getD j v_).i.b,iI (l.getD j v_).i.c,iI (l.getD j v_).i.n,sL (cA (cf j) 5) (l.getD j v_).args.length (cK (cf j) 5)]:=by obtain⟨⟨N,T,E,_⟩,A⟩:=h.1 v_ U;rw[show cf j=_ from E]at A⊢;exact A
theorem VInT.fx{F}{get:Nat->Option AObj}{v:Value}{cf:Nat->List Value}{j}{l:List VInT}(h:VW F get v l cf j):in64 (l.getD j v_).i.op/\in64 (l.getD j v_).i.a/\in64 (l.getD j v_).i.b/\in64 (l.getD j v_).i.c/\in64 (l.getD j v_).i.n/\SR F (sL (cA (cf j) 5) (l.getD j v_).args.length (cK (cf j) 5)) (l.getD j v_).args:=by
 rcases a0k j l.length with hj|hj
 ·obtain⟨⟨Z,k5,A,h0,E,N,T,U,a_⟩,_⟩:=h.1 v_ hj;rw[show cf j=_ from A];exact⟨h0,E,N,T,U,a_⟩
 rw[bZ hj,h.2 hj];exact⟨by decide,by decide,by decide,by decide,by decide,SR.nil⟩
structure BlkT where
 v:(List VInT)
 f:Int
 r:Int
 t:Int
 e:Int
 deriving Inhabited,DecidableEq
instance :Rp BlkT where
 sz:=5
 rep F cs x:= ∃a0 k0,cs=[sL a0 x.v.length k0,iI x.f,iI x.r,iI x.t,iI x.e]/\in64 x.f/\in64 x.r/\in64 x.t/\in64 x.e/\SR F (sL a0 x.v.length k0) x.v
 len:=by rintro F cs x ⟨a0,k0,rfl,_⟩;rfl
 one:=by rintro F cs x ⟨a0,k0,rfl,_⟩;rfl
 mono:=by rintro F F' cs x hF ⟨a0,k0,rfl,h0,h1,h2,h3,h4⟩;exact⟨a0,k0,V,h0,h1,h2,h3,h4.mono hF⟩
theorem BlkT.vw{F}{get:Nat->Option AObj}{v:Value}{cf:Nat->List Value}{j:Nat}{l:List BlkT}(h:VW F get v l cf j)(T:j<l.length:=by first|(dsimp only;omega)|omega):HC get (sB v) (sO v+j *Rp.sz BlkT) [sL (cA (cf j) 0) (l.getD j v_).v.length (cK (cf j) 0),iI (l.getD j v_).f,iI (l.getD j v_).r,iI (l.getD j v_).t,iI (l.getD j v_).e]:=by obtain⟨⟨U,N,E,_⟩,A⟩:=h.1 v_ T;rw[show cf j=_ from E]at A⊢;exact A
theorem BlkT.fx{F}{get:Nat->Option AObj}{v:Value}{cf:Nat->List Value}{j}{l:List BlkT}(h:VW F get v l cf j):in64 (l.getD j v_).f/\in64 (l.getD j v_).r/\in64 (l.getD j v_).t/\in64 (l.getD j v_).e/\SR F (sL (cA (cf j) 0) (l.getD j v_).v.length (cK (cf j) 0)) (l.getD j v_).v:=by
 rcases a0k j l.length with hj|hj
 ·obtain⟨⟨Z,a_,A,h0,E,N,T,U⟩,_⟩:=h.1 v_ hj;rw[show cf j=_ from A];exact⟨h0,E,N,T,U⟩
 rw[bZ hj,h.2 hj];exact⟨by decide,by decide,by decide,by decide,SR.nil⟩
structure VFnT where
 m:Int
 r:Int
 u:(List BlkT)
 deriving Inhabited,DecidableEq
instance :Rp VFnT where
 sz:=3
 rep F cs x:= ∃a2 k2,cs=[iI x.m,iI x.r,sL a2 x.u.length k2]/\in64 x.m/\in64 x.r/\SR F (sL a2 x.u.length k2) x.u
 len:=by rintro F cs x ⟨a2,k2,rfl,_⟩;rfl
 one:=by rintro F cs x ⟨a2,k2,rfl,_⟩;rfl
 mono:=by rintro F F' cs x hF ⟨a2,k2,rfl,h0,h1,h2⟩;exact⟨a2,k2,V,h0,h1,h2.mono hF⟩
theorem VFnT.vw{F}{get:Nat->Option AObj}{v:Value}{cf:Nat->List Value}{j:Nat}{l:List VFnT}(h:VW F get v l cf j)(T:j<l.length:=by first|(dsimp only;omega)|omega):HC get (sB v) (sO v+j *Rp.sz VFnT) [iI (l.getD j v_).m,iI (l.getD j v_).r,sL (cA (cf j) 2) (l.getD j v_).u.length (cK (cf j) 2)]:=by obtain⟨⟨N,k2,E,_⟩,A⟩:=h.1 v_ T;rw[show cf j=_ from E]at A⊢;exact A
theorem VFnT.fx{F}{get:Nat->Option AObj}{v:Value}{cf:Nat->List Value}{j}{l:List VFnT}(h:VW F get v l cf j):in64 (l.getD j v_).m/\in64 (l.getD j v_).r/\SR F (sL (cA (cf j) 2) (l.getD j v_).u.length (cK (cf j) 2)) (l.getD j v_).u:=by
 rcases a0k j l.length with hj|hj
 ·obtain⟨⟨T,k2,A,h0,E,N⟩,_⟩:=h.1 v_ hj;rw[show cf j=_ from A];exact⟨h0,E,N⟩
 rw[bZ hj,h.2 hj];exact⟨by decide,by decide,SR.nil⟩
structure DigT where
 n:Int
 deriving Inhabited,DecidableEq
instance :Rp DigT where
 sz:=1
 rep F cs x:=cs=[iI x.n]/\in64 x.n
 len:=by rintro F cs x ⟨rfl,_⟩;rfl
 one:=by rintro F cs x ⟨rfl,_⟩;rfl
 mono:=by intro F F' cs x _ h;exact h
def bh(n m:Int):Int:=bif decide (Int.tmod n m<0) then Int.tmod n m+m else Int.tmod n m
theorem pick_rng{n m:Int}(N:0<m):0<=bh n m/\bh n m<m:=by
 have A: -m<n.tmod m:=Int.lt_tmod_of_pos n N;have E:n.tmod m<m:=Int.tmod_lt_of_pos n N;unfold bh;by_cases hc:n.tmod m<0
 ·simp only[decide_eq_true hc,cond_true];omega
 simp only[decide_eq_false hc,cond_false];omega
theorem dF(n m:Int):0<m->0<=bh n m/\bh n m<m:=pick_rng
def tabL:List InfT:=[⟨⟨[110,111,112]⟩,1,false,false,false,false,1⟩,⟨⟨[114,101,116]⟩,1,false,false,false,false,1⟩,⟨⟨[116,105,99,107]⟩,1,false,false,false,false,1⟩,⟨⟨[116,114,97,112]⟩,8,false,false,false,true,1⟩,⟨⟨[106,109,112]⟩,8,false,false,false,false,1⟩,⟨⟨[99,97,108,108]⟩,5,false,false,false,false,1⟩,⟨⟨[106,122]⟩,5,true,false,false,false,1⟩,⟨⟨[106,110,122]⟩,5,true,false,false,false,1⟩,⟨⟨[111,117,116]⟩,2,true,false,false,false,1⟩,⟨⟨[109,111,118]⟩,3,false,true,true,false,1⟩,⟨⟨[99,109,111,118,122]⟩,4,true,true,true,false,1⟩,⟨⟨[99,109,111,118,110,122]⟩,4,true,true,true,false,1⟩,⟨⟨[108,100,105]⟩,5,false,true,false,false,1⟩,⟨⟨[108,100,99]⟩,6,false,true,false,false,3⟩,⟨⟨[110,101,103]⟩,2,true,true,false,false,1⟩,⟨⟨[110,111,116]⟩,2,true,true,false,false,1⟩,⟨⟨[97,100,100]⟩,3,true,true,true,false,1⟩,⟨⟨[115,117,98]⟩,3,true,true,true,false,1⟩,⟨⟨[109,117,108]⟩,3,true,true,true,false,1⟩,⟨⟨[100,105,118]⟩,3,true,true,true,true,1⟩,⟨⟨[114,101,109]⟩,3,true,true,true,true,1⟩,⟨⟨[97,110,100]⟩,3,true,true,true,false,1⟩,⟨⟨[111,114]⟩,3,true,true,true,false,1⟩,⟨⟨[120,111,114]⟩,3,true,true,true,false,1⟩,⟨⟨[115,104,108]⟩,3,true,true,true,false,1⟩,⟨⟨[115,104,114]⟩,3,true,true,true,false,1⟩,⟨⟨[115,97,114]⟩,3,true,true,true,false,1⟩,⟨⟨[101,113]⟩,3,true,true,true,false,1⟩,⟨⟨[110,101]⟩,3,true,true,true,false,1⟩,⟨⟨[108,116]⟩,3,true,true,true,false,1⟩,⟨⟨[108,101]⟩,3,true,true,true,false,1⟩,⟨⟨[108,116,117]⟩,3,true,true,true,false,1⟩,⟨⟨[97,100,100,105]⟩,5,true,true,false,false,1⟩,⟨⟨[108,100]⟩,7,false,true,true,true,1⟩,⟨⟨[115,116]⟩,7,true,false,true,true,1⟩,⟨⟨[108,100,115]⟩,5,false,true,false,false,1⟩,⟨⟨[115,116,115]⟩,5,true,false,false,false,1⟩]
def infC(x:InfT):List Value:=[tX x.name.b,iI x.f,.bool x.ra,.bool x.wa,.bool x.rb,.bool x.mt,iI x.w]
def tabC:List Value:=tabL.flatMap infC
abbrev kKt(e:FuncId):=C Tryz.prog 1 (KT 60 e 37 tabC)
theorem rl_of{α:Type} [Rp α]{F c}: ∀(l:List α),(∀x∈l,Rp.rep F (c x) x)->RL F (l.flatMap c) l
 | [],_=>rfl
 |x::l,h=>⟨c x,l.flatMap c,V,h x (a0q ..),rl_of l fun y A=>h y (a0i _ A)⟩
theorem tab_rng: ∀x∈tabL,in64 x.f/\in64 x.w:=by decide
theorem tab_sr{F}(h:TB 37 tabC F):SR F (sL (some ⟨1,0,none⟩) tabL.length 37) tabL:=h.sr V (rl_of tabL fun x A=>⟨V,tab_rng x A⟩)
def aI(op:Int):InfT:=if 1<=op/\op<=37 then tabL.getD (op-1).toNat v_ else v_
def infO(op:Int):Bool:=decide (1<=op/\op<=37)
def aZ(op:Int):Int:=if op=1\/op=2\/op=3 then 1 else if op=9\/op=15\/op=16 then 2 else if op=10\/(17<=op/\op<=32) then 3 else if op=11\/op=12 then 4 else if op=6\/op=7\/op=8\/op=13\/op=33\/op=36\/op=37 then 5 else if op=14 then 6 else if op=34\/op=35 then 7 else if op=4\/op=5 then 8 else 0
def alV(op:Int):Bool:=decide (op=3\/op=6\/(9<=op/\op<=13)\/(15<=op/\op<=35)\/op=38)
def namesL:List Str:=[⟨[]⟩,⟨[110,111,112]⟩,⟨[114,101,116]⟩,⟨[116,105,99,107]⟩,⟨[116,114,97,112]⟩,⟨[106,109,112]⟩,⟨[99,97,108,108]⟩,⟨[106,122]⟩,⟨[106,110,122]⟩,⟨[111,117,116]⟩,⟨[109,111,118]⟩,⟨[99,109,111,118,122]⟩,⟨[99,109,111,118,110,122]⟩,⟨[108,100,105]⟩,⟨[108,100,99]⟩,⟨[110,101,103]⟩,⟨[110,111,116]⟩,⟨[97,100,100]⟩,⟨[115,117,98]⟩,⟨[109,117,108]⟩,⟨[100,105,118]⟩,⟨[114,101,109]⟩,⟨[97,110,100]⟩,⟨[111,114]⟩,⟨[120,111,114]⟩,⟨[115,104,108]⟩,⟨[115,104,114]⟩,⟨[115,97,114]⟩,⟨[101,113]⟩,⟨[110,101]⟩,⟨[108,116]⟩,⟨[108,101]⟩,⟨[108,116,117]⟩,⟨[97,100,100,105]⟩,⟨[108,100]⟩,⟨[115,116]⟩,⟨[108,100,115]⟩,⟨[115,116,115]⟩]
theorem infV_no{op:Int}(h: ¬(1<=op/\op<=37)):(⟨⟨[]⟩,0,false,false,false,false,0⟩:InfT)=aI op:=by unfold aI;rw[if_neg h];rfl
theorem infV_at{op:Int}(h:1<=op/\op<=37):tabL.getD (op-1).toNat v_=aI op:=by unfold aI;rw[if_pos h]
theorem infO_no{op:Int}(h: ¬(1<=op/\op<=37)):infO op=false:=decide_eq_false h
theorem infO_at{op:Int}(h:1<=op/\op<=37):infO op=true:=decide_eq_true h
theorem kt(op:Int):(aZ op=0/\¬(1<=op/\op<=37))\/(1<=aZ op/\aZ op<=8/\1<=op/\op<=37):=by unfold aZ;(repeat' split)<;>omega
instance :DecidableEq Str:=fun a b=>decidable_of_iff (a.b=b.b) ⟨fun h=>by cases a;cases b;simp_all,fun h=>by rw[h]⟩
instance :DecidableEq InfT:=fun a b=>decidable_of_iff ((a.name=b.name/\a.f=b.f/\a.ra=b.ra)/\(a.wa=b.wa/\a.rb=b.rb/\a.mt=b.mt/\a.w=b.w)) ⟨fun h=>by cases a;cases b;simp_all,fun h=>by rw[h];simp⟩
theorem ex37{op:Int}(A:1<=op/\op<=37): ∃k:Fin 37,op=(k.val:Int)+1:=⟨⟨(op-1).toNat,M⟩,by show op=((op-1).toNat:Int)+1;omega⟩
theorem bQ{op k r:Int}(h:op=k)(A:r=aZ k):r=aZ op:=by rw[h];exact A
theorem bL{op:Int}{b}(h:b=true↔(op=3\/op=6\/(9<=op/\op<=13)\/(15<=op/\op<=35)\/op=38)):b=alV op:=by unfold alV;cases b<;>simp_all
theorem pick_c(n:Int)(m:Int)(H:Heap)(T:0<m/\m<9223372036854775808):kKt ex 11 [n,m] H fun v H'=> ∃(r:Int),H'=H/\v=iI r/\r=bh n m:=by
 have E: -m<n.tmod m:=Int.lt_tmod_of_pos n T.1;have N:n.tmod m<m:=Int.tmod_lt_of_pos n T.1;refine aB Tryz.func11 V V (am 1 V (wT 2 [] 4 4 [] [(4,(iI 0))] V fun _=>wU 3 [] 5 7 [0] [(0,(Int.tmod n m))] (show m≠0 from by omega) V fun _=>wT 1 [] 8 9 [] [(9,(decide (Int.tmod n m<0)))] V fun _=>zi 0 2 (fun A=>?_) fun A=>?_))
 ·have c4:=A;try simp only[BS]at c4
  refine wU 2 [] 10 12 [0] [(0,(iI ((Int.tmod n m)+m)))] (vi (n:=(Int.tmod n m)+m)) V fun _=>wT 1 [] 4 4 [13] [(4,(iI ((Int.tmod n m)+m)))] V fun _=>ak ⟨.inr V,_,V,(Int.tmod n m)+m,V,V,(by simp only[bh,A,cond_true,cond_false])⟩
 refine wT 1 [] 4 4 [13] [(4,(Int.tmod n m))] V fun _=>ak ⟨.inr V,_,V,Int.tmod n m,V,V,(by simp only[bh,A,cond_true,cond_false])⟩
theorem eP(n:Int)(m:Int)(H:Heap)(A:0<m/\m<9223372036854775808):kKt ex 11 [n,m] H fun v H'=>v=(iI (bh n m))/\H'=H:=
 cq (pick_c ex n m H A) (by rintro _ _ ⟨_,rfl,rfl,rfl⟩;exact⟨V,V⟩)
theorem gZ(op:Int)(hs:HS (.of H []) F H [] R)(ai:in64 op)(hT:TB 37 tabC F):kKt ex 122 [op] H fun v H'=> ∃(x:InfT) (o:Bool),∃F',F.le F'/\HS (.of H []) F' H' [] R/\v= .tuple ⟨[.agg ⟨[tX x.name.b,iI x.f,.bool x.ra,.bool x.wa,.bool x.rb,.bool x.mt,iI x.w]⟩,.bool o]⟩/\in64 x.f/\in64 x.w/\x=aI op/\o=infO op:=by
 have tl:tabL.length=37:=rfl;refine aB Tryz.func122 V V (am 1 V (ab (zn hs V fun b1 H2 A=>za (.bool false) (ae 3 V ?_))));refine wT 1 [] 4 9 [] [(9,((decide (op<1))||(decide ((37:Int)<op))))] V fun _=>zI 1 2 (fun c4=>?_) fun c4=>?_
 ·refine sgr 1 3 3 [10] [(3,false)] (Hr_ 1 0 Hn_) A V V fun aa H5 E=>ak ⟨.inr V,_,(rC V (l7 V V (h_ E V) V) (rT V rN)),(⟨⟨[]⟩,0,false,false,false,false,0⟩:InfT),false,_,fR,(HS.forget E),V,M,M,(infV_no (op:=op) M),(infO_no (op:=op) M).symm⟩
 obtain⟨Z,T⟩:=Sv.view (SR.sv (tab_sr hT) A);obtain⟨U,a_⟩:=InfT.fx (T (op-1).toNat);refine sgr 1 11 15 [3] [(3,true)] (Hl_ 0 (ql 206 0 (TB.hc (hT.heap A)) V V) (Ha_ (vi (n:=op-1)) (Ha_ (Sv.ix (j:=op-1) (SR.sv (tab_sr hT) A)) (Hl_ 4 (qn 149 0 7 (InfT.vw (T (op-1).toNat)) V V V V) (Hr_ 5 0 Hn_))))) A V V fun ag H8 N=>ak ⟨.inr V,_,(rC V (l7 V V (h_ N V) V) (rT V rN)),(⟨⟨(tabL.getD (op-1).toNat v_).name.b⟩,(tabL.getD (op-1).toNat v_).f,(tabL.getD (op-1).toNat v_).ra,(tabL.getD (op-1).toNat v_).wa,(tabL.getD (op-1).toNat v_).rb,(tabL.getD (op-1).toNat v_).mt,(tabL.getD (op-1).toNat v_).w⟩:InfT),true,_,fR,(HS.forget N),V,M,M,(infV_at (op:=op) M),(infO_at (op:=op) M).symm⟩
theorem isBin_c(op:Int)(H:Heap):kKt ex 128 [op] H fun v H'=> ∃(r:Bool),H'=H/\v= .bool r/\r=decide (17<=op/\op<=32):=by refine aB Tryz.func128 V V (am 1 V (wT 2 [] 2 2 [] [(2,false)] V fun _=>wT 1 [] 2 8 [] [(2,((decide ((17:Int)<=op))&&(decide (op<=32))))] V fun _=>ak ⟨.inr V,_,V,((decide ((17:Int)<=op))&&(decide (op<=32))),V,V,(by rw[a0s];simp)⟩))
theorem iO(op:Int)(H:Heap):kKt ex 128 [op] H fun v H'=>v=(.bool (decide (17<=op/\op<=32)))/\H'=H:=
 cq (isBin_c ex op H) (by rintro _ _ ⟨_,rfl,rfl,rfl⟩;exact⟨V,V⟩)
theorem form_c(op:Int)(H:Heap):kKt ex 85 [op] H fun v H'=> ∃(r:Int),H'=H/\v=iI r/\r=aZ op:=by
 refine aB Tryz.func85 V V (am 1 V (wT 3 [] 2 2 [] [(2,(iI 0))] V fun _=>wT 4 [] 3 3 [] [(3,op)] V fun _=>wT 1 [] 4 5 [] [(4,(op==1))] V fun _=>zi 1 1 (fun aq=>?_) fun aq=>?_))
 ·have c4:=aq;try simp only[BS]at c4
  refine aX 1 (v:=(op==1)) V aq V V (wT 1 [] 2 2 [] [(2,(iI 1))] V fun _=>ak ⟨.inr V,_,V,1,V,V,(bQ X e_)⟩)
 have c4:=aq;try simp only[BS]at c4
 refine wT 1 [] 4 6 [] [(4,(op==2))] V fun _=>zi 1 0 (fun ar=>?_) fun ar=>?_
 ·have c7:=ar;try simp only[BS]at c7
  refine aX 1 (v:=(op==2)) V ar V V (wT 1 [] 2 2 [] [(2,(iI 1))] V fun _=>ak ⟨.inr V,_,V,1,V,V,(bQ X e_)⟩)
 have c7:=ar;try simp only[BS]at c7
 refine wT 1 [] 4 7 [] [(4,(op==3))] V fun _=>zI 1 2 (fun bb=>?_) fun bb=>?_
 ·refine wT 1 [] 2 2 [] [(2,(iI 1))] V fun _=>ak ⟨.inr V,_,V,1,V,V,(bQ X e_)⟩
 refine wT 1 [] 8 9 [] [(8,(op==4))] V fun _=>zi 1 0 (fun A=>?_) fun A=>?_
 ·have av:=A;try simp only[BS]at av
  refine aX 1 (v:=(op==4)) V A V V (wT 1 [] 2 2 [] [(2,(iI 8))] V fun _=>ak ⟨.inr V,_,V,8,V,V,(bQ X e_)⟩)
 have av:=A;try simp only[BS]at av
 refine wT 1 [] 8 10 [] [(8,(op==5))] V fun _=>zI 1 2 (fun bk=>?_) fun bk=>?_
 ·refine wT 1 [] 2 2 [] [(2,(iI 8))] V fun _=>ak ⟨.inr V,_,V,8,V,V,(bQ X e_)⟩
 refine wT 1 [] 11 12 [] [(11,(op==6))] V fun _=>zi 1 1 (fun E=>?_) fun E=>?_
 ·have aw:=E;try simp only[BS]at aw
  refine aX 1 (v:=(op==6)) V E V V (wT 1 [] 2 2 [] [(2,(iI 5))] V fun _=>ak ⟨.inr V,_,V,5,V,V,(bQ X e_)⟩)
 have aw:=E;try simp only[BS]at aw
 refine wT 1 [] 11 13 [] [(11,(op==7))] V fun _=>zi 1 1 (fun N=>?_) fun N=>?_
 ·have ax:=N;try simp only[BS]at ax
  refine aX 1 (v:=(op==7)) V N V V (wT 1 [] 2 2 [] [(2,(iI 5))] V fun _=>ak ⟨.inr V,_,V,5,V,V,(bQ X e_)⟩)
 have ax:=N;try simp only[BS]at ax
 refine wT 1 [] 11 14 [] [(11,(op==8))] V fun _=>zi 1 1 (fun T=>?_) fun T=>?_
 ·have ay:=T;try simp only[BS]at ay
  refine aX 1 (v:=(op==8)) V T V V (wT 1 [] 2 2 [] [(2,(iI 5))] V fun _=>ak ⟨.inr V,_,V,5,V,V,(bQ X e_)⟩)
 have ay:=T;try simp only[BS]at ay
 refine wT 1 [] 11 15 [] [(11,(op==13))] V fun _=>zi 1 1 (fun U=>?_) fun U=>?_
 ·have a1:=U;try simp only[BS]at a1
  refine aX 1 (v:=(op==13)) V U V V (wT 1 [] 2 2 [] [(2,(iI 5))] V fun _=>ak ⟨.inr V,_,V,5,V,V,(bQ X e_)⟩)
 have a1:=U;try simp only[BS]at a1
 refine wT 1 [] 11 16 [] [(11,(op==33))] V fun _=>zi 1 1 (fun a_=>?_) fun a_=>?_
 ·have a2:=a_;try simp only[BS]at a2
  refine aX 1 (v:=(op==33)) V a_ V V (wT 1 [] 2 2 [] [(2,(iI 5))] V fun _=>ak ⟨.inr V,_,V,5,V,V,(bQ X e_)⟩)
 have a2:=a_;try simp only[BS]at a2
 refine wT 1 [] 11 17 [] [(11,(op==36))] V fun _=>zi 1 0 (fun Z=>?_) fun Z=>?_
 ·have a3:=Z;try simp only[BS]at a3
  refine aX 1 (v:=(op==36)) V Z V V (wT 1 [] 2 2 [] [(2,(iI 5))] V fun _=>ak ⟨.inr V,_,V,5,V,V,(bQ X e_)⟩)
 have a3:=Z;try simp only[BS]at a3
 refine wT 1 [] 11 18 [] [(11,(op==37))] V fun _=>zI 1 2 (fun bl=>?_) fun bl=>?_
 ·refine wT 1 [] 2 2 [] [(2,(iI 5))] V fun _=>ak ⟨.inr V,_,V,5,V,V,(bQ X e_)⟩
 refine wT 1 [] 19 20 [] [(19,(op==9))] V fun _=>zi 1 1 (fun aa=>?_) fun aa=>?_
 ·have a4:=aa;try simp only[BS]at a4
  refine aX 1 (v:=(op==9)) V aa V V (wT 1 [] 2 2 [] [(2,(iI 2))] V fun _=>ak ⟨.inr V,_,V,2,V,V,(bQ X e_)⟩)
 have a4:=aa;try simp only[BS]at a4
 refine wT 1 [] 19 21 [] [(19,(op==15))] V fun _=>zi 1 0 (fun ag=>?_) fun ag=>?_
 ·have a5:=ag;try simp only[BS]at a5
  refine aX 1 (v:=(op==15)) V ag V V (wT 1 [] 2 2 [] [(2,(iI 2))] V fun _=>ak ⟨.inr V,_,V,2,V,V,(bQ X e_)⟩)
 have a5:=ag;try simp only[BS]at a5
 refine wT 1 [] 19 22 [] [(19,(op==16))] V fun _=>zI 1 2 (fun bt=>?_) fun bt=>?_
 ·refine wT 1 [] 2 2 [] [(2,(iI 2))] V fun _=>ak ⟨.inr V,_,V,2,V,V,(bQ X e_)⟩
 refine wT 1 [] 23 24 [] [(23,(op==11))] V fun _=>zi 1 0 (fun an=>?_) fun an=>?_
 ·have a7:=an;try simp only[BS]at a7
  refine aX 1 (v:=(op==11)) V an V V (wT 1 [] 2 2 [] [(2,(iI 4))] V fun _=>ak ⟨.inr V,_,V,4,V,V,(bQ X e_)⟩)
 have a7:=an;try simp only[BS]at a7
 refine wT 1 [] 23 25 [] [(23,(op==12))] V fun _=>zI 1 1 (fun bz=>?_) fun bz=>?_
 ·refine wT 1 [] 2 2 [] [(2,(iI 4))] V fun _=>ak ⟨.inr V,_,V,4,V,V,(bQ X e_)⟩
 refine wT 1 [] 26 27 [] [(26,(op==14))] V fun _=>zI 1 2 (fun b1=>?_) fun b1=>?_
 ·refine wT 1 [] 2 2 [] [(2,(iI 6))] V fun _=>ak ⟨.inr V,_,V,6,V,V,(bQ X e_)⟩
 refine wT 1 [] 28 29 [] [(28,(op==34))] V fun _=>zi 1 0 (fun ap=>?_) fun ap=>?_
 ·have a8:=ap;try simp only[BS]at a8
  refine aX 1 (v:=(op==34)) V ap V V (wT 1 [] 2 2 [] [(2,(iI 7))] V fun _=>ak ⟨.inr V,_,V,7,V,V,(bQ X e_)⟩)
 have a8:=ap;try simp only[BS]at a8
 refine wT 1 [] 28 30 [] [(28,(op==35))] V fun _=>zI 1 4 (fun b2=>?_) fun b2=>?_
 ·refine wT 1 [] 2 2 [] [(2,(iI 7))] V fun _=>ak ⟨.inr V,_,V,7,V,V,(bQ X e_)⟩
 refine wU 1 [(4,.o (.bool (decide (17<=op/\op<=32))))] 31 36 [] [(36,((op==10)||decide (17<=op/\op<=32)))] (fun(g1:(op==10)=false)=>(iO ex op H)) V fun _=>zI 1 2 (fun b3=>?_) fun b3=>?_
 ·refine wT 1 [] 2 2 [] [(2,(iI 3))] V fun _=>ak ⟨.inr V,_,V,3,V,V,(by(unfold aZ;(repeat' split)<;>omega))⟩
 refine wT 1 [] 2 2 [] [(2,(iI 0))] V fun _=>ak ⟨.inr V,_,V,0,V,V,(by(unfold aZ;(repeat' split)<;>omega))⟩
theorem nJ(op:Int)(H:Heap):kKt ex 85 [op] H fun v H'=>v=(iI (aZ op))/\H'=H:=
 cq (form_c ex op H) (by rintro _ _ ⟨_,rfl,rfl,rfl⟩;exact⟨V,V⟩)
theorem names_c(hs:Hb H F H [] R)(hT:TB 37 tabC F):kKt ex 127 [] H fun v H'=> ∃Z,∃(kr:Nat) (r:List Str),∃p F',F.le F'/\Hb H F' H' [p] R/\v=sL Z r.length kr/\OZ F' Z r kr p/\r=namesL:=by refine aB Tryz.func127 V V (am 1 V (wT 2 [] 0 0 [] [(0,N_)] V fun _=>ab (zlo ([⟨[]⟩,⟨[110,111,112]⟩,⟨[114,101,116]⟩,⟨[116,105,99,107]⟩,⟨[116,114,97,112]⟩,⟨[106,109,112]⟩,⟨[99,97,108,108]⟩,⟨[106,122]⟩,⟨[106,110,122]⟩,⟨[111,117,116]⟩,⟨[109,111,118]⟩,⟨[99,109,111,118,122]⟩,⟨[99,109,111,118,110,122]⟩,⟨[108,100,105]⟩,⟨[108,100,99]⟩,⟨[110,101,103]⟩,⟨[110,111,116]⟩,⟨[97,100,100]⟩,⟨[115,117,98]⟩,⟨[109,117,108]⟩,⟨[100,105,118]⟩,⟨[114,101,109]⟩,⟨[97,110,100]⟩,⟨[111,114]⟩,⟨[120,111,114]⟩,⟨[115,104,108]⟩,⟨[115,104,114]⟩,⟨[115,97,114]⟩,⟨[101,113]⟩,⟨[110,101]⟩,⟨[108,116]⟩,⟨[108,101]⟩,⟨[108,116,117]⟩,⟨[97,100,100,105]⟩,⟨[108,100]⟩,⟨[115,116]⟩,⟨[108,100,115]⟩,⟨[115,116,115]⟩]:List Str) hs V k_ V fun A k2 T U E N=>za (sL A ([⟨[]⟩,⟨[110,111,112]⟩,⟨[114,101,116]⟩,⟨[116,105,99,107]⟩,⟨[116,114,97,112]⟩,⟨[106,109,112]⟩,⟨[99,97,108,108]⟩,⟨[106,122]⟩,⟨[106,110,122]⟩,⟨[111,117,116]⟩,⟨[109,111,118]⟩,⟨[99,109,111,118,122]⟩,⟨[99,109,111,118,110,122]⟩,⟨[108,100,105]⟩,⟨[108,100,99]⟩,⟨[110,101,103]⟩,⟨[110,111,116]⟩,⟨[97,100,100]⟩,⟨[115,117,98]⟩,⟨[109,117,108]⟩,⟨[100,105,118]⟩,⟨[114,101,109]⟩,⟨[97,110,100]⟩,⟨[111,114]⟩,⟨[120,111,114]⟩,⟨[115,104,108]⟩,⟨[115,104,114]⟩,⟨[115,97,114]⟩,⟨[101,113]⟩,⟨[110,101]⟩,⟨[108,116]⟩,⟨[108,101]⟩,⟨[108,116,117]⟩,⟨[97,100,100,105]⟩,⟨[108,100]⟩,⟨[115,116]⟩,⟨[108,100,115]⟩,⟨[115,116,115]⟩]:List Str).length k2) ?_)));refine ae 1 V (ak ⟨.inr V,_,V,A,k2,([⟨[]⟩,⟨[110,111,112]⟩,⟨[114,101,116]⟩,⟨[116,105,99,107]⟩,⟨[116,114,97,112]⟩,⟨[106,109,112]⟩,⟨[99,97,108,108]⟩,⟨[106,122]⟩,⟨[106,110,122]⟩,⟨[111,117,116]⟩,⟨[109,111,118]⟩,⟨[99,109,111,118,122]⟩,⟨[99,109,111,118,110,122]⟩,⟨[108,100,105]⟩,⟨[108,100,99]⟩,⟨[110,101,103]⟩,⟨[110,111,116]⟩,⟨[97,100,100]⟩,⟨[115,117,98]⟩,⟨[109,117,108]⟩,⟨[100,105,118]⟩,⟨[114,101,109]⟩,⟨[97,110,100]⟩,⟨[111,114]⟩,⟨[120,111,114]⟩,⟨[115,104,108]⟩,⟨[115,104,114]⟩,⟨[115,97,114]⟩,⟨[101,113]⟩,⟨[110,101]⟩,⟨[108,116]⟩,⟨[108,101]⟩,⟨[108,116,117]⟩,⟨[97,100,100,105]⟩,⟨[108,100]⟩,⟨[115,116]⟩,⟨[108,100,115]⟩,⟨[115,116,115]⟩]:List Str),T,_,fR,(HS.only N (i:=0) V),V,E,m_⟩)
theorem rInfo_c(op:Int)(hs:Hb H F H [] R)(ds:in64 op)(hT:TB 37 tabC F):kKt ex 75 [op] H fun v H'=> ∃(x:InfT) (o:Bool),∃F',F.le F'/\Hb H F' H' [] R/\v= .tuple ⟨[.agg ⟨[tX x.name.b,iI x.f,.bool x.ra,.bool x.wa,.bool x.rb,.bool x.mt,iI x.w]⟩,.bool o]⟩/\in64 x.f/\in64 x.w/\x=aI op/\o=infO op:=by
 have nl:namesL.length=38:=rfl;refine aB Tryz.func75 V V (am 1 V (ab (zn hs V fun b1 H2 U=>za (.bool false) (ae 2 V ?_))));have dd:=kt op;refine wU 3 [(1,.o (iI (aZ op)))] 8 9 [4] [(4,(aZ op))] (nJ ex op H2) V fun _=>wT 1 [] 10 11 [] [(11,(aZ op==0))] V fun _=>zI 1 2 (fun c6=>?_) fun c6=>?_
 ·refine sgr 1 3 3 [12] [(3,false)] (Hr_ 1 0 Hn_) U V V fun dk H7 an=>ak ⟨.inr V,_,(rC V (l7 V V (h_ an V) V) (rT V rN)),(⟨⟨[]⟩,0,false,false,false,false,0⟩:InfT),false,_,fR,(HS.forget an),V,M,M,(infV_no (op:=op) M),(infO_no (op:=op) M).symm⟩
 refine ab (zc (names_c ex (HS.call U) hT) ?_);rintro _ H8 ⟨c7,dl,r8,p8,F8,a8,A,rfl,N,rfl⟩;replace A:=HS.back U V A;obtain⟨c8,a9⟩:=Sv.view (OS.sv N A (i:=1) V);refine bK 5 1 14 18 [] [(18,(aG [(tX (namesL.getD op.toNat v_).b),(aZ op),false,false,false,false,(iI 1)]))] (Ha_ (Sv.ix (j:=op) (OS.sv N A (i:=1) V)) (Hl_ 3 (ql 9 0 (vS (a9 op.toNat)) V V) Hn_)) K_ V fun _=>zn A V fun ag b9 aq=>sgo 1 7 1 0 [] [] (Hr_ 7 2 Hn_) aq V V fun bt cc T=>ae 3 V (wT 1 [] 19 20 [] [(20,(op==14))] V fun _=>ba (fun f H'=> ∃(w1:Int),∃F',F8.le F'/\Hb H F' H' [(fP b1 [(tX []),(iI 0),false,false,false,false,(iI 0)]),p8,(fP ag [(tX (namesL.getD op.toNat v_).b),(aZ op),false,false,false,false,w1])] R/\aA f [(0,op),(2,(pT b1 0)),(5,(pT ag 0))]/\(w1=if op=14 then 3 else 1)/\(in64 w1)) (fun Z=>?_) ?_)
 ·refine zI 0 0 (fun a7=>?_) fun a7=>?_
  ·refine sgr 0 21 21 [] [] (Hr_ 1 2 Hn_) T V V fun bz ch av=>?_
   exact Z _ _ ⟨3,_,fR,av,f_,M,M⟩
  exact Z _ _ ⟨1,_,fR,T,f_,M,M⟩
 skip;rintro c9 a2 ⟨w1,b8,ap,ar,E,hw,hwr⟩;refine au _ E (fun _=>?_);clear E;refine am 2 V (wT 2 [] 22 27 [6] [(6,((op==11)||(op==12)))] V fun _=>wT 2 [] 28 33 [7] [(7,((op==15)||(op==16)))] V fun _=>sgr 2 34 66 [] [] (Hc1_ 6 (fun _=>(iO ex op a2)) (Hr_ 33 2 Hn_)) ar V V fun b2 a3 aw=>sgr 2 67 99 [] [] (Hc1_ 6 (fun _=>(iO ex op a3)) (Hr_ 33 2 Hn_)) aw V V fun b3 a4 ax=>sgr 2 100 117 [] [] (Hc1_ 3 (fun _=>(iO ex op a4)) (Hr_ 18 2 Hn_)) ax V V fun b4 ci ay=>?_);refine sgr 2 118 136 [] [] (Hr_ 19 2 Hn_) ay V V fun b5 co a1=>sgr 1 3 3 [137] [(3,true)] (Hr_ 0 2 (Hr_ 1 0 Hn_)) a1 V V fun b6 c5 a_=>ak ⟨.inr V,_,(rC V (l7 V V (h_ a_ V) V) (rT V rN)),(⟨⟨(namesL.getD op.toNat v_).b⟩,aZ op,((((((((((op==11)||(op==12))||((op==15)||(op==16)))||decide (17<=op/\op<=32))||(op==7))||(op==8))||(op==9))||(op==33))||(op==35))||(op==37)),((((((((((op==11)||(op==12))||((op==15)||(op==16)))||decide (17<=op/\op<=32))||(op==10))||(op==13))||(op==14))||(op==33))||(op==34))||(op==36)),((((((op==11)||(op==12))||decide (17<=op/\op<=32))||(op==10))||(op==34))||(op==35)),(((((op==4)||(op==20))||(op==21))||(op==34))||(op==35)),w1⟩:InfT),true,_,(fT (a8) ap),(HS.forget a_),V,M,M,(by(rw[hw];obtain⟨k,hk⟩:=ex37 (op:=op) ⟨M,M⟩;rw[hk];clear hk;revert k;decide+kernel)),(infO_at (op:=op) M).symm⟩
theorem valw_c(op:Int)(H:Heap):kKt ex 131 [op] H fun v H'=> ∃(r:Bool),H'=H/\v= .bool r/\r=alV op:=by
 refine aB Tryz.func131 V V (am 1 V (wT 3 [] 2 2 [] [(2,false)] V fun _=>wT 4 [] 3 3 [] [(3,op)] V fun _=>wT 1 [] 4 5 [] [(4,(op==3))] V fun _=>zi 1 1 (fun ag=>?_) fun ag=>?_))
 ·have c4:=ag;try simp only[BS]at c4
  refine aX 1 (v:=(op==3)) V ag V V (wT 1 [] 2 2 [] [(2,true)] V fun _=>ak ⟨.inr V,_,V,true,V,V,(bL l_)⟩)
 have c4:=ag;try simp only[BS]at c4
 refine wT 1 [] 4 6 [] [(4,(op==6))] V fun _=>zi 1 1 (fun an=>?_) fun an=>?_
 ·have c7:=an;try simp only[BS]at c7
  refine aX 1 (v:=(op==6)) V an V V (wT 1 [] 2 2 [] [(2,true)] V fun _=>ak ⟨.inr V,_,V,true,V,V,(bL l_)⟩)
 have c7:=an;try simp only[BS]at c7
 refine wT 1 [] 4 7 [] [(4,(op==9))] V fun _=>zi 1 1 (fun A=>?_) fun A=>?_
 ·have ap:=A;try simp only[BS]at ap
  refine aX 1 (v:=(op==9)) V A V V (wT 1 [] 2 2 [] [(2,true)] V fun _=>ak ⟨.inr V,_,V,true,V,V,(bL l_)⟩)
 have ap:=A;try simp only[BS]at ap
 refine wT 1 [] 4 8 [] [(4,(op==10))] V fun _=>zi 1 1 (fun E=>?_) fun E=>?_
 ·have aq:=E;try simp only[BS]at aq
  refine aX 1 (v:=(op==10)) V E V V (wT 1 [] 2 2 [] [(2,true)] V fun _=>ak ⟨.inr V,_,V,true,V,V,(bL l_)⟩)
 have aq:=E;try simp only[BS]at aq
 refine wT 1 [] 4 9 [] [(4,(op==11))] V fun _=>zi 1 1 (fun N=>?_) fun N=>?_
 ·have ar:=N;try simp only[BS]at ar
  refine aX 1 (v:=(op==11)) V N V V (wT 1 [] 2 2 [] [(2,true)] V fun _=>ak ⟨.inr V,_,V,true,V,V,(bL l_)⟩)
 have ar:=N;try simp only[BS]at ar
 refine wT 1 [] 4 10 [] [(4,(op==12))] V fun _=>zi 1 1 (fun T=>?_) fun T=>?_
 ·have av:=T;try simp only[BS]at av
  refine aX 1 (v:=(op==12)) V T V V (wT 1 [] 2 2 [] [(2,true)] V fun _=>ak ⟨.inr V,_,V,true,V,V,(bL l_)⟩)
 have av:=T;try simp only[BS]at av
 refine wT 1 [] 4 11 [] [(4,(op==13))] V fun _=>zi 1 1 (fun U=>?_) fun U=>?_
 ·have aw:=U;try simp only[BS]at aw
  refine aX 1 (v:=(op==13)) V U V V (wT 1 [] 2 2 [] [(2,true)] V fun _=>ak ⟨.inr V,_,V,true,V,V,(bL l_)⟩)
 have aw:=U;try simp only[BS]at aw
 refine wT 1 [] 4 12 [] [(4,(op==33))] V fun _=>zi 1 1 (fun a_=>?_) fun a_=>?_
 ·have ax:=a_;try simp only[BS]at ax
  refine aX 1 (v:=(op==33)) V a_ V V (wT 1 [] 2 2 [] [(2,true)] V fun _=>ak ⟨.inr V,_,V,true,V,V,(bL l_)⟩)
 have ax:=a_;try simp only[BS]at ax
 refine wT 1 [] 4 13 [] [(4,(op==34))] V fun _=>zi 1 1 (fun Z=>?_) fun Z=>?_
 ·have ay:=Z;try simp only[BS]at ay
  refine aX 1 (v:=(op==34)) V Z V V (wT 1 [] 2 2 [] [(2,true)] V fun _=>ak ⟨.inr V,_,V,true,V,V,(bL l_)⟩)
 have ay:=Z;try simp only[BS]at ay
 refine wT 1 [] 4 14 [] [(4,(op==35))] V fun _=>zi 1 0 (fun aa=>?_) fun aa=>?_
 ·have a1:=aa;try simp only[BS]at a1
  refine aX 1 (v:=(op==35)) V aa V V (wT 1 [] 2 2 [] [(2,true)] V fun _=>ak ⟨.inr V,_,V,true,V,V,(bL l_)⟩)
 have a1:=aa;try simp only[BS]at a1
 refine wT 1 [] 4 15 [] [(4,(op==38))] V fun _=>zI 1 3 (fun a3=>?_) fun a3=>?_
 ·refine wT 1 [] 2 2 [] [(2,true)] V fun _=>ak ⟨.inr V,_,V,true,V,V,(bL l_)⟩
 refine wT 1 [] 16 21 [2] [(2,((decide ((15:Int)<=op))&&(decide (op<=32))))] V fun _=>ak ⟨.inr V,_,V,((decide ((15:Int)<=op))&&(decide (op<=32))),V,V,(bL l_)⟩
theorem ns(op:Int)(H:Heap):kKt ex 131 [op] H fun v H'=>v=(.bool (alV op))/\H'=H:=
 cq (valw_c ex op H) (by rintro _ _ ⟨_,rfl,rfl,rfl⟩;exact⟨V,V⟩)
theorem ralw_c(op:Int)(H:Heap):kKt ex 76 [op] H fun v H'=> ∃(r:Bool),H'=H/\v= .bool r/\r=alV op:=by
 refine aB Tryz.func76 V V (am 1 V (wT 3 [] 2 2 [] [(2,false)] V fun _=>wT 4 [] 3 3 [] [(3,op)] V fun _=>wT 1 [] 4 5 [] [(4,(op==3))] V fun _=>zi 1 1 (fun ag=>?_) fun ag=>?_))
 ·have c4:=ag;try simp only[BS]at c4
  refine aX 1 (v:=(op==3)) V ag V V (wT 1 [] 2 2 [] [(2,true)] V fun _=>ak ⟨.inr V,_,V,true,V,V,(bL l_)⟩)
 have c4:=ag;try simp only[BS]at c4
 refine wT 1 [] 4 6 [] [(4,(op==6))] V fun _=>zi 1 1 (fun an=>?_) fun an=>?_
 ·have c7:=an;try simp only[BS]at c7
  refine aX 1 (v:=(op==6)) V an V V (wT 1 [] 2 2 [] [(2,true)] V fun _=>ak ⟨.inr V,_,V,true,V,V,(bL l_)⟩)
 have c7:=an;try simp only[BS]at c7
 refine wT 1 [] 4 7 [] [(4,(op==9))] V fun _=>zi 1 1 (fun A=>?_) fun A=>?_
 ·have ap:=A;try simp only[BS]at ap
  refine aX 1 (v:=(op==9)) V A V V (wT 1 [] 2 2 [] [(2,true)] V fun _=>ak ⟨.inr V,_,V,true,V,V,(bL l_)⟩)
 have ap:=A;try simp only[BS]at ap
 refine wT 1 [] 4 8 [] [(4,(op==10))] V fun _=>zi 1 1 (fun E=>?_) fun E=>?_
 ·have aq:=E;try simp only[BS]at aq
  refine aX 1 (v:=(op==10)) V E V V (wT 1 [] 2 2 [] [(2,true)] V fun _=>ak ⟨.inr V,_,V,true,V,V,(bL l_)⟩)
 have aq:=E;try simp only[BS]at aq
 refine wT 1 [] 4 9 [] [(4,(op==11))] V fun _=>zi 1 1 (fun N=>?_) fun N=>?_
 ·have ar:=N;try simp only[BS]at ar
  refine aX 1 (v:=(op==11)) V N V V (wT 1 [] 2 2 [] [(2,true)] V fun _=>ak ⟨.inr V,_,V,true,V,V,(bL l_)⟩)
 have ar:=N;try simp only[BS]at ar
 refine wT 1 [] 4 10 [] [(4,(op==12))] V fun _=>zi 1 1 (fun T=>?_) fun T=>?_
 ·have av:=T;try simp only[BS]at av
  refine aX 1 (v:=(op==12)) V T V V (wT 1 [] 2 2 [] [(2,true)] V fun _=>ak ⟨.inr V,_,V,true,V,V,(bL l_)⟩)
 have av:=T;try simp only[BS]at av
 refine wT 1 [] 4 11 [] [(4,(op==13))] V fun _=>zi 1 1 (fun U=>?_) fun U=>?_
 ·have aw:=U;try simp only[BS]at aw
  refine aX 1 (v:=(op==13)) V U V V (wT 1 [] 2 2 [] [(2,true)] V fun _=>ak ⟨.inr V,_,V,true,V,V,(bL l_)⟩)
 have aw:=U;try simp only[BS]at aw
 refine wT 1 [] 4 12 [] [(4,(op==33))] V fun _=>zi 1 1 (fun a_=>?_) fun a_=>?_
 ·have ax:=a_;try simp only[BS]at ax
  refine aX 1 (v:=(op==33)) V a_ V V (wT 1 [] 2 2 [] [(2,true)] V fun _=>ak ⟨.inr V,_,V,true,V,V,(bL l_)⟩)
 have ax:=a_;try simp only[BS]at ax
 refine wT 1 [] 4 13 [] [(4,(op==34))] V fun _=>zi 1 1 (fun Z=>?_) fun Z=>?_
 ·have ay:=Z;try simp only[BS]at ay
  refine aX 1 (v:=(op==34)) V Z V V (wT 1 [] 2 2 [] [(2,true)] V fun _=>ak ⟨.inr V,_,V,true,V,V,(bL l_)⟩)
 have ay:=Z;try simp only[BS]at ay
 refine wT 1 [] 4 14 [] [(4,(op==35))] V fun _=>zi 1 0 (fun aa=>?_) fun aa=>?_
 ·have a1:=aa;try simp only[BS]at a1
  refine aX 1 (v:=(op==35)) V aa V V (wT 1 [] 2 2 [] [(2,true)] V fun _=>ak ⟨.inr V,_,V,true,V,V,(bL l_)⟩)
 have a1:=aa;try simp only[BS]at a1
 refine wT 1 [] 4 15 [] [(4,(op==38))] V fun _=>zI 1 3 (fun a3=>?_) fun a3=>?_
 ·refine wT 1 [] 2 2 [] [(2,true)] V fun _=>ak ⟨.inr V,_,V,true,V,V,(bL l_)⟩
 refine wT 1 [] 16 21 [2] [(2,((decide ((15:Int)<=op))&&(decide (op<=32))))] V fun _=>ak ⟨.inr V,_,V,((decide ((15:Int)<=op))&&(decide (op<=32))),V,V,(bL l_)⟩
theorem nD(op:Int)(H:Heap):kKt ex 76 [op] H fun v H'=>v=(.bool (alV op))/\H'=H:=
 cq (ralw_c ex op H) (by rintro _ _ ⟨_,rfl,rfl,rfl⟩;exact⟨V,V⟩)
end m1
open m1
namespace m2
open Go.R m1
def bg(regs n:Int):Bool:=decide (0<=n/\n<regs)
def aK(op:Int):Int:=if op=38 then 5 else(aI op).f
def aD(op:Int):InfT:=if op=38 then⟨⟨[]⟩,5,false,true,false,false,0⟩ else aI op
def fD(A:Bool)(n regs:Int):Bool:=bif A then bg regs n else decide (n=0)
def gO(params op n:Int):Bool:=if op=13 then true else if op=33 then decide (-4194304<=n/\n<4194304) else if op=6 then decide (0<=n/\n<8) else if op=34\/op=35 then decide (0<=n/\n<4) else if op=38 then decide (0<=n/\n<params) else decide (n=0)
def eV(params regs:Int)(v:VInT):Bool:=
 alV v.i.op&&decide (v.i.op=6\/v.args.length=0)&&decide (v.args.length<=6)&&v.args.all (bg regs)&&fD (decide (aK v.i.op≠1)) v.i.a regs&&
  fD (decide (aK v.i.op=3\/aK v.i.op=4\/aK v.i.op=7)) v.i.b regs&&fD (decide (aK v.i.op=4)) v.i.c regs&&gO params v.i.op v.i.n
def vendV(nb regs:Int)(b:BlkT):Bool:=
 if b.f=1 then bg nb b.t&&decide (b.e=0)&&decide (b.r=0)
 else if b.f=2 then bg nb b.t&&bg nb b.e&&bg regs b.r
 else if b.f=3 then bg regs b.r&&decide (b.t=0)&&decide (b.e=0)
 else if b.f=4 then decide (1<=b.t/\b.t<33554432)&&decide (b.e=0)&&decide (b.r=0) else false
def jZ(params regs nb:Int)(b:BlkT):Bool:=b.v.all (eV params regs)&&vendV nb regs b
def cb(c:VFnT):Bool:=decide (0<=c.m/\c.m<=6/\0<=c.r/\c.r<=3000/\1<=c.u.length/\c.u.length<=1000)&&c.u.all (jZ c.m c.r c.u.length)
theorem bm{op:Int}(h:alV op=true):(op=3/\aK op=1)\/((op=6\/op=13\/op=33\/op=38)/\aK op=5)\/((op=9\/op=15\/op=16)/\aK op=2)\/((op=10\/(17<=op/\op<=32))/\aK op=3)\/((op=11\/op=12)/\aK op=4)\/((op=34\/op=35)/\aK op=7):=by
 unfold alV at h;have h:=of_decide_eq_true h;have e: ∃k:Fin 39,op=(k.val:Int):=⟨⟨op.toNat,M⟩,by simp;omega⟩
 obtain⟨k,rfl⟩:=e;revert k;decide
theorem ce{α:Type} [Inhabited α]{p:α->Bool}{l:List α}: ∀j,j<0->p (l.getD j default)=true:=fun j h=>by omega
theorem bw{α:Type} [Inhabited α]{p:α->Bool}{l:List α}{k:Nat}(h: ∀j,j<k->p (l.getD j default)=true)(c:p (l.getD k default)=true): ∀j,j<k+1->p (l.getD j default)=true:=fun j E=>by
 rcases Nat.lt_succ_iff_lt_or_eq.1 E with A|rfl
 ·exact h j A
 exact c
theorem cz{α:Type} [Inhabited α]{p:α->Bool}{l:List α}{k:Nat}(h: ∀j,j<k->p (l.getD j default)=true)(N:l.length<=k):l.all p=true:=by rw[a0t];intro x E;obtain⟨j,A,rfl⟩:=a0x.1 E;have:=h j M;rwa [a03,a06 A]at this
theorem lS{α:Type} [Inhabited α]{p:α->Bool}{l:List α}(h:l.all p=true){k:Nat}(A:k<l.length):p (l.getD k default)=true:=a0t.1 h _ (by rw[a03,a06 A];exact a0T A)
theorem ct{α:Type} [Inhabited α]{p:α->Bool}{l:List α}{k:Nat}(A:k<l.length)(c:p (l.getD k default)=false):l.all p=false:=by
 cases h:l.all p with
 |false=>rfl
 |true=>rw[lS h A]at c;cases c
theorem vin_no{params regs:Int}{v}(h:v.args.all (bg regs)=false):false=eV params regs v:=by unfold eV;rw[h];simp
theorem vin_bad2{params regs:Int}{v}(h:(alV v.i.op=false\/v.i.op≠6/\0<(v.args.length:Int))\/6<(v.args.length:Int)):false=eV params regs v:=by
 unfold eV;rcases h with(h|⟨h,A⟩)|h
 ·rw[h];simp
 ·rw[decide_eq_false (p:=v.i.op=6\/v.args.length=0) M];simp
 rw[decide_eq_false (p:=v.args.length<=6) M];simp
theorem vinf_form{op:Int}:(aD op).f=aK op:=by unfold aD aK;split<;>rfl
theorem bd{r n:Int}:bg r n=true↔0<=n/\n<r:=by unfold bg;exact decide_eq_true_iff
theorem dD{r n:Int}:bg r n=false↔ ¬(0<=n/\n<r):=by unfold bg;exact decide_eq_false_iff_not
theorem bY{nb regs:Int}{b}:vendV nb regs b=true↔(b.f=1/\0<=b.t/\b.t<nb/\b.e=0/\b.r=0\/b.f=2/\0<=b.t/\b.t<nb/\0<=b.e/\b.e<nb/\0<=b.r/\b.r<regs\/b.f=3/\0<=b.r/\b.r<regs/\b.t=0/\b.e=0\/b.f=4/\1<=b.t/\b.t<33554432/\b.e=0/\b.r=0):=by
 unfold vendV
 (repeat' split)<;>(try simp only[a0a,bd,decide_eq_true_eq])<;>first|omega|(simp only[a0M,false_iff];omega)
theorem vin_bad{params regs:Int}{v}(h:(alV v.i.op=false\/6<(v.args.length:Int))\/(¬v.i.op=6/\0<(v.args.length:Int))):false=eV params regs v:=by
 unfold eV;rcases h with(h|h)|⟨h,A⟩
 ·rw[h];simp
 ·rw[decide_eq_false (p:=v.args.length<=6) M];simp
 rw[decide_eq_false (p:=v.i.op=6\/v.args.length=0) M];simp
theorem imm0{params op n:Int}(h:op=3\/op=9\/op=15\/op=16\/op=10\/(17<=op/\op<=32)\/op=11\/op=12):gO params op n=decide (n=0):=by unfold gO;rw[if_neg M,if_neg M,if_neg M,if_neg M,if_neg M]
def badV(A bv E nv:Bool)(regs a b c n:Int):Bool:=
 ((((((((A&&(!(bg regs a)))||(bv&&(!(bg regs b))))||(E&&(!(bg regs c))))||((!A)&&(a !=0)))||((!bv)&&(b !=0)))||((!E)&&(c !=0)))||((!nv)&&(n !=0))))
theorem bad_eq(av bv dv nv:Bool)(regs a b c n:Int):badV av bv dv nv regs a b c n= !(fD av a regs&&fD bv b regs&&fD dv c regs&&(nv||decide (n=0))):=by
 have aa: ∀n:Int,(n !=0)= !decide (n=0):=fun n=>by by_cases h:n=0<;>simp[h]
 unfold badV fD;rw[aa,aa,aa,aa];generalize decide (a=0)=A;generalize decide (b=0)=E;generalize decide (c=0)=N;generalize decide (n=0)=T;generalize bg regs a=U;generalize bg regs b=a_;generalize bg regs c=Z;revert av bv dv nv A E N T U a_ Z;decide
section
variable {params regs:Int} {v:VInT}
theorem imm_form(A:alV v.i.op=true)(h:(decide (aK v.i.op=5\/aK v.i.op=7)||decide (v.i.n=0))=false):gO params v.i.op v.i.n=false:=by rw[a1i,decide_eq_false_iff_not,decide_eq_false_iff_not]at h;rw[imm0 (by have:=bm A;omega)];exact decide_eq_false h.2
theorem nq(N:alV v.i.op=true)(A:v.i.op=6\/v.args.length=0)(T:v.args.length<=6)(E:v.args.all (bg regs)=true):eV params regs v=
  (fD (decide (aK v.i.op≠1)) v.i.a regs&&fD (decide (aK v.i.op=3\/aK v.i.op=4\/aK v.i.op=7)) v.i.b regs&&fD (decide (aK v.i.op=4)) v.i.c regs&&gO params v.i.op v.i.n):=by
 unfold eV
 rw[N,E,decide_eq_true A,decide_eq_true T];simp
theorem vin_bad3(E:alV v.i.op=true)(A:v.i.op=6\/v.args.length=0)(T:v.args.length<=6)(N:v.args.all (bg regs)=true)
  (h:badV (decide (aK v.i.op≠1)) (decide (aK v.i.op=3\/aK v.i.op=4\/aK v.i.op=7)) (decide (aK v.i.op=4)) (decide (aK v.i.op=5\/aK v.i.op=7)) regs v.i.a v.i.b v.i.c v.i.n=true):false=eV params regs v:=by
 rw[nq E A T N]
 rw[bad_eq,a0F,Bool.and_eq_false_iff]at h
 rcases h with h|h
 ·rw[h];rfl
 rw[imm_form E h,a1N]
theorem vin_good3(T:alV v.i.op=true)(E:v.i.op=6\/v.args.length=0)(U:v.args.length<=6)(N:v.args.all (bg regs)=true)
  (h:badV (decide (aK v.i.op≠1)) (decide (aK v.i.op=3\/aK v.i.op=4\/aK v.i.op=7)) (decide (aK v.i.op=4)) (decide (aK v.i.op=5\/aK v.i.op=7)) regs v.i.a v.i.b v.i.c v.i.n=false):
  eV params regs v=gO params v.i.op v.i.n/\(aK v.i.op=5\/aK v.i.op=7\/v.i.n=0):=by
 rw[nq T E U N]
 rw[bad_eq,a26,a0a]at h
 refine⟨by rw[h.1,a1p],?_⟩
 have A:=h.2
 rw[a0C,decide_eq_true_eq,decide_eq_true_eq]at A
 omega
theorem vin_bad3v{N bv T nv}(U:alV v.i.op=true)(A:v.i.op=6\/v.args.length=0)(hl:v.args.length<=6)(E:v.args.all (bg regs)=true)(Z:N=decide (aK v.i.op≠1))(hb:bv=decide (aK v.i.op=3\/aK v.i.op=4\/aK v.i.op=7))(hd:T=decide (aK v.i.op=4))(hn:nv=decide (aK v.i.op=5\/aK v.i.op=7))
  (h:badV N bv T nv regs v.i.a v.i.b v.i.c v.i.n=true):false=eV params regs v:=by subst Z hb hd hn;exact vin_bad3 U A hl E h
theorem vin_good3v{N bv T nv}(U:alV v.i.op=true)(A:v.i.op=6\/v.args.length=0)(hl:v.args.length<=6)(E:v.args.all (bg regs)=true)(Z:N=decide (aK v.i.op≠1))(hb:bv=decide (aK v.i.op=3\/aK v.i.op=4\/aK v.i.op=7))(hd:T=decide (aK v.i.op=4))(hn:nv=decide (aK v.i.op=5\/aK v.i.op=7))
  (h:badV N bv T nv regs v.i.a v.i.b v.i.c v.i.n=false):eV params regs v=gO params v.i.op v.i.n/\(aK v.i.op=5\/aK v.i.op=7\/v.i.n=0):=by subst Z hb hd hn;exact vin_good3 U A hl E h
theorem dP(U:alV v.i.op=true)(Z:aK v.i.op=5\/aK v.i.op=7\/v.i.n=0)(A: ¬v.i.op=33)(E: ¬v.i.op=6)(N: ¬(v.i.op=34\/v.i.op=35))(T: ¬v.i.op=38):gO params v.i.op v.i.n=true:=by
 unfold gO;rw[if_neg A,if_neg E,if_neg N,if_neg T];split
 ·rfl
 have:=bm U;exact decide_eq_true M
theorem refbad_eq:((!(fD ((aD v.i.op).f !=1) v.i.a regs))||(!(fD ((((aD v.i.op).f==3)||((aD v.i.op).f==4))||((aD v.i.op).f==7)) v.i.b regs))||(!(fD ((aD v.i.op).f==4) v.i.c regs)))=
  !(fD (decide (aK v.i.op≠1)) v.i.a regs&&fD (decide (aK v.i.op=3\/aK v.i.op=4\/aK v.i.op=7)) v.i.b regs&&fD (decide (aK v.i.op=4)) v.i.c regs):=by
 rw[vinf_form]
 have A:(aK v.i.op !=1)=decide (aK v.i.op≠1):=by by_cases h:aK v.i.op=1<;>simp[h]
 have E:(((aK v.i.op==3)||(aK v.i.op==4))||(aK v.i.op==7))=decide (aK v.i.op=3\/aK v.i.op=4\/aK v.i.op=7):=by rw[a0s];simp[or_assoc]
 have N:(aK v.i.op==4)=decide (aK v.i.op=4):=by by_cases h:aK v.i.op=4<;>simp[h]
 rw[A,E,N,Bool.not_and,Bool.not_and]
theorem vin_rbad(N:alV v.i.op=true)(A:v.i.op=6\/v.args.length=0)(T:v.args.length<=6)(E:v.args.all (bg regs)=true)
  (h:((!(fD ((aD v.i.op).f !=1) v.i.a regs))||(!(fD ((((aD v.i.op).f==3)||((aD v.i.op).f==4))||((aD v.i.op).f==7)) v.i.b regs))||(!(fD ((aD v.i.op).f==4) v.i.c regs)))=true):false=eV params regs v:=by
 rw[refbad_eq,a0F]at h
 rw[nq N A T E,h];rfl
theorem vin_rgood(N:alV v.i.op=true)(A:v.i.op=6\/v.args.length=0)(T:v.args.length<=6)(E:v.args.all (bg regs)=true)
  (h:((!(fD ((aD v.i.op).f !=1) v.i.a regs))||(!(fD ((((aD v.i.op).f==3)||((aD v.i.op).f==4))||((aD v.i.op).f==7)) v.i.b regs))||(!(fD ((aD v.i.op).f==4) v.i.c regs)))=false):eV params regs v=gO params v.i.op v.i.n:=by
 rw[refbad_eq,a26]at h
 rw[nq N A T E,h,a1p]
end
theorem blk_no{params regs nb:Int}{b}(h:b.v.all (eV params regs)=false):jZ params regs nb b=false:=by unfold jZ;rw[h,a1y]
theorem fM{params regs nb:Int}{b}(h:vendV nb regs b=false):jZ params regs nb b=false:=by unfold jZ;rw[h,a1N]
theorem jz{params regs nb:Int}{b}(h:b.v.all (eV params regs)=true)(A:vendV nb regs b=true):jZ params regs nb b=true:=by unfold jZ;rw[h,A];rfl
theorem jB{c}(h:c.u.all (jZ c.m c.r c.u.length)=false):false=cb c:=by unfold cb;rw[h,a1N]
theorem val_lim{c}(h: ¬(0<=c.m/\c.m<=6/\0<=c.r/\c.r<=3000/\1<=c.u.length/\c.u.length<=1000)):false=cb c:=by unfold cb;rw[decide_eq_false h,a1y]
theorem val_yes{c}(h:0<=c.m/\c.m<=6/\0<=c.r/\c.r<=3000/\1<=c.u.length/\c.u.length<=1000)(A:c.u.all (jZ c.m c.r c.u.length)=true):true=cb c:=by unfold cb;rw[decide_eq_true h,A];rfl
end m2
open m2
namespace m3
variable (ex:FuncId) {F:Fz} {H:Heap} {R:List Fp}
theorem cBlk_c(n:Int){A E U}(c:VFnT)(H:Heap)(hn:in64 n)(Z:HC H.get U 0 [c.m,c.r,(S_ A c.u E)])(N:in64 c.m)(T:in64 c.r):kKt ex 109 [n,(pT U 0)] H fun v H'=> ∃(r:Bool),H'=H/\v= .bool r/\r=bg (c.u.length:Int) n:=by refine aB Tryz.func109 V V (am 1 V (wT 2 [] 3 3 [] [(3,false)] V fun _=>wrp 1 3 12 [] [(3,((decide ((0:Int)<=n))&&(decide (n<(c.u.length:Int)))))] (bp 5 (fun _=>(ql 34 2 Z V V)) Hn_) V V fun _=>ak ⟨.inr V,_,V,((decide ((0:Int)<=n))&&(decide (n<(c.u.length:Int)))),V,V,(by rw[a0s,bd];simp)⟩))
theorem nV(n:Int){A T U}(c:VFnT)(H:Heap)(hn:in64 n)(Z:HC H.get U 0 [c.m,c.r,(S_ A c.u T)])(E:in64 c.m)(N:in64 c.r):kKt ex 109 [n,(pT U 0)] H fun v H'=>v=(.bool (bg (c.u.length:Int) n))/\H'=H:=
 cq (cBlk_c ex n c H hn Z E N) (by rintro _ _ ⟨_,rfl,rfl,rfl⟩;exact⟨V,V⟩)
theorem cReg_c(n:Int){A E U}(c:VFnT)(H:Heap)(hn:in64 n)(Z:HC H.get U 0 [c.m,c.r,(S_ A c.u E)])(N:in64 c.m)(T:in64 c.r):kKt ex 110 [n,(pT U 0)] H fun v H'=> ∃(r:Bool),H'=H/\v= .bool r/\r=bg c.r n:=by refine aB Tryz.func110 V V (am 1 V (wT 2 [] 3 3 [] [(3,false)] V fun _=>wrp 1 3 11 [] [(3,((decide ((0:Int)<=n))&&(decide (n<c.r))))] (bp 5 (fun _=>(ql 3 1 Z V V)) Hn_) V V fun _=>ak ⟨.inr V,_,V,((decide ((0:Int)<=n))&&(decide (n<c.r))),V,V,(by rw[a0s,bd];simp)⟩))
theorem cReg_c_q(n:Int){A T U}(c:VFnT)(H:Heap)(hn:in64 n)(Z:HC H.get U 0 [c.m,c.r,(S_ A c.u T)])(E:in64 c.m)(N:in64 c.r):kKt ex 110 [n,(pT U 0)] H fun v H'=>v=(.bool (bg c.r n))/\H'=H:=
 cq (cReg_c ex n c H hn Z E N) (by rintro _ _ ⟨_,rfl,rfl,rfl⟩;exact⟨V,V⟩)
theorem cRegI_c(n:Int){A E U}(c:VFnT)(H:Heap)(hn:in64 n)(Z:HC H.get U 0 [c.m,c.r,(S_ A c.u E)])(N:in64 c.m)(T:in64 c.r):kKt ex 137 [n,(pT U 0)] H fun v H'=> ∃(r:Bool),H'=H/\v= .bool r/\r=bg c.r n:=by refine aB Tryz.func137 V V (am 1 V (wT 2 [] 3 3 [] [(3,false)] V fun _=>wrp 1 3 11 [] [(3,((decide ((0:Int)<=n))&&(decide (n<c.r))))] (bp 5 (fun _=>(ql 3 1 Z V V)) Hn_) V V fun _=>ak ⟨.inr V,_,V,((decide ((0:Int)<=n))&&(decide (n<c.r))),V,V,(by rw[a0s,bd];simp)⟩))
theorem iW(n:Int){A T U}(c:VFnT)(H:Heap)(hn:in64 n)(Z:HC H.get U 0 [c.m,c.r,(S_ A c.u T)])(E:in64 c.m)(N:in64 c.r):kKt ex 137 [n,(pT U 0)] H fun v H'=>v=(.bool (bg c.r n))/\H'=H:=
 cq (cRegI_c ex n c H hn Z E N) (by rintro _ _ ⟨_,rfl,rfl,rfl⟩;exact⟨V,V⟩)
theorem vform_c(op:Int)(hs:Hb H F H [] R)(ad:in64 op)(hT:TB 37 tabC F):kKt ex 138 [op] H fun v H'=> ∃(r:Int),∃F',F.le F'/\Hb H F' H' [] R/\v=iI r/\r=aK op:=by
 refine aB Tryz.func138 V V (am 1 V (wT 3 [] 2 2 [] [(2,(iI 0))] V fun _=>wT 1 [] 5 6 [] [(6,(op==38))] V fun _=>zI 1 2 (fun c3=>?_) fun c3=>?_))
 ·refine wT 1 [] 2 2 [] [(2,(iI 5))] V fun _=>ak ⟨.inr V,_,V,5,_,fR,(HS.forget hs),V,(by unfold aK;split<;>first|rfl|omega)⟩
 refine ab (zm (iI op) (zc (m1.gZ ex op (HS.call hs) M hT) ?_));rintro _ H5 ⟨x5,o5,F5,N,A,rfl,T,U,rfl,rfl⟩;replace A:=HS.back hs V A;refine bK 3 2 10 11 [7] [(10,(aG [(tX (aI op).name.b),(aI op).f,(.bool (aI op).ra),(.bool (aI op).wa),(.bool (aI op).rb),(.bool (aI op).mt),(aI op).w])),(11,(infO op))] Hn_ K_ V fun _=>zn A V fun b7 H8 a_=>sgo 2 6 1 0 [4] [] (Hr_ 6 0 Hn_) a_ V V fun Z H9 E=>ae 2 V (aU 1 12 13 [2] [(2,(aI op).f)] (Hr_ 1 0 Hn_) E V V fun _=>ak ⟨.inr V,_,V,(aI op).f,_,(N),(HS.forget E),V,(by unfold aK;split<;>first|rfl|omega)⟩)
theorem nB(op:Int)(hs:Hb H F H [] R)(al:in64 op)(hT:TB 37 tabC F):kKt ex 108 [op] H fun v H'=> ∃(x:InfT),∃F',F.le F'/\Hb H F' H' [] R/\v= .agg ⟨[tX x.name.b,iI x.f,.bool x.ra,.bool x.wa,.bool x.rb,.bool x.mt,iI x.w]⟩/\in64 x.f/\in64 x.w/\x=aD op:=by
 refine aB Tryz.func108 V V (am 1 V (ab (zn hs V fun b1 H2 E=>ae 3 V (wT 1 [] 5 6 [] [(6,(op==38))] V fun _=>?_))));refine zI 1 2 (fun c4=>?_) fun c4=>?_
 ·refine sgr 1 7 7 [] [] (Hr_ 1 0 Hn_) E V V fun av H5 T=>ak ⟨.inr V,_,(rC V (l7 V V (h_ T V) V) rN),(⟨⟨[]⟩,5,false,true,false,false,0⟩:InfT),_,fR,(HS.forget T),V,M,M,(by unfold aD;split<;>first|rfl|omega)⟩
 refine ab (zm (iI op) (zc (m1.rInfo_c ex op (HS.call E) M hT) ?_));rintro _ H6 ⟨x6,o6,F6,a_,N,rfl,Z,aa,rfl,rfl⟩;replace N:=HS.back E V N;refine bK 3 2 11 12 [8] [(11,(aG [(tX (aI op).name.b),(aI op).f,(.bool (aI op).ra),(.bool (aI op).wa),(.bool (aI op).rb),(.bool (aI op).mt),(aI op).w])),(12,(infO op))] Hn_ K_ V fun _=>zn N V fun b8 H9 ag=>sgo 2 6 1 0 [4] [] (Hr_ 6 1 Hn_) ag V V fun an aq U=>ae 2 V (sgr 1 13 13 [] [] (Hr_ 0 1 (Hr_ 1 0 Hn_)) U V V fun ap ar A=>ak ⟨.inr V,_,(rC V (l7 V V (h_ A V) V) rN),(⟨⟨(aI op).name.b⟩,(aI op).f,(aI op).ra,(aI op).wa,(aI op).rb,(aI op).mt,(aI op).w⟩:InfT),_,(a_),(HS.forget A),V,M,M,(by unfold aD;split<;>first|rfl|omega)⟩)
theorem rOperand_c(E:Bool)(n:Int)(regs:Int)(H:Heap)(T:in64 n)(N:in64 regs):kKt ex 134 [E,n,regs] H fun v H'=> ∃(r:Bool),H'=H/\v= .bool r/\r=fD E n regs:=by
 refine aB Tryz.func134 V V (am 1 V (wT 3 [] 6 6 [] [(6,false)] V fun _=>wT 1 [] 7 7 [] [(7,E)] V fun _=>zi 1 2 (fun A=>?_) fun A=>?_))
 ·have c3:=A;try simp only[BS]at c3
  refine wT 1 [] 8 14 [6] [(6,((decide ((0:Int)<=n))&&(decide (n<regs))))] V fun _=>ak ⟨.inr V,_,V,((decide ((0:Int)<=n))&&(decide (n<regs))),V,V,(by rw[a0s];unfold fD;simp[bd,A])⟩
 refine wT 1 [] 15 16 [6] [(6,(n==0))] V fun _=>ak ⟨.inr V,_,V,(n==0),V,V,(by rw[a0s];unfold fD;simp[bd,A])⟩
theorem gi(A:Bool)(n:Int)(regs:Int)(H:Heap)(N:in64 n)(E:in64 regs):kKt ex 134 [A,n,regs] H fun v H'=>v=(.bool (fD A n regs))/\H'=H:=
 cq (rOperand_c ex A n regs H N E) (by rintro _ _ ⟨_,rfl,rfl,rfl⟩;exact⟨V,V⟩)
theorem vinstr_c{ax a1}(c:VFnT){ag aq}(iv:VInT)(hs:Hb H F H [] R)(ez:in64 c.m)(e0:in64 c.r)(e1:Sr F ax c.u a1)(dl:in64 iv.i.op)(dn:in64 iv.i.a)(ds:in64 iv.i.b)(dt:in64 iv.i.c)(d1:in64 iv.i.n)(a_:Sr F ag iv.args aq)(hT:TB 37 tabC F):kKt ex 111 [(aG [c.m,c.r,(S_ ax c.u a1)]),(aG [iv.i.op,iv.i.a,iv.i.b,iv.i.c,iv.i.n,(S_ ag iv.args aq)])] H fun v H'=> ∃(r:Bool),∃F',F.le F'/\Hb H F' H' [] R/\v= .bool r/\r=eV c.m c.r iv:=by
 refine aB Tryz.func111 V V (am 1 V (ab (aT (aN hs V V) V V ?_)));rintro _ H2 _ ⟨b1,rfl,dd,_⟩;refine aT (aN dd V V) V V ?_;rintro _ H4 _ ⟨b3,rfl,bl,_⟩;let aw:Value:=iI iv.i.op;refine za (.bool false) (ae 2 V (ab (aS 2 0 13 14 [] [(14,(aG [aw,iv.i.a,iv.i.b,iv.i.c,iv.i.n]))] (Hr_ 1 1 Hn_) bl V V fun _=>zn bl V fun b6 H7 dk=>sgo 1 3 1 0 [] [] (Hr_ 3 2 Hn_) dk V V fun fi H8 aa=>?_)));refine ae 3 V (aU 1 15 35 [] [(35,(((!(alV iv.i.op))||(decide ((6:Int)<(iv.args.length:Int))))||((iv.i.op !=6)&&(decide ((0:Int)<(iv.args.length:Int))))))] (Hr_ 1 2 (Hc_ 2 (m1.ns ex iv.i.op H8) (bp 6 (fun _=>(ql 22 5 (i_ aa V) V V)) (bp 12 (fun _=>(ql 3 0 (j_ aa V) V V)) (iu 16 (fun _ _=>(ql 22 5 (i_ aa V) V V)) Hn_))))) aa V V fun _=>zI 1 2 (fun a3=>?_) fun a3=>?_)
 ·have f1:=a3;refine wT 1 [] 4 4 [] [(4,false)] V fun _=>ak ⟨.inr V,_,V,false,_,fR,(HS.forget aa),V,(vin_bad f1)⟩
 have ai:alV iv.i.op=true:=(a3).1.1;have h6:iv.i.op=6\/iv.args.length=0:=M
 have bk:iv.args.length<=6:=M
 let a9:Value:=sL ag iv.args.length aq;refine wT 3 [] 36 36 [6] [(6,(.func (.func 137) #[] #[(pT b1 0)]))] V fun _=>aU 2 37 40 [] [(38,a9),(39,(iv.args.length:Int)),(40,(iI 0))] (Hr_ 1 1 Hn_) aa V V fun _=>aj (fun(mm:Nat) f H'=> ∃(k:Nat),∃F',F.le F'/\Hb H F' H' [(fP b1 [c.m,c.r,(S_ ax c.u a1)]),(fP b3 [aw,iv.i.a,iv.i.b,iv.i.c,iv.i.n,a9]),(fP b6 [aw,iv.i.a,iv.i.b,iv.i.c,iv.i.n])] R/\aA f [(2,(pT b1 0)),(5,(pT b6 0)),(6,(.func (.func 137) #[] #[(pT b1 0)])),(38,a9),(39,(iv.args.length:Int)),(40,(k:Int))]/\mm=iv.args.length-k/\(k<=iv.args.length)/\(∀j,j<k->bg c.r (iv.args.getD j v_)=true)) _ ⟨0,_,fR,aa,f_,V,M,(ce)⟩ ?_
 rintro e2 e5 b2 ⟨k,e3,E,N,a5,rfl,hk,ha⟩ bz;refine au _ a5 (fun _=>?_);clear a5;replace hT:=hT.mono E;replace a_:=a_.mono E;refine am 1 V (wT 2 [] 41 41 [] [(41,(decide ((k:Int)<(iv.args.length:Int))))] V fun _=>zd 4 5 (fun b4=>?_) fun b4=>?_)
 ·obtain⟨et,a8⟩:=Sv.view (SR.sv a_ N);have fd:=fI (a8 k);refine wrp 2 42 43 [8] [(8,(iv.args.getD k 0))] (Ha_ (Sv.ix (j:=(k:Int)) (SR.sv a_ N)) (Hl_ 1 (ql 3 0 (vI (a8 k)) V V) Hn_)) K_ V fun _=>wU 1 [(2,.o (.bool (bg (⟨c.m,c.r,c.u⟩:VFnT).r (iv.args.getD k 0))))] 44 47 [] [(47,(!(bg (⟨c.m,c.r,c.u⟩:VFnT).r (iv.args.getD k 0))))] (iW ex (iv.args.getD k 0) (⟨c.m,c.r,c.u⟩:VFnT) b2 M (h_ N V) M M) V fun _=>zI 1 2 (fun bb=>?_) fun bb=>?_
  ·have c8:=bb;refine wT 1 [] 4 4 [] [(4,false)] V fun _=>ak ⟨.inr V,_,V,false,_,(E),(HS.forget N),V,(vin_no (ct M c8))⟩
  refine wU 1 [] 40 40 [48] [(40,(iI ((k:Int)+1)))] (vi (n:=(k:Int)+1)) V fun _=>?_
  refine bz _ _ _ ?_ ⟨k+1,_,(E),N,f_,V,M,(bw ha X)⟩;omega
 have bt:=cz ha M;refine wT 3 [] 1 0 [9,10,11,12] [(9,false),(10,false),(11,false),(12,false)] V fun _=>ab (aS 2 0 49 50 [] [(50,aw)] (Hr_ 1 2 Hn_) N V V fun _=>zc (vform_c ex iv.i.op (HS.call N) M hT) ?_)
 rintro _ ar ⟨fj,e4,T,A,rfl,rfl⟩;replace A:=HS.back N V A;refine ae 3 V (wT 1 [] 52 53 [] [(52,(aK iv.i.op==2))] V fun _=>ba (fun f H'=> ∃(av:Bool) (bv:Bool) (dv:Bool) (nv:Bool),H'=ar/\aA f [(2,(pT b1 0)),(5,(pT b6 0)),(6,(.func (.func 137) #[] #[(pT b1 0)])),(9,av),(10,bv),(11,dv),(12,nv)]/\(av=decide (aK iv.i.op≠1))/\(bv=decide (aK iv.i.op=3\/aK iv.i.op=4\/aK iv.i.op=7))/\(dv=decide (aK iv.i.op=4))/\(nv=decide (aK iv.i.op=5\/aK iv.i.op=7))) (fun U=>?_) ?_)
 ·refine zI 0 1 (fun b5=>?_) fun b5=>?_
  ·refine wT 0 [] 1 0 [9] [(9,true)] V fun _=>?_
   exact U _ _ ⟨true,false,false,false,V,f_,(by(symm;apply decide_eq_true;omega)),(by(symm;apply decide_eq_false;have hf:=bm ai;omega)),(by(symm;apply decide_eq_false;have hf:=bm ai;omega)),(by(symm;apply decide_eq_false;have hf:=bm ai;omega))⟩
  refine wT 1 [] 54 55 [] [(54,(aK iv.i.op==3))] V fun _=>zI 0 1 (fun b7=>?_) fun b7=>?_
  ·refine wT 0 [] 1 0 [9,10] [(9,true),(10,true)] V fun _=>?_
   exact U _ _ ⟨true,true,false,false,V,f_,(by(symm;apply decide_eq_true;omega)),(by(symm;apply decide_eq_true;omega)),(by(symm;apply decide_eq_false;have hf:=bm ai;omega)),(by(symm;apply decide_eq_false;have hf:=bm ai;omega))⟩
  refine wT 1 [] 56 57 [] [(56,(aK iv.i.op==4))] V fun _=>zI 0 1 (fun b8=>?_) fun b8=>?_
  ·refine wT 0 [] 1 0 [9,10,11] [(9,true),(10,true),(11,true)] V fun _=>?_
   exact U _ _ ⟨true,true,true,false,V,f_,(by(symm;apply decide_eq_true;omega)),(by(symm;apply decide_eq_true;omega)),(by(symm;apply decide_eq_true;omega)),(by(symm;apply decide_eq_false;have hf:=bm ai;omega))⟩
  refine wT 1 [] 58 59 [] [(58,(aK iv.i.op==5))] V fun _=>zI 0 1 (fun b9=>?_) fun b9=>?_
  ·refine wT 0 [] 1 0 [9,12] [(9,true),(12,true)] V fun _=>?_
   exact U _ _ ⟨true,false,false,true,V,f_,(by(symm;apply decide_eq_true;omega)),(by(symm;apply decide_eq_false;have hf:=bm ai;omega)),(by(symm;apply decide_eq_false;have hf:=bm ai;omega)),(by(symm;apply decide_eq_true;omega))⟩
  refine wT 1 [] 60 61 [] [(60,(aK iv.i.op==7))] V fun _=>zI 0 0 (fun cc=>?_) fun cc=>?_
  ·refine wT 0 [] 1 0 [9,10,12] [(9,true),(10,true),(12,true)] V fun _=>?_
   exact U _ _ ⟨true,true,false,true,V,f_,(by(symm;apply decide_eq_true;omega)),(by(symm;apply decide_eq_true;omega)),(by(symm;apply decide_eq_false;have hf:=bm ai;omega)),(by(symm;apply decide_eq_true;omega))⟩
  exact U _ _ ⟨false,false,false,false,V,f_,(by(symm;apply decide_eq_false;have hf:=bm ai;omega)),(by(symm;apply decide_eq_false;have hf:=bm ai;omega)),(by(symm;apply decide_eq_false;have hf:=bm ai;omega)),(by(symm;apply decide_eq_false;have hf:=bm ai;omega))⟩
 skip;rintro e6 ar ⟨av,bv,dv,nv,rfl,a7,hav,hbv,hdv,hnv⟩;refine au _ a7 (fun _=>?_);clear a7;refine am 4 V (wrp 1 62 125 [] [(125,(((((((av&&(!(bg (⟨c.m,c.r,c.u⟩:VFnT).r iv.i.a)))||(bv&&(!(bg (⟨c.m,c.r,c.u⟩:VFnT).r iv.i.b))))||(dv&&(!(bg (⟨c.m,c.r,c.u⟩:VFnT).r iv.i.c))))||((!av)&&(iv.i.a !=0)))||((!bv)&&(iv.i.b !=0)))||((!dv)&&(iv.i.c !=0)))||((!nv)&&(iv.i.n !=0))))] (bp 4 (fun _=>(ql 3 1 (j_ A V) V V)) (Hc1_ 5 (fun Z=>(iW ex iv.i.a (⟨c.m,c.r,c.u⟩:VFnT) ar (by(try simp only[BS]at Z);omega) (h_ A V) (by(try simp only[BS]at Z);omega) (by(try simp only[BS]at Z);omega))) (iu 13 (fun _ _=>(ql 3 2 (j_ A V) V V)) (Hc2_ 14 (fun Z g2=>(iW ex iv.i.b (⟨c.m,c.r,c.u⟩:VFnT) ar (by(try simp only[BS]at Z g2);omega) (h_ A V) (by(try simp only[BS]at Z g2);omega) (by(try simp only[BS]at Z g2);omega))) (iu 23 (fun _ _=>(ql 3 3 (j_ A V) V V)) (Hc2_ 24 (fun Z g2=>(iW ex iv.i.c (⟨c.m,c.r,c.u⟩:VFnT) ar (by(try simp only[BS]at Z g2);omega) (h_ A V) (by(try simp only[BS]at Z g2);omega) (by(try simp only[BS]at Z g2);omega))) (iu 33 (fun _ _=>(ql 3 1 (j_ A V) V V)) (iu 42 (fun _ _=>(ql 3 2 (j_ A V) V V)) (iu 51 (fun _ _=>(ql 3 3 (j_ A V) V V)) (iu 60 (fun _ _=>(ql 2 4 (j_ A V) V V)) Hn_)))))))))) V V fun _=>zi 1 3 (fun an=>?_) fun an=>?_)
 ·have ch:=an;try simp only[BS]at ch
  have c9:=an;refine wT 1 [] 4 4 [] [(4,false)] V fun _=>ak ⟨.inr V,_,V,false,_,(fT (E) T),(HS.forget A),V,(vin_bad3v ai h6 bk bt hav hbv hdv hnv c9)⟩
 have al:=vin_good3v (params:=c.m) ai h6 bk bt hav hbv hdv hnv an;refine aU 3 126 127 [] [(127,aw)] (Hr_ 1 2 Hn_) A V V fun _=>wT 1 [] 128 129 [] [(128,(iv.i.op==33))] V fun _=>zI 1 1 (fun ci=>?_) fun ci=>?_
 ·refine aU 1 130 137 [4] [(4,((decide ((-4194304:Int)<=iv.i.n))&&(decide (iv.i.n<4194304))))] (Hr_ 1 2 (bp 5 (fun _=>(ql 2 4 (j_ A V) V V)) Hn_)) A V V fun _=>ak ⟨.inr V,_,V,((decide ((-4194304:Int)<=iv.i.n))&&(decide (iv.i.n<4194304))),_,(fT (E) T),(HS.forget A),V,(by rw[al.1];first|exact(dP ai al.2 M M M M).symm|(unfold gO;(repeat' split)<;>first|omega|rfl|(rw[a0s]<;>simp)))⟩
 refine wT 1 [] 138 139 [] [(138,(iv.i.op==6))] V fun _=>zI 1 2 (fun co=>?_) fun co=>?_
 ·refine aU 1 140 147 [4] [(4,((decide ((0:Int)<=iv.i.n))&&(decide (iv.i.n<8))))] (Hr_ 1 2 (bp 5 (fun _=>(ql 2 4 (j_ A V) V V)) Hn_)) A V V fun _=>ak ⟨.inr V,_,V,((decide ((0:Int)<=iv.i.n))&&(decide (iv.i.n<8))),_,(fT (E) T),(HS.forget A),V,(by rw[al.1];first|exact(dP ai al.2 M M M M).symm|(unfold gO;(repeat' split)<;>first|omega|rfl|(rw[a0s]<;>simp)))⟩
 refine wT 1 [] 148 149 [] [(148,(iv.i.op==34))] V fun _=>zi 1 0 (fun ap=>?_) fun ap=>?_
 ·have a4:=ap;try simp only[BS]at a4
  refine aX 1 (v:=(iv.i.op==34)) V ap V V (aU 1 151 158 [4] [(4,((decide ((0:Int)<=iv.i.n))&&(decide (iv.i.n<4))))] (Hr_ 1 2 (bp 5 (fun _=>(ql 2 4 (j_ A V) V V)) Hn_)) A V V fun _=>ak ⟨.inr V,_,V,((decide ((0:Int)<=iv.i.n))&&(decide (iv.i.n<4))),_,(fT (E) T),(HS.forget A),V,(by rw[al.1];first|exact(dP ai al.2 M M M M).symm|(unfold gO;(repeat' split)<;>first|omega|rfl|(rw[a0s]<;>simp)))⟩)
 have a4:=ap;try simp only[BS]at a4
 refine wT 1 [] 148 150 [] [(148,(iv.i.op==35))] V fun _=>zI 1 1 (fun c5=>?_) fun c5=>?_
 ·refine aU 1 151 158 [4] [(4,((decide ((0:Int)<=iv.i.n))&&(decide (iv.i.n<4))))] (Hr_ 1 2 (bp 5 (fun _=>(ql 2 4 (j_ A V) V V)) Hn_)) A V V fun _=>ak ⟨.inr V,_,V,((decide ((0:Int)<=iv.i.n))&&(decide (iv.i.n<4))),_,(fT (E) T),(HS.forget A),V,(by rw[al.1];first|exact(dP ai al.2 M M M M).symm|(unfold gO;(repeat' split)<;>first|omega|rfl|(rw[a0s]<;>simp)))⟩
 refine wT 1 [] 159 160 [] [(159,(iv.i.op==38))] V fun _=>zI 1 3 (fun c6=>?_) fun c6=>?_
 ·refine aU 1 161 170 [4] [(4,((decide ((0:Int)<=iv.i.n))&&(decide (iv.i.n<c.m))))] (Hr_ 1 2 (bp 5 (fun _=>(ql 2 4 (j_ A V) V V)) (bp 7 (fun _=>(ql 3 0 (h_ A V) V V)) Hn_))) A V V fun _=>ak ⟨.inr V,_,V,((decide ((0:Int)<=iv.i.n))&&(decide (iv.i.n<c.m))),_,(fT (E) T),(HS.forget A),V,(by rw[al.1];first|exact(dP ai al.2 M M M M).symm|(unfold gO;(repeat' split)<;>first|omega|rfl|(rw[a0s]<;>simp)))⟩
 refine wT 1 [] 4 4 [] [(4,true)] V fun _=>ak ⟨.inr V,_,V,true,_,(fT (E) T),(HS.forget A),V,(by rw[al.1];first|exact(dP ai al.2 M M M M).symm|(unfold gO;(repeat' split)<;>first|omega|rfl|(rw[a0s]<;>simp)))⟩
theorem rinstr_c{aa ap}(iv:VInT){ar aw}(c:VFnT)(hs:Hb H F H [] R)(c5:in64 iv.i.op)(c6:in64 iv.i.a)(c7:in64 iv.i.b)(c8:in64 iv.i.c)(c9:in64 iv.i.n)(U:Sr F aa iv.args ap)(dl:in64 c.m)(dn:in64 c.r)(ds:Sr F ar c.u aw)(hT:TB 37 tabC F):kKt ex 95 [(aG [iv.i.op,iv.i.a,iv.i.b,iv.i.c,iv.i.n,(S_ aa iv.args ap)]),(aG [c.m,c.r,(S_ ar c.u aw)])] H fun v H'=> ∃(r:Bool),∃F',F.le F'/\Hb H F' H' [] R/\v= .bool r/\r=eV c.m c.r iv:=by
 refine aB Tryz.func95 V V (am 1 V (ab (aT (aN hs V V) V V ?_)));rintro _ H2 _ ⟨b1,rfl,ci,_⟩;refine aT (aN ci V V) V V ?_;rintro _ H4 _ ⟨b3,rfl,a5,_⟩;let aq:Value:=iI iv.i.op;refine za (.bool false) (ae 2 V (ab (aS 2 0 10 11 [] [(11,(aG [aq,iv.i.a,iv.i.b,iv.i.c,iv.i.n]))] (Hr_ 1 0 Hn_) a5 V V fun _=>zn a5 V fun b6 H7 co=>sgo 1 3 1 0 [] [] (Hr_ 3 2 Hn_) co V V fun ez H8 Z=>?_)));refine ae 3 V (aU 1 12 32 [] [(32,(((!(alV iv.i.op))||((iv.i.op !=6)&&(decide ((0:Int)<(iv.args.length:Int)))))||(decide ((6:Int)<(iv.args.length:Int)))))] (Hr_ 1 2 (Hc_ 2 (m1.nD ex iv.i.op H8) (bp 6 (fun _=>(ql 3 0 (j_ Z V) V V)) (iu 10 (fun _ _=>(ql 22 5 (h_ Z V) V V)) (bp 17 (fun _=>(ql 22 5 (h_ Z V) V V)) Hn_))))) Z V V fun _=>zI 1 3 (fun ay=>?_) fun ay=>?_)
 ·have dd:=ay;refine wT 1 [] 4 4 [] [(4,false)] V fun _=>ak ⟨.inr V,_,V,false,_,fR,(HS.forget Z),V,(vin_bad2 dd)⟩
 have al:alV iv.i.op=true:=(ay).1.1;have h6:iv.i.op=6\/iv.args.length=0:=M
 have a4:iv.args.length<=6:=M
 refine wT 2 [] 1 0 [6] [(6,(iI 0))] V fun _=>aj (fun(mm:Nat) f H'=> ∃(k:Nat),∃F',F.le F'/\Hb H F' H' [(fP b1 [aq,iv.i.a,iv.i.b,iv.i.c,iv.i.n,(S_ aa iv.args ap)]),(fP b3 [c.m,c.r,(S_ ar c.u aw)]),(fP b6 [aq,iv.i.a,iv.i.b,iv.i.c,iv.i.n])] R/\aA f [(2,(pT b1 0)),(3,(pT b3 0)),(5,(pT b6 0)),(6,(k:Int))]/\mm=iv.args.length-k/\(k<=iv.args.length)/\(∀j,j<k->bg c.r (iv.args.getD j v_)=true)) _ ⟨0,_,fR,Z,f_,V,M,(ce)⟩ ?_
 rintro dt em d2 ⟨k,dv,E,N,a2,rfl,hk,ha⟩ a7;refine au _ a2 (fun _=>?_);clear a2;replace hT:=hT.mono E;replace U:=U.mono E;refine am 2 V (aU 1 33 37 [] [(37,(decide ((k:Int)<(iv.args.length:Int))))] (Hr_ 2 0 Hn_) N V V fun _=>zd 4 5 (fun bt=>?_) fun bt=>?_)
 ·obtain⟨dk,av⟩:=Sv.view (SR.sv U N);have et:=fI (av k);refine sdr0 1 40 55 [] [(55,((decide ((iv.args.getD k 0)<0))||(decide (c.r<=(iv.args.getD k 0)))))] (Hr_ 1 0 (Ha_ (Sv.ix (j:=(k:Int)) (SR.sv U N)) (Hl_ 4 (ql 3 0 (hc0 (vI (av k))) V V) (bp 8 (fun _=>(ql 22 5 (hc0 (h_ N V)) V V)) (Ha_ (fun(a_:(decide ((iv.args.getD k 0)<0))=false)=>(Sv.ix (j:=(k:Int)) (SR.sv U N) (by(try simp only[BS]at a_);omega) (by(try simp only[BS]at a_);omega))) (bp 11 (fun a_=>(ql 3 0 (hc0 (vI (av k) (by(try simp only[BS]at a_);omega))) V V)) (bp 13 (fun _=>(ql 3 1 (hc0 (i_ N V)) V V)) Hn_))))))) N V V V fun _=>zI 1 2 (fun bz=>?_) fun bz=>?_
  ·refine wT 1 [] 4 4 [] [(4,false)] V fun _=>ak ⟨.inr V,_,V,false,_,(E),(HS.forget N),V,(vin_no (ct (k:=k) M (dD.2 (show ¬(0<=iv.args.getD k 0/\iv.args.getD k 0<c.r) by omega))))⟩
  refine wU 1 [] 38 39 [6] [(6,(iI ((k:Int)+1)))] (vi (n:=(k:Int)+1)) V fun _=>?_
  refine a7 _ _ _ ?_ ⟨k+1,_,(E),N,f_,V,M,(bw ha (bd.2 (show 0<=iv.args.getD k 0/\iv.args.getD k 0<c.r by omega)))⟩;omega
 have ao:=cz ha M;refine ab (aS 2 0 56 57 [] [(57,aq)] (Hr_ 1 2 Hn_) N V V fun _=>zc (nB ex iv.i.op (HS.call N) M hT) ?_);rintro _ ax ⟨e0,d1,T,A,rfl,a8,a9,rfl⟩;replace A:=HS.back N V A;let a3:=(((aD iv.i.op).f==3)||((aD iv.i.op).f==4))||((aD iv.i.op).f==7)
 refine bK 2 3 59 59 [7] [(7,(aD iv.i.op).f)] Hn_ K_ V fun _=>ae 2 V (wT 2 [] 60 61 [8] [(8,((aD iv.i.op).f !=1))] V fun _=>wT 3 [] 62 71 [9] [(9,a3)] V fun _=>aU 1 72 97 [] [(97,(((!(fD ((aD iv.i.op).f !=1) iv.i.a c.r))||(!(fD a3 iv.i.b c.r)))||(!(fD ((aD iv.i.op).f==4) iv.i.c c.r))))] (Hr_ 2 2 (Hr_ 4 1 (Hc_ 5 (gi ex ((aD iv.i.op).f !=1) iv.i.a c.r ax M M) (bp 10 (fun _=>(ql 3 2 (j_ A V) V V)) (bp 12 (fun _=>(ql 3 1 (i_ A V) V V)) (Hc1_ 13 (fun a_=>(gi ex a3 iv.i.b c.r ax (by(try simp only[BS]at a_);omega) (by(try simp only[BS]at a_);omega))) (bp 20 (fun _=>(ql 3 3 (j_ A V) V V)) (bp 22 (fun _=>(ql 3 1 (i_ A V) V V)) (Hc1_ 23 (fun a_=>(gi ex ((aD iv.i.op).f==4) iv.i.c c.r ax (by(try simp only[BS]at a_);omega) (by(try simp only[BS]at a_);omega))) Hn_))))))))) A V V fun _=>zi 1 3 (fun ag=>?_) fun ag=>?_)
 ·have b2:=ag;try simp only[BS]at b2
  have ch:=ag;refine wT 1 [] 4 4 [] [(4,false)] V fun _=>ak ⟨.inr V,_,V,false,_,(fT (E) T),(HS.forget A),V,(vin_rbad al h6 a4 ao ch)⟩
 have ai:=vin_rgood (params:=c.m) al h6 a4 ao ag;refine aU 3 98 99 [] [(99,aq)] (Hr_ 1 2 Hn_) A V V fun _=>wT 1 [] 100 101 [] [(100,(iv.i.op==13))] V fun _=>zI 1 1 (fun b4=>?_) fun b4=>?_
 ·refine wT 1 [] 4 4 [] [(4,true)] V fun _=>ak ⟨.inr V,_,V,true,_,(fT (E) T),(HS.forget A),V,(by rw[ai]<;>(first|exact(dP al ai.2 M M M M).symm|(unfold gO;(repeat' split)<;>first|omega|rfl|(rw[a0s]<;>simp))))⟩
 refine wT 1 [] 102 103 [] [(102,(iv.i.op==33))] V fun _=>zI 1 1 (fun b5=>?_) fun b5=>?_
 ·refine aU 1 104 111 [4] [(4,((decide ((-4194304:Int)<=iv.i.n))&&(decide (iv.i.n<4194304))))] (Hr_ 1 2 (bp 5 (fun _=>(ql 2 4 (j_ A V) V V)) Hn_)) A V V fun _=>ak ⟨.inr V,_,V,((decide ((-4194304:Int)<=iv.i.n))&&(decide (iv.i.n<4194304))),_,(fT (E) T),(HS.forget A),V,(by rw[ai]<;>(first|exact(dP al ai.2 M M M M).symm|(unfold gO;(repeat' split)<;>first|omega|rfl|(rw[a0s]<;>simp))))⟩
 refine wT 1 [] 112 113 [] [(112,(iv.i.op==6))] V fun _=>zI 1 2 (fun b7=>?_) fun b7=>?_
 ·refine aU 1 114 121 [4] [(4,((decide ((0:Int)<=iv.i.n))&&(decide (iv.i.n<8))))] (Hr_ 1 2 (bp 5 (fun _=>(ql 2 4 (j_ A V) V V)) Hn_)) A V V fun _=>ak ⟨.inr V,_,V,((decide ((0:Int)<=iv.i.n))&&(decide (iv.i.n<8))),_,(fT (E) T),(HS.forget A),V,(by rw[ai]<;>(first|exact(dP al ai.2 M M M M).symm|(unfold gO;(repeat' split)<;>first|omega|rfl|(rw[a0s]<;>simp))))⟩
 refine wT 1 [] 122 123 [] [(122,(iv.i.op==34))] V fun _=>zi 1 0 (fun an=>?_) fun an=>?_
 ·have a1:=an;try simp only[BS]at a1
  refine aX 1 (v:=(iv.i.op==34)) V an V V (aU 1 125 132 [4] [(4,((decide ((0:Int)<=iv.i.n))&&(decide (iv.i.n<4))))] (Hr_ 1 2 (bp 5 (fun _=>(ql 2 4 (j_ A V) V V)) Hn_)) A V V fun _=>ak ⟨.inr V,_,V,((decide ((0:Int)<=iv.i.n))&&(decide (iv.i.n<4))),_,(fT (E) T),(HS.forget A),V,(by rw[ai]<;>(first|exact(dP al ai.2 M M M M).symm|(unfold gO;(repeat' split)<;>first|omega|rfl|(rw[a0s]<;>simp))))⟩)
 have a1:=an;try simp only[BS]at a1
 refine wT 1 [] 122 124 [] [(122,(iv.i.op==35))] V fun _=>zI 1 1 (fun b8=>?_) fun b8=>?_
 ·refine aU 1 125 132 [4] [(4,((decide ((0:Int)<=iv.i.n))&&(decide (iv.i.n<4))))] (Hr_ 1 2 (bp 5 (fun _=>(ql 2 4 (j_ A V) V V)) Hn_)) A V V fun _=>ak ⟨.inr V,_,V,((decide ((0:Int)<=iv.i.n))&&(decide (iv.i.n<4))),_,(fT (E) T),(HS.forget A),V,(by rw[ai]<;>(first|exact(dP al ai.2 M M M M).symm|(unfold gO;(repeat' split)<;>first|omega|rfl|(rw[a0s]<;>simp))))⟩
 refine wT 1 [] 133 134 [] [(133,(iv.i.op==38))] V fun _=>zI 1 3 (fun b9=>?_) fun b9=>?_
 ·refine aU 1 135 144 [4] [(4,((decide ((0:Int)<=iv.i.n))&&(decide (iv.i.n<c.m))))] (Hr_ 1 2 (bp 5 (fun _=>(ql 2 4 (j_ A V) V V)) (bp 7 (fun _=>(ql 3 0 (i_ A V) V V)) Hn_))) A V V fun _=>ak ⟨.inr V,_,V,((decide ((0:Int)<=iv.i.n))&&(decide (iv.i.n<c.m))),_,(fT (E) T),(HS.forget A),V,(by rw[ai]<;>(first|exact(dP al ai.2 M M M M).symm|(unfold gO;(repeat' split)<;>first|omega|rfl|(rw[a0s]<;>simp))))⟩
 refine aU 1 145 147 [4] [(4,(iv.i.n==0))] (Hr_ 1 2 Hn_) A V V fun _=>ak ⟨.inr V,_,V,(iv.i.n==0),_,(fT (E) T),(HS.forget A),V,(by rw[ai]<;>(first|exact(dP al ai.2 M M M M).symm|(unfold gO;(repeat' split)<;>first|omega|rfl|(rw[a0s]<;>simp))))⟩
theorem rEnd_c{T a_}(b:BlkT){U Z}(c:VFnT)(hs:Hb H F H [] R)(ar:Sr F T b.v a_)(av:in64 b.f)(aw:in64 b.r)(ax:in64 b.t)(ay:in64 b.e)(a1:in64 c.m)(a2:in64 c.r)(a3:Sr F U c.u Z)(hT:TB 37 tabC F):kKt ex 94 [(aG [(S_ T b.v a_),b.f,b.r,b.t,b.e]),(aG [c.m,c.r,(S_ U c.u Z)])] H fun v H'=> ∃(r:Bool),∃F',F.le F'/\Hb H F' H' [] R/\v= .bool r/\r=vendV (c.u.length:Int) c.r b:=by
 refine aB Tryz.func94 V V (am 1 V (ab (aT (aN hs V V) V V ?_)));rintro _ H2 _ ⟨b1,rfl,ap,_⟩;refine aT (aN ap V V) V V ?_;rintro _ H4 _ ⟨b3,rfl,A,_⟩;let E:=(0:Int)<=b.r;let N:=b.r<c.r;refine za (.bool false) (ae 2 V (aU 2 9 11 [5] [(5,(c.u.length:Int))] (Hr_ 1 1 Hn_) A V V fun _=>sdr0 3 12 39 [6,7,8] [(6,((decide ((0:Int)<=b.t))&&(decide (b.t<(c.u.length:Int))))),(7,((decide ((0:Int)<=b.e))&&(decide (b.e<(c.u.length:Int))))),(8,((decide E)&&(decide N)))] (Hr_ 1 0 (bp 5 (fun _=>(ql 3 3 (hc0 (h_ A V)) V V)) (Hr_ 10 0 (bp 14 (fun _=>(ql 3 4 (hc0 (h_ A V)) V V)) (Hr_ 19 0 (bp 23 (fun _=>(ql 3 2 (hc0 (h_ A V)) V V)) (bp 25 (fun _=>(ql 3 1 (hc0 (i_ A V)) V V)) Hn_))))))) A V V V fun _=>aU 3 40 41 [] [(41,b.f)] (Hr_ 1 0 Hn_) A V V fun _=>wT 1 [] 42 43 [] [(42,(b.f==1))] V fun _=>?_));refine zI 1 1 (fun c9=>?_) fun c9=>?_
 ·refine wrp 1 44 54 [4] [(4,((((decide ((0:Int)<=b.t))&&(decide (b.t<(c.u.length:Int))))&&(b.e==0))&&(b.r==0)))] (bp 3 (fun _=>(ql 3 4 (h_ A V) V V)) (bp 8 (fun _=>(ql 3 2 (h_ A V) V V)) Hn_)) V V fun _=>ak ⟨.inr V,_,V,((((decide ((0:Int)<=b.t))&&(decide (b.t<(c.u.length:Int))))&&(b.e==0))&&(b.r==0)),_,fR,(HS.forget A),V,(by refine a0s.2 (Iff.trans ?_ bY.symm);first|omega|(simp[bd]<;>omega))⟩
 refine wT 1 [] 55 56 [] [(55,(b.f==2))] V fun _=>zI 1 1 (fun aa=>?_) fun aa=>?_
 ·refine wT 1 [] 57 63 [4] [(4,((((decide ((0:Int)<=b.t))&&(decide (b.t<(c.u.length:Int))))&&((decide ((0:Int)<=b.e))&&(decide (b.e<(c.u.length:Int)))))&&((decide E)&&(decide N))))] V fun _=>ak ⟨.inr V,_,V,((((decide ((0:Int)<=b.t))&&(decide (b.t<(c.u.length:Int))))&&((decide ((0:Int)<=b.e))&&(decide (b.e<(c.u.length:Int)))))&&((decide E)&&(decide N))),_,fR,(HS.forget A),V,(by refine a0s.2 (Iff.trans ?_ bY.symm);first|omega|(simp[bd]<;>omega))⟩
 refine wT 1 [] 64 65 [] [(64,(b.f==3))] V fun _=>zI 1 1 (fun ag=>?_) fun ag=>?_
 ·refine wrp 1 66 76 [4] [(4,((((decide E)&&(decide N))&&(b.t==0))&&(b.e==0)))] (bp 3 (fun _=>(ql 3 3 (h_ A V) V V)) (bp 8 (fun _=>(ql 3 4 (h_ A V) V V)) Hn_)) V V fun _=>ak ⟨.inr V,_,V,((((decide E)&&(decide N))&&(b.t==0))&&(b.e==0)),_,fR,(HS.forget A),V,(by refine a0s.2 (Iff.trans ?_ bY.symm);first|omega|(simp[bd]<;>omega))⟩
 refine wT 1 [] 77 78 [] [(77,(b.f==4))] V fun _=>zI 1 3 (fun an=>?_) fun an=>?_
 ·refine aU 1 79 96 [4] [(4,((((decide ((1:Int)<=b.t))&&(decide (b.t<33554432)))&&(b.e==0))&&(b.r==0)))] (Hr_ 1 0 (bp 5 (fun _=>(ql 3 3 (h_ A V) V V)) (bp 10 (fun _=>(ql 3 4 (h_ A V) V V)) (bp 15 (fun _=>(ql 3 2 (h_ A V) V V)) Hn_)))) A V V fun _=>ak ⟨.inr V,_,V,((((decide ((1:Int)<=b.t))&&(decide (b.t<33554432)))&&(b.e==0))&&(b.r==0)),_,fR,(HS.forget A),V,(by refine a0s.2 (Iff.trans ?_ bY.symm);first|omega|(simp[bd]<;>omega))⟩
 refine wT 1 [] 4 4 [] [(4,false)] V fun _=>ak ⟨.inr V,_,V,false,_,fR,(HS.forget A),V,(by refine a0s.2 (Iff.trans ?_ bY.symm);first|omega|(simp[bd]<;>omega))⟩
theorem kM{T Z}(c:VFnT)(hs:Hb H F H [] R)(e2:in64 c.m)(e3:in64 c.r)(a_:Sr F T c.u Z)(hT:TB 37 tabC F)(hv: ∀j,(c.u.getD j v_).v.length<=9223372036854775807):kKt ex 66 [(aG [c.m,c.r,(S_ T c.u Z)])] H fun v H'=> ∃(r:Bool),∃F',F.le F'/\Hb H F' H' [] R/\v= .bool r/\r=cb c:=by
 refine aB Tryz.func66 V V (am 1 V (ab (aT (aN hs V V) V V ?_)));rintro _ H2 _ ⟨b1,rfl,aa,_⟩;refine za (.bool false) (ae 3 V (aU 1 10 39 [] [(39,((((((decide (c.m<0))||(decide ((6:Int)<c.m)))||(decide (c.r<0)))||(decide ((3000:Int)<c.r)))||(decide ((c.u.length:Int)<1)))||(decide ((1000:Int)<(c.u.length:Int)))))] (Hr_ 1 0 (bp 5 (fun _=>(ql 3 0 (h_ aa V) V V)) (bp 10 (fun _=>(ql 3 1 (h_ aa V) V V)) (bp 15 (fun _=>(ql 3 1 (h_ aa V) V V)) (bp 20 (fun _=>(ql 34 2 (h_ aa V) V V)) (bp 26 (fun _=>(ql 34 2 (h_ aa V) V V)) Hn_)))))) aa V V fun _=>zI 1 2 (fun c4=>?_) fun c4=>?_))
 ·refine wT 1 [] 2 2 [] [(2,false)] V fun _=>ak ⟨.inr V,_,V,false,_,fR,(HS.forget aa),V,(val_lim M)⟩
 have cv:0<=c.m/\c.m<=6/\0<=c.r/\c.r<=3000/\1<=c.u.length/\c.u.length<=1000:=M
 let b4:Value:=iI (c.u.length:Int);let b9:Fp:=(fP b1 [c.m,c.r,(S_ T c.u Z)])
 refine wT 2 [] 40 40 [3] [(3,(.func (.func 109) #[] #[(pT b1 0)]))] V fun _=>wT 3 [] 41 41 [4] [(4,(.func (.func 110) #[] #[(pT b1 0)]))] V fun _=>aU 2 42 45 [] [(43,(S_ T c.u Z)),(44,b4),(45,(iI 0))] (Hr_ 1 0 Hn_) aa V V fun _=>aj (fun(mm:Nat) f H'=> ∃(k:Nat),∃F',F.le F'/\Hb H F' H' [b9] R/\aA f [(1,(pT b1 0)),(3,(.func (.func 109) #[] #[(pT b1 0)])),(4,(.func (.func 110) #[] #[(pT b1 0)])),(43,(S_ T c.u Z)),(44,b4),(45,(k:Int))]/\mm=c.u.length-k/\(k<=c.u.length)/\(∀j,j<k->jZ c.m c.r (c.u.length:Int) (c.u.getD j v_)=true)) _ ⟨0,_,fR,aa,f_,V,M,(ce)⟩ ?_
 rintro f4 f9 H9 ⟨k,F9,N,a1,b8,rfl,hk,ha⟩ a2;refine au _ b8 (fun _=>?_);clear b8;replace hT:=hT.mono N;replace a_:=a_.mono N;have g8:=hv k;refine am 1 V (wT 2 [] 46 46 [] [(46,(decide ((k:Int)<(c.u.length:Int))))] V fun _=>zd 4 5 (fun c5=>?_) fun c5=>?_)
 ·refine ab ?_;obtain⟨a9,bz⟩:=Sv.view (SR.sv a_ a1);obtain⟨dk,dl,dn,ds,ap⟩:=BlkT.fx (bz k);let a3:Value:=sL (cA (a9 k) 0) (c.u.getD k v_).v.length (cK (a9 k) 0);let ag:=(c.u.getD k v_).r;let an:=(c.u.getD k v_).t;let aw:=(c.u.getD k v_).e;let b3:Value:=iI (c.u.getD k v_).f;refine bK 2 0 47 48 [] [(48,(aG [a3,b3,ag,an,aw]))] (Ha_ (Sv.ix (j:=(k:Int)) (SR.sv a_ a1)) (Hl_ 1 (qn 82 0 5 (BlkT.vw (bz k)) V V V V) Hn_)) K_ V fun _=>zn a1 V fun b6 fd ch=>sgo 1 3 1 0 [] [] (Hr_ 3 1 Hn_) ch V V fun ez fi bt=>ae 3 V (aU 2 49 52 [] [(50,a3),(51,((c.u.getD k v_).v.length:Int)),(52,(iI 0))] (Hr_ 1 1 Hn_) bt V V fun _=>aj (fun(mm:Nat) f H'=> ∃(i:Nat),∃F',F9.le F'/\Hb H F' H' [b9,(fP b6 [a3,b3,ag,an,aw])] R/\aA f [(1,(pT b1 0)),(3,(.func (.func 109) #[] #[(pT b1 0)])),(4,(.func (.func 110) #[] #[(pT b1 0)])),(6,(pT b6 0)),(43,(S_ T c.u Z)),(44,b4),(45,(k:Int)),(50,a3),(51,((c.u.getD k v_).v.length:Int)),(52,(i:Int))]/\mm=(c.u.getD k v_).v.length-i/\(i<=(c.u.getD k v_).v.length)/\(∀j,j<i->eV c.m c.r ((c.u.getD k v_).v.getD j v_)=true)) _ ⟨0,_,fR,bt,f_,V,M,(ce)⟩ ?_)
  rintro e4 f3 av ⟨i,e5,E,A,bl,rfl,hi,hb⟩ co;refine au _ bl (fun _=>?_);clear bl;replace hT:=hT.mono E;replace a_:=a_.mono E;replace ap:=ap.mono E;refine am 1 V (wT 2 [] 53 53 [] [(53,(decide ((i:Int)<((c.u.getD k v_).v.length:Int))))] V fun _=>zd 4 5 (fun c6=>?_) fun c6=>?_)
  ·refine ab ?_;obtain⟨bb,b2⟩:=Sv.view (SR.sv ap A);obtain⟨dt,dv,d1,d2,em,b5⟩:=VInT.fx (b2 i);let cc:Value:=(aG [((c.u.getD k v_).v.getD i v_).i.op,((c.u.getD k v_).v.getD i v_).i.a,((c.u.getD k v_).v.getD i v_).i.b,((c.u.getD k v_).v.getD i v_).i.c,((c.u.getD k v_).v.getD i v_).i.n,(sL (cA (bb i) 5) ((c.u.getD k v_).v.getD i v_).args.length (cK (bb i) 5))])
   refine bK 2 0 54 55 [] [(55,cc)] (Ha_ (Sv.ix (j:=(i:Int)) (SR.sv ap A)) (Hl_ 1 (qn 88 0 6 (VInT.vw (b2 i)) V V V V) Hn_)) K_ V fun _=>zn A V fun f2 fj ci=>sgo 1 3 1 0 [] [] (Hr_ 3 2 Hn_) ci V V fun e0 f0 ay=>ae 2 V (ab (aS 2 0 56 57 [] [(56,(aG [c.m,c.r,(S_ T c.u Z)])),(57,cc)] (Hr_ 0 0 (Hr_ 1 2 Hn_)) ay V V fun _=>?_))
   refine zc (vinstr_c ex (⟨c.m,c.r,c.u⟩:VFnT) (⟨(⟨((c.u.getD k v_).v.getD i v_).i.op,((c.u.getD k v_).v.getD i v_).i.a,((c.u.getD k v_).v.getD i v_).i.b,((c.u.getD k v_).v.getD i v_).i.c,((c.u.getD k v_).v.getD i v_).i.n⟩:InsT),((c.u.getD k v_).v.getD i v_).args⟩:VInT) (HS.call ay) M M a_ M M M M M b5 hT) ?_;rintro _ f1 ⟨f5,e6,bk,ar,rfl,rfl⟩;replace ar:=HS.back ay V ar;refine bK 1 3 59 59 [] [(59,(!(eV (⟨c.m,c.r,c.u⟩:VFnT).m (⟨c.m,c.r,c.u⟩:VFnT).r (⟨(⟨((c.u.getD k v_).v.getD i v_).i.op,((c.u.getD k v_).v.getD i v_).i.a,((c.u.getD k v_).v.getD i v_).i.b,((c.u.getD k v_).v.getD i v_).i.c,((c.u.getD k v_).v.getD i v_).i.n⟩:InsT),((c.u.getD k v_).v.getD i v_).args⟩:VInT))))] Hn_ K_ V fun _=>ae 1 V (zI 1 2 (fun b7=>?_) fun b7=>?_)
   ·have h3:=b7;refine wT 1 [] 2 2 [] [(2,false)] V fun _=>ak ⟨.inr V,_,V,false,_,(fT (fT (N) E) bk),(HS.forget ar),V,(jB (ct M (blk_no (ct M h3))))⟩
   refine wU 1 [] 52 52 [60] [(52,(iI ((i:Int)+1)))] (vi (n:=(i:Int)+1)) V fun _=>?_
   refine co _ _ _ ?_ ⟨i+1,_,(fT (E) bk),(HS.sub ar (a01 _ _)),f_,V,M,(bw hb X)⟩;omega
  have al:=cz hb M;refine wT 3 [] 1 0 [9] [(9,false)] V fun _=>aU 3 61 62 [] [(62,b3)] (Hr_ 1 1 Hn_) A V V fun _=>wT 1 [] 63 64 [] [(63,((c.u.getD k v_).f==1))] V fun _=>zI 0 1 (fun c7=>?_) fun c7=>?_
  ·refine aU 3 65 78 [9] [(9,((bg ((⟨c.m,c.r,c.u⟩:VFnT).u.length:Int) an&&((c.u.getD k v_).r==0))&&((c.u.getD k v_).e==0)))] (Hr_ 2 1 (Hc_ 3 (nV ex an (⟨c.m,c.r,c.u⟩:VFnT) av M (h_ A V) M M) (bp 6 (fun _=>(ql 3 2 (i_ A V) V V)) (bp 11 (fun _=>(ql 3 4 (i_ A V) V V)) Hn_)))) A V V fun _=>wT 1 [] 133 134 [] [(134,(!((bg ((⟨c.m,c.r,c.u⟩:VFnT).u.length:Int) an&&((c.u.getD k v_).r==0))&&((c.u.getD k v_).e==0))))] V fun _=>zI 1 2 (fun a4=>?_) fun a4=>?_
   ·have U:=a4;try simp only[dD,bd]at U
    refine wT 1 [] 2 2 [] [(2,false)] V fun _=>ak ⟨.inr V,_,V,false,_,(fT (N) E),(HS.forget A),V,(jB (ct (k:=k) M (fM (a1n.2 fun hv=>by rw[bY]at hv;omega))))⟩
   have U:=a4;try simp only[dD,bd]at U
   refine wU 1 [] 45 45 [135] [(45,(iI ((k:Int)+1)))] (vi (n:=(k:Int)+1)) V fun _=>?_
   refine a2 _ _ _ ?_ ⟨k+1,_,(fT (N) E),(HS.sub A (a01 _ _)),f_,V,M,(bw ha (jz al (by(rw[bY];omega))))⟩;omega
  refine wT 1 [] 79 80 [] [(79,((c.u.getD k v_).f==2))] V fun _=>zI 0 1 (fun c8=>?_) fun c8=>?_
  ·refine aU 3 81 96 [9] [(9,((bg ((⟨c.m,c.r,c.u⟩:VFnT).u.length:Int) an&&bg ((⟨c.m,c.r,c.u⟩:VFnT).u.length:Int) aw)&&bg (⟨c.m,c.r,c.u⟩:VFnT).r ag))] (Hr_ 2 1 (Hc_ 3 (nV ex an (⟨c.m,c.r,c.u⟩:VFnT) av M (h_ A V) M M) (bp 7 (fun _=>(ql 3 4 (i_ A V) V V)) (Hc1_ 8 (fun g1=>(nV ex aw (⟨c.m,c.r,c.u⟩:VFnT) av (by(try simp only[BS]at g1);omega) (h_ A V) (by(try simp only[BS]at g1);omega) (by(try simp only[BS]at g1);omega))) (bp 13 (fun _=>(ql 3 2 (i_ A V) V V)) (Hc1_ 14 (fun g1=>(cReg_c_q ex ag (⟨c.m,c.r,c.u⟩:VFnT) av (by(try simp only[BS]at g1);omega) (h_ A V) (by(try simp only[BS]at g1);omega) (by(try simp only[BS]at g1);omega))) Hn_)))))) A V V fun _=>wT 1 [] 133 134 [] [(134,(!((bg ((⟨c.m,c.r,c.u⟩:VFnT).u.length:Int) an&&bg ((⟨c.m,c.r,c.u⟩:VFnT).u.length:Int) aw)&&bg (⟨c.m,c.r,c.u⟩:VFnT).r ag)))] V fun _=>zI 1 2 (fun a5=>?_) fun a5=>?_
   ·have U:=a5;try simp only[dD,bd]at U
    refine wT 1 [] 2 2 [] [(2,false)] V fun _=>ak ⟨.inr V,_,V,false,_,(fT (N) E),(HS.forget A),V,(jB (ct (k:=k) M (fM (a1n.2 fun hv=>by rw[bY]at hv;omega))))⟩
   have U:=a5;try simp only[dD,bd]at U
   refine wU 1 [] 45 45 [135] [(45,(iI ((k:Int)+1)))] (vi (n:=(k:Int)+1)) V fun _=>?_
   refine a2 _ _ _ ?_ ⟨k+1,_,(fT (N) E),(HS.sub A (a01 _ _)),f_,V,M,(bw ha (jz al (by(rw[bY];omega))))⟩;omega
  refine wT 1 [] 97 98 [] [(97,((c.u.getD k v_).f==3))] V fun _=>zI 0 1 (fun c9=>?_) fun c9=>?_
  ·refine aU 3 99 112 [9] [(9,((bg (⟨c.m,c.r,c.u⟩:VFnT).r ag&&((c.u.getD k v_).t==0))&&((c.u.getD k v_).e==0)))] (Hr_ 2 1 (Hc_ 3 (cReg_c_q ex ag (⟨c.m,c.r,c.u⟩:VFnT) av M (h_ A V) M M) (bp 6 (fun _=>(ql 3 3 (i_ A V) V V)) (bp 11 (fun _=>(ql 3 4 (i_ A V) V V)) Hn_)))) A V V fun _=>wT 1 [] 133 134 [] [(134,(!((bg (⟨c.m,c.r,c.u⟩:VFnT).r ag&&((c.u.getD k v_).t==0))&&((c.u.getD k v_).e==0))))] V fun _=>zI 1 2 (fun a7=>?_) fun a7=>?_
   ·have U:=a7;try simp only[dD,bd]at U
    refine wT 1 [] 2 2 [] [(2,false)] V fun _=>ak ⟨.inr V,_,V,false,_,(fT (N) E),(HS.forget A),V,(jB (ct (k:=k) M (fM (a1n.2 fun hv=>by rw[bY]at hv;omega))))⟩
   have U:=a7;try simp only[dD,bd]at U
   refine wU 1 [] 45 45 [135] [(45,(iI ((k:Int)+1)))] (vi (n:=(k:Int)+1)) V fun _=>?_
   refine a2 _ _ _ ?_ ⟨k+1,_,(fT (N) E),(HS.sub A (a01 _ _)),f_,V,M,(bw ha (jz al (by(rw[bY];omega))))⟩;omega
  refine wT 1 [] 113 114 [] [(113,((c.u.getD k v_).f==4))] V fun _=>zI 0 3 (fun dd=>?_) fun dd=>?_
  ·refine aU 3 115 132 [9] [(9,((((decide ((1:Int)<=(c.u.getD k v_).t))&&(decide ((c.u.getD k v_).t<33554432)))&&((c.u.getD k v_).r==0))&&((c.u.getD k v_).e==0)))] (Hr_ 1 1 (bp 5 (fun _=>(ql 3 3 (i_ A V) V V)) (bp 10 (fun _=>(ql 3 2 (i_ A V) V V)) (bp 15 (fun _=>(ql 3 4 (i_ A V) V V)) Hn_)))) A V V fun _=>wT 1 [] 133 134 [] [(134,(!((((decide ((1:Int)<=(c.u.getD k v_).t))&&(decide ((c.u.getD k v_).t<33554432)))&&((c.u.getD k v_).r==0))&&((c.u.getD k v_).e==0))))] V fun _=>zI 1 2 (fun a8=>?_) fun a8=>?_
   ·have U:=a8;try simp only[dD,bd]at U
    refine wT 1 [] 2 2 [] [(2,false)] V fun _=>ak ⟨.inr V,_,V,false,_,(fT (N) E),(HS.forget A),V,(jB (ct (k:=k) M (fM (a1n.2 fun hv=>by rw[bY]at hv;omega))))⟩
   have U:=a8;try simp only[dD,bd]at U
   refine wU 1 [] 45 45 [135] [(45,(iI ((k:Int)+1)))] (vi (n:=(k:Int)+1)) V fun _=>?_
   refine a2 _ _ _ ?_ ⟨k+1,_,(fT (N) E),(HS.sub A (a01 _ _)),f_,V,M,(bw ha (jz al (by(rw[bY];omega))))⟩;omega
  refine wT 1 [] 133 134 [] [(134,true)] V fun _=>aX 1 (v:=true) V V V V (wT 1 [] 2 2 [] [(2,false)] V fun _=>ak ⟨.inr V,_,V,false,_,(fT (N) E),(HS.forget A),V,(jB (ct (k:=k) M (fM (a1n.2 fun hv=>by rw[bY]at hv;omega))))⟩)
 refine wT 1 [] 2 2 [] [(2,true)] V fun _=>ak ⟨.inr V,_,V,true,_,(N),(HS.forget a1),V,(val_yes cv (cz ha M))⟩
theorem eN{an aq}(c:VFnT)(hs:Hb H F H [] R)(d2:in64 c.m)(em:in64 c.r)(A:Sr F an c.u aq)(hT:TB 37 tabC F)(hv: ∀j,(c.u.getD j v_).v.length<=9223372036854775807):kKt ex 50 [(aG [c.m,c.r,(S_ an c.u aq)])] H fun v H'=> ∃(r:Bool),∃F',F.le F'/\Hb H F' H' [] R/\v= .bool r/\r=cb c:=by
 refine aB Tryz.func50 V V (am 1 V (ab (aT (aN hs V V) V V ?_)));rintro _ H2 _ ⟨b1,rfl,Z,_⟩;refine za (.bool false) (ae 3 V (aU 1 6 35 [] [(35,((((((decide (c.m<0))||(decide ((6:Int)<c.m)))||(decide (c.r<0)))||(decide ((3000:Int)<c.r)))||(decide ((c.u.length:Int)<1)))||(decide ((1000:Int)<(c.u.length:Int)))))] (Hr_ 1 0 (bp 5 (fun _=>(ql 3 0 (h_ Z V) V V)) (bp 10 (fun _=>(ql 3 1 (h_ Z V) V V)) (bp 15 (fun _=>(ql 3 1 (h_ Z V) V V)) (bp 20 (fun _=>(ql 34 2 (h_ Z V) V V)) (bp 26 (fun _=>(ql 34 2 (h_ Z V) V V)) Hn_)))))) Z V V fun _=>zI 1 3 (fun c4=>?_) fun c4=>?_))
 ·refine wT 1 [] 2 2 [] [(2,false)] V fun _=>ak ⟨.inr V,_,V,false,_,fR,(HS.forget Z),V,(val_lim M)⟩
 have b0:0<=c.m/\c.m<=6/\0<=c.r/\c.r<=3000/\1<=c.u.length/\c.u.length<=1000:=M
 let b2:Fp:=(fP b1 [c.m,c.r,(S_ an c.u aq)])
 refine wT 2 [] 1 0 [3] [(3,(iI 0))] V fun _=>aj (fun(mm:Nat) f H'=> ∃(k:Nat),∃F',F.le F'/\Hb H F' H' [b2] R/\aA f [(1,(pT b1 0)),(3,(k:Int))]/\mm=c.u.length-k/\(k<=c.u.length)/\(∀j,j<k->jZ c.m c.r (c.u.length:Int) (c.u.getD j v_)=true)) _ ⟨0,_,fR,Z,f_,V,M,(ce)⟩ ?_
 rintro e6 f7 H7 ⟨k,F7,aa,ag,bz,rfl,hk,ha⟩ ch;refine au _ bz (fun _=>?_);clear bz;replace hT:=hT.mono aa;replace A:=A.mono aa;have f8:=hv k;refine am 2 V (aU 1 36 40 [] [(40,(decide ((k:Int)<(c.u.length:Int))))] (Hr_ 2 0 Hn_) ag V V fun _=>zd 4 5 (fun c9=>?_) fun c9=>?_)
 ·refine ab ?_;obtain⟨aw,a2⟩:=Sv.view (SR.sv A ag);obtain⟨ci,co,c5,c6,E⟩:=BlkT.fx (a2 k);let a4:Value:=sL (cA (aw k) 0) (c.u.getD k v_).v.length (cK (aw k) 0);let a5:Value:=iI (c.u.getD k v_).f;let a7:Value:=iI (c.u.getD k v_).r;let a8:Value:=iI (c.u.getD k v_).t;let a9:Value:=iI (c.u.getD k v_).e;let b3:Value:=(aG [c.m,c.r,(S_ an c.u aq)])
  refine aS 5 0 43 47 [] [(47,(aG [a4,a5,a7,a8,a9]))] (Hr_ 1 0 (Ha_ (Sv.ix (j:=(k:Int)) (SR.sv A ag)) (Hl_ 4 (qn 82 0 5 (BlkT.vw (a2 k)) V V V V) Hn_))) ag V V fun _=>zn ag V fun bl e1 b5=>sgo 1 6 1 0 [] [] (Hr_ 6 1 Hn_) b5 V V fun dt e2 ar=>ae 3 V (ab (aS 2 0 48 49 [] [(48,(aG [a4,a5,a7,a8,a9])),(49,b3)] (Hr_ 0 1 (Hr_ 1 0 Hn_)) ar V V fun _=>?_))
  refine zc (rEnd_c ex (⟨(c.u.getD k v_).v,(c.u.getD k v_).f,(c.u.getD k v_).r,(c.u.getD k v_).t,(c.u.getD k v_).e⟩:BlkT) (⟨c.m,c.r,c.u⟩:VFnT) (HS.call ar) E M M M M M M A hT) ?_;rintro _ e3 ⟨fd,b8,U,ap,rfl,rfl⟩;replace ap:=HS.back ar V ap;replace hT:=hT.mono U;replace A:=A.mono U;replace E:=E.mono U;refine bK 1 3 51 51 [] [(51,(!(vendV ((⟨c.m,c.r,c.u⟩:VFnT).u.length:Int) (⟨c.m,c.r,c.u⟩:VFnT).r (⟨(c.u.getD k v_).v,(c.u.getD k v_).f,(c.u.getD k v_).r,(c.u.getD k v_).t,(c.u.getD k v_).e⟩:BlkT))))] Hn_ K_ V fun _=>ae 1 V (zI 1 2 (fun av=>?_) fun av=>?_)
  ·have h2:=av;refine wT 1 [] 2 2 [] [(2,false)] V fun _=>ak ⟨.inr V,_,V,false,_,(fT (aa) U),(HS.forget ap),V,(jB (ct M (fM h2)))⟩
  have a6:=av;refine wT 2 [] 1 0 [5] [(5,(iI 0))] V fun _=>aj (fun(mm:Nat) f H'=> ∃(i:Nat),∃F',b8.le F'/\Hb H F' H' [b2,(fP bl [a4,a5,a7,a8,a9])] R/\aA f [(1,(pT b1 0)),(3,(k:Int)),(4,(pT bl 0)),(5,(i:Int))]/\mm=(c.u.getD k v_).v.length-i/\(i<=(c.u.getD k v_).v.length)/\(∀j,j<i->eV c.m c.r ((c.u.getD k v_).v.getD j v_)=true)) _ ⟨0,_,fR,ap,f_,V,M,(ce)⟩ ?_
  rintro et e5 e4 ⟨i,ez,a_,N,a1,rfl,hi,hb⟩ b6;refine au _ a1 (fun _=>?_);clear a1;replace hT:=hT.mono a_;replace A:=A.mono a_;replace E:=E.mono a_;refine am 2 V (aU 1 52 56 [] [(56,(decide ((i:Int)<((c.u.getD k v_).v.length:Int))))] (Hr_ 2 1 Hn_) N V V fun _=>zd 4 5 (fun cc=>?_) fun cc=>?_)
  ·refine aC V ?_;obtain⟨ax,a3⟩:=Sv.view (SR.sv E N);obtain⟨c7,c8,dd,dk,dl,bk⟩:=VInT.fx (a3 i);refine cN 6 59 64 [] [(63,(aG [((c.u.getD k v_).v.getD i v_).i.op,((c.u.getD k v_).v.getD i v_).i.a,((c.u.getD k v_).v.getD i v_).i.b,((c.u.getD k v_).v.getD i v_).i.c,((c.u.getD k v_).v.getD i v_).i.n,(sL (cA (ax i) 5) ((c.u.getD k v_).v.getD i v_).args.length (cK (ax i) 5))])),(64,b3)] (Hr_ 1 1 (Ha_ (Sv.ix (j:=(i:Int)) (SR.sv E N)) (Hl_ 4 (qn 88 0 6 (hc0 (VInT.vw (a3 i))) V V V V) (Hr_ 5 0 Hn_)))) N V V fun _=>aQ (W:=[]) (aP V V V) V V V (rinstr_c ex ((c.u.getD k v_).v.getD i v_) (⟨c.m,c.r,c.u⟩:VFnT) (HS.call N.log0) M M M M M bk M M A hT) (kb V) ?_
   rintro _ b9 ⟨fi,e0,ay,T,rfl,rfl⟩;refine⟨Wr.did T.log,fun b7 bb=>?_⟩;replace T:=HS.back N.log0 V T;replace T:=HS.lg T N bb;generalize ({b9 with log:=b7}:Heap)=dn at T⊢;refine wfv (v:=(.bool (!(eV (⟨c.m,c.r,c.u⟩:VFnT).m (⟨c.m,c.r,c.u⟩:VFnT).r ((c.u.getD k v_).v.getD i v_))))) (ne V) (aW 1 V (zI 1 2 (fun bt=>?_) fun bt=>?_))
   ·have h4:=bt;refine wT 1 [] 2 2 [] [(2,false)] V fun _=>ak ⟨.inr V,_,V,false,_,(fT (fT (fT (aa) U) a_) ay),(HS.forget T),V,(jB (ct M (blk_no (ct M h4))))⟩
   refine wU 1 [] 57 58 [5] [(5,(iI ((i:Int)+1)))] (vi (n:=(i:Int)+1)) V fun _=>?_
   refine b6 _ _ _ ?_ ⟨i+1,_,(fT (a_) ay),T,f_,V,M,(bw hb X)⟩;omega
  have d1:=cz hb M;refine wU 1 [] 41 42 [3] [(3,(iI ((k:Int)+1)))] (vi (n:=(k:Int)+1)) V fun _=>?_
  refine ch _ _ _ ?_ ⟨k+1,_,(fT (fT (aa) U) a_),(HS.sub N (a01 _ _)),f_,V,M,(bw ha (jz d1 a6))⟩;omega
 refine wT 1 [] 2 2 [] [(2,true)] V fun _=>ak ⟨.inr V,_,V,true,_,(aa),(HS.forget ag),V,(val_yes b0 (cz ha M))⟩
end m3
open m3
namespace m4
variable (ex:FuncId) {F:Fz} {H:Heap} {R:List Fp}
theorem wr64(n:Int):in64 (IntKind.i64.wrap n):=w64_in n
theorem td64(n:Int){m:Int}(h:0<m):in64 (Int.tdiv (IntKind.i64.wrap n) m):=vq (wr64 n) M
theorem opOK_t{p} [Decidable p]{n r:Int}(h:p)(A:0<=n/\n<r):fD (decide p) n r=true:=by rw[decide_eq_true h];exact bd.2 A
theorem lj{p} [Decidable p]{n r:Int}(h: ¬p)(A:n=0):fD (decide p) n r=true:=by rw[decide_eq_false h,A];rfl
def opG(op:Int):Prop:=(op=3\/op=6\/(9<=op/\op<=13)\/(15<=op/\op<=35))/\alV op=true
theorem ops_al{op:Int}(h:15<=op/\op<=32):opG op:=⟨M,decide_eq_true M⟩
theorem lit12{k}(h:k<12):opG (([3,6,9,10,11,12,13,33,34,35,10,9]:List Int).getD k 0):=by
 have: ∀k:Fin 12,((([3,6,9,10,11,12,13,33,34,35,10,9]:List Int).getD k.val 0)=3\/(([3,6,9,10,11,12,13,33,34,35,10,9]:List Int).getD k.val 0)=6\/(9<=(([3,6,9,10,11,12,13,33,34,35,10,9]:List Int).getD k.val 0)/\(([3,6,9,10,11,12,13,33,34,35,10,9]:List Int).getD k.val 0)<=13)\/(15<=(([3,6,9,10,11,12,13,33,34,35,10,9]:List Int).getD k.val 0)/\(([3,6,9,10,11,12,13,33,34,35,10,9]:List Int).getD k.val 0)<=35))/\alV (([3,6,9,10,11,12,13,33,34,35,10,9]:List Int).getD k.val 0)=true:=by decide
 exact this ⟨k,h⟩
theorem immT{p op n:Int}(h:op=13\/op=33/\ -4194304<=n/\n<4194304\/op=6/\0<=n/\n<8\/(op=34\/op=35)/\0<=n/\n<4\/(op≠13/\op≠33/\op≠6/\op≠34/\op≠35/\op≠38)/\n=0):gO p op n=true:=by
 unfold gO
 (repeat' split)<;>first|rfl|(apply decide_eq_true;omega)|(exfalso;omega)
theorem all_app{p:Int->Bool}{l:List Int}{x:Int}(h:l.all p=true)(A:p x=true):(l++[x]).all p=true:=by rw[a2n,h];simp[A]
theorem vin_mk{params regs op a b c n:Int}{l}(A:alV op=true)(E:op=6\/l.length=0)(N:l.length<=6)(T:l.all (bg regs)=true)(U:fD (decide (aK op≠1)) a regs=true)(a_:fD (decide (aK op=3\/aK op=4\/aK op=7)) b regs=true)(Z:fD (decide (aK op=4)) c regs=true)(h8:gO params op n=true):eV params regs ⟨⟨op,a,b,c,n⟩,l⟩=true:=by unfold eV;simp only[A,decide_eq_true E,decide_eq_true N,T,U,a_,Z,h8,a1o]
def ckI(v:VInT):Bool:=decide ((v.i.op=6->(v.i.n=0/\v.args.length=2\/v.i.n=1/\v.args.length=1))/\(v.i.op=34\/v.i.op=35->v.i.n<2))
theorem cR{Z}(d:DigT)(m:Int)(hs:HS (.of H [Z]) F H [(fP Z [d.n])] R)(E:in64 d.n)(hm:in64 m)(hT:TB 37 tabC F)(hm:0<m):kKt ex 32 [(pT Z 0),m] H fun v H'=> ∃(r:Int) (d':DigT),∃F',F.le F'/\HS (.of H [Z]) F' H' [(fP Z [d'.n])] R/\v=iI r/\in64 d'.n/\(0<=r/\r<m):=by refine aB Tryz.func32 V V (am 1 V (wT 2 [] 4 4 [] [(4,(iI 0))] V fun _=>?_));have N:=dF d.n m;refine aU 2 6 11 [5] [(5,(bh d.n m))] (Hr_ 3 0 (Hc_ 5 (m1.eP ex d.n m H M) Hn_)) hs V V fun _=>sgr 2 12 22 [] [] (Hr_ 4 0 (Hw_ 6 (.w) (Ha_ (vA (show m≠0 from by omega) (vq (a:=IntKind.i64.wrap (d.n-(bh d.n m))) (b:=m) (wr64 _) M)) (Hr_ 11 0 Hn_)))) hs V V fun T U A=>wT 1 [] 4 4 [23] [(4,(bh d.n m))] V fun _=>ak ⟨.inr V,_,V,bh d.n m,(⟨Int.tdiv (IntKind.i64.wrap (d.n-(bh d.n m))) m⟩:DigT),_,fR,(HS.first A),V,(td64 _ M),M⟩
theorem word_c(n:Int)(ad:Int)(hs:Hb H F H [] R)(hn:in64 n)(ai:in64 ad)(hT:TB 37 tabC F):kKt ex 33 [n,ad] H fun v H'=> ∃(r:Int),∃F',F.le F'/\Hb H F' H' [] R/\v=iI r/\(in64 r):=by
 refine aB Tryz.func33 V V (am 1 V (wT 2 [] 4 4 [] [(4,(iI 0))] V fun _=>ab (zlo ([0,1,(-1),2,(-9223372036854775808),9223372036854775807,4294967296,(-2147483648),63,64]:List Int) hs V (RL.cs ⟨V,M⟩ (RL.cs ⟨V,M⟩ (RL.cs ⟨V,M⟩ (RL.cs ⟨V,M⟩ (RL.cs ⟨V,M⟩ (RL.cs ⟨V,M⟩ (RL.cs ⟨V,M⟩ (RL.cs ⟨V,M⟩ (RL.cs ⟨V,M⟩ (RL.cs ⟨V,M⟩ RL.nl)))))))))) V fun a_ k2 p2 T E A=>za (sL a_ ([0,1,(-1),2,(-9223372036854775808),9223372036854775807,4294967296,(-2147483648),63,64]:List Int).length k2) ?_)));refine ae 2 V ?_;have ap:=dF n (24:Int);refine wU 4 [(1,.o (iI (bh n (24:Int))))] 8 9 [6] [(6,(bh n (24:Int)))] (m1.eP ex n (24) T M) V fun _=>wT 1 [] 10 12 [] [(10,(decide (bh n (24:Int)<10)))] V fun _=>zd 1 1 (fun Z=>?_) fun Z=>?_
 ·obtain⟨an,N⟩:=Sv.view (OS.sv E A (i:=0) V);have g9:=fI (N (bh n (24:Int)).toNat);refine wrp 1 13 16 [4] [(4,(([0,1,(-1),2,(-9223372036854775808),9223372036854775807,4294967296,(-2147483648),63,64]:List Int).getD (bh n (24:Int)).toNat 0))] (Ha_ (Sv.ix (j:=bh n (24:Int)) (OS.sv E A (i:=0) V) M (show bh n (24:Int)<(10:Int) from by omega)) (Hl_ 3 (ql 2 0 (vI (N (bh n (24:Int)).toNat) (show(bh n (24:Int)).toNat<10 from by omega)) V V) Hn_)) K_ V fun _=>ak ⟨.inr V,_,V,(([0,1,(-1),2,(-9223372036854775808),9223372036854775807,4294967296,(-2147483648),63,64]:List Int).getD (bh n (24:Int)).toNat 0),_,fR,(HS.forget A),V,M⟩
 refine wT 1 [] 17 19 [] [(17,(decide (bh n (24:Int)<22)))] V fun _=>zd 1 3 (fun U=>?_) fun U=>?_
 ·have ag:in64 n->in64 (Int.tdiv n 24):=fun h=>vq h e_
  have aa:=dF (Int.tdiv n 24) (17:Int);refine wR 1 [(2,.o (iI (bh (Int.tdiv n 24) (17:Int))))] 20 23 [4] [(4,(iI ((bh (Int.tdiv n 24) (17:Int))-6)))] (vA (vA (show(24:Int)≠0 from by decide) (vq (a:=n) (b:=24) M e_)) (vA (m1.eP ex (Int.tdiv n 24) (17) T M) (vA (vi (n:=(bh (Int.tdiv n 24) (17:Int))-6)) trivial))) V fun _=>ak ⟨.inr V,_,V,(bh (Int.tdiv n 24) (17:Int))-6,_,fR,(HS.forget A),V,M⟩
 refine wT 1 [] 4 4 [24] [(4,ad)] V fun _=>ak ⟨.inr V,_,V,ad,_,fR,(HS.forget A),V,M⟩
theorem vi_c(n:Int){dd f6}(c:VFnT)(hs:Hb H F H [] R)(hn:in64 n)(l9:in64 c.m)(mk:in64 c.r)(hT:TB 37 tabC F)(hr:1<=c.r/\c.r<=3000):kKt ex 55 [n,(aG [c.m,c.r,(sL dd c.u.length f6)])] H fun v H'=> ∃(x:VInT),∃dk,∃(f7:Nat),∃F',F.le F'/\Hb H F' H' [] R/\v= .agg ⟨[iI x.i.op,iI x.i.a,iI x.i.b,iI x.i.c,iI x.i.n,sL dk x.args.length f7]⟩/\in64 x.i.op/\in64 x.i.a/\in64 x.i.b/\in64 x.i.c/\in64 x.i.n/\Sr F' dk x.args f7/\(eV c.m c.r x=true)/\(ckI x=true):=by
 refine aB Tryz.func55 V V (am 1 V (ab (aT (aN hs V V) V V ?_)));rintro _ H2 _ ⟨b1,rfl,e5,_⟩;refine zn e5 V fun b3 H4 kd=>ae 2 V (ab (wTo 2 0 [] 14 15 [] [(15,(aG [n]))] V fun _=>aT (aN kd V V) V V ?_))
 rintro _ H7 _ ⟨T,rfl,kg,_⟩;refine za (pT T 0) (ae 2 V (ab (zlo ([3,6,9,10,11,12,13,33,34,35,10,9]:List Int) kg V (RL.cs ⟨V,M⟩ (RL.cs ⟨V,M⟩ (RL.cs ⟨V,M⟩ (RL.cs ⟨V,M⟩ (RL.cs ⟨V,M⟩ (RL.cs ⟨V,M⟩ (RL.cs ⟨V,M⟩ (RL.cs ⟨V,M⟩ (RL.cs ⟨V,M⟩ (RL.cs ⟨V,M⟩ (RL.cs ⟨V,M⟩ (RL.cs ⟨V,M⟩ RL.nl)))))))))))) V fun a8 k8 p8 H9 c8 g2=>za (sL a8 ([3,6,9,10,11,12,13,33,34,35,10,9]:List Int).length k8) (ae 2 V ?_))));refine ab (zm (pT T 0) (zc (cR ex (⟨n⟩:DigT) (18) (HS.callOwn g2 (i:=2) V) M M hT M) ?_));rintro _ ow ⟨f9,g5,n4,b2,a1,rfl,iz,pg⟩;replace a1:=g2.bO a1;replace hT:=hT.mono b2;refine wUo 2 2 [] 20 20 [7] [(7,(iI (15+f9)))] (vi (n:=15+f9)) V fun _=>ae 3 V (ab (zm (pT T 0) (zc (cR ex (⟨g5.n⟩:DigT) (24) (HS.callOwn a1 (i:=2) V) M M hT M) ?_)))
 rintro _ gt ⟨aq,dn,n5,b4,av,rfl,i1,ph⟩;replace av:=a1.bO av;replace hT:=hT.mono b4;replace c8:=(c8.mono b2).mono b4;refine za (iI aq) (ae 2 V (wT 1 [] 23 26 [] [(26,(decide (aq<12)))] V fun _=>ba (fun f H'=> ∃(A:Int),H'=gt/\aA f [(0,n),(3,(pT b1 0)),(4,(pT b3 0)),(5,(pT T 0)),(7,A)]/\(opG A)) (fun f2=>?_) ?_))
 ·refine zd 0 0 (fun h7=>?_) fun h7=>?_
  ·obtain⟨k6,f0⟩:=Sv.view (OS.sv c8 av (i:=3) V);have pf:=fI (f0 aq.toNat);refine wrp 0 27 30 [7] [(7,(([3,6,9,10,11,12,13,33,34,35,10,9]:List Int).getD aq.toNat 0))] (Ha_ (Sv.ix (j:=aq) (OS.sv c8 av (i:=3) V) M (show aq<(12:Int) from by omega)) (Hl_ 3 (ql 3 0 (vI (f0 aq.toNat) (show aq.toNat<12 from by omega)) V V) Hn_)) K_ V fun _=>?_
   exact f2 _ _ ⟨(([3,6,9,10,11,12,13,33,34,35,10,9]:List Int).getD aq.toNat 0),V,f_,(lit12 M)⟩
  exact f2 _ _ ⟨15+f9,V,f_,(ops_al M)⟩
 skip;rintro o7 gt ⟨A,rfl,ez,ho⟩;refine au _ ez (fun _=>?_);clear ez;have hf:=bm ho.2;have qc:aK A=(aI A).f:=if_neg (by have:=ho.1;omega);have pA:=ho.1;refine am 2 V (ab (bK 3 0 31 33 [] [(33,(aG [A,(iI 0),(iI 0),(iI 0),(iI 0),N_]))] Hn_ K_ V fun _=>zn av V fun an ox hB=>sgo 1 4 1 0 [] [] (Hr_ 4 4 Hn_) hB V V fun k7 oy e6=>ae 2 V ?_));refine ab (zm (iI A) (zc (m1.rInfo_c ex A (HS.call e6) M hT) ?_));rintro _ oz ⟨pE,pC,hV,ds,b7,rfl,hR,hS,rfl,rfl⟩;replace b7:=HS.back e6 V b7;replace hT:=hT.mono ds;refine bK 3 2 37 38 [34] [(37,(aG [(tX (aI A).name.b),(aI A).f,(.bool (aI A).ra),(.bool (aI A).wa),(.bool (aI A).rb),(.bool (aI A).mt),(aI A).w])),(38,(infO A))] Hn_ K_ V fun _=>zn b7 V fun h6 oD hC=>sgo 2 6 1 0 [11] [] (Hr_ 6 5 Hn_) hC V V fun k9 oE aw=>ae 2 V (aU 3 39 40 [12] [(12,(aI A).f)] (Hr_ 1 5 Hn_) aw V V fun _=>wT 1 [] 41 42 [] [(42,((aI A).f !=1))] V fun _=>?_)
 let bb:Fp:=(fP b1 [c.m,c.r,(sL dd c.u.length f6)])
 let bk:Fp:=(fP b3 [(iI 0),(iI 0),(iI 0),(iI 0),(iI 0),N_])
 let bl:Fp:=(fP h6 [(tX (aI A).name.b),(aI A).f,(.bool (aI A).ra),(.bool (aI A).wa),(.bool (aI A).rb),(.bool (aI A).mt),(aI A).w])
 refine ba (fun f H'=> ∃(ja:Int) (a5:DigT),∃F',hV.le F'/\Hb H F' H' [bb,bk,(fP T [a5.n]),p8,(fP an [A,ja,(iI 0),(iI 0),(iI 0),N_]),bl] R/\aA f [(0,n),(3,(pT b1 0)),(4,(pT b3 0)),(5,(pT T 0)),(7,A),(9,(pT an 0)),(12,(aI A).f)]/\(fD (decide (aK A≠1)) ja c.r=true)/\(in64 ja)/\(in64 a5.n)) (fun f3=>?_) ?_
 ·refine zI 0 0 (fun h8=>?_) fun h8=>?_
  ·refine ab (aS 3 0 43 45 [] [(43,(pT T 0)),(45,c.r)] (Hr_ 2 0 Hn_) aw V V fun _=>zc (cR ex (⟨dn.n⟩:DigT) c.r (HS.callOwn aw (i:=2) V) M M hT M) ?_);rintro _ oG ⟨kn,g6,n6,hj,b8,rfl,i2,pi⟩;replace b8:=aw.bO b8;refine sgo 3 4 47 48 [] [] (Hr_ 6 4 Hn_) b8 V V fun lf oH hD=>ae 0 V ?_
   exact f3 _ _ ⟨kn,(⟨g6.n⟩:DigT),_,(hj),hD,f_,(opOK_t M M),M,X⟩
  exact f3 _ _ ⟨0,(⟨dn.n⟩:DigT),_,fR,aw,f_,(lj M V),M,X⟩
 skip;rintro o8 oF ⟨ja,a5,hW,dt,a2,e0,hja,rja,nx⟩;refine au _ e0 (fun _=>?_);clear e0;replace hT:=hT.mono dt;refine am 3 V (wT 1 [] 49 58 [] [(58,((((aI A).f==3)||((aI A).f==4))||((aI A).f==7)))] V fun _=>ba (fun f H'=> ∃(jb:Int) (a7:DigT),∃F',hW.le F'/\Hb H F' H' [bb,bk,(fP T [a7.n]),p8,(fP an [A,ja,jb,(iI 0),(iI 0),N_]),bl] R/\aA f [(0,n),(3,(pT b1 0)),(4,(pT b3 0)),(5,(pT T 0)),(7,A),(9,(pT an 0)),(12,(aI A).f)]/\(fD (decide (aK A=3\/aK A=4\/aK A=7)) jb c.r=true)/\(in64 jb)/\(in64 a7.n)) (fun f4=>?_) ?_)
 ·refine zI 0 0 (fun h9=>?_) fun h9=>?_
  ·refine ab (aS 3 0 59 61 [] [(59,(pT T 0)),(61,c.r)] (Hr_ 2 0 Hn_) a2 V V fun _=>zc (cR ex (⟨a5.n⟩:DigT) c.r (HS.callOwn a2 (i:=2) V) M M hT M) ?_);rintro _ oJ ⟨ko,g7,n7,hk,b9,rfl,i3,pj⟩;replace b9:=a2.bO b9;refine sgo 3 4 63 64 [] [] (Hr_ 6 4 Hn_) b9 V V fun ll oK hE=>ae 0 V ?_
   exact f4 _ _ ⟨ko,(⟨g7.n⟩:DigT),_,(hk),hE,f_,(opOK_t M M),M,X⟩
  exact f4 _ _ ⟨0,(⟨a5.n⟩:DigT),_,fR,a2,f_,(lj M V),M,X⟩
 skip;rintro o9 oI ⟨jb,a7,hX,dv,a3,e1,hjb,rjb,n1⟩;refine au _ e1 (fun _=>?_);clear e1;replace hT:=hT.mono dv;refine am 3 V (wT 1 [] 65 66 [] [(66,((aI A).f==4))] V fun _=>ba (fun f H'=> ∃(jc:Int) (ap:DigT),∃F',hX.le F'/\Hb H F' H' [bb,bk,(fP T [ap.n]),p8,(fP an [A,ja,jb,jc,(iI 0),N_]),bl] R/\aA f [(0,n),(3,(pT b1 0)),(4,(pT b3 0)),(5,(pT T 0)),(7,A),(9,(pT an 0))]/\(fD (decide (aK A=4)) jc c.r=true)/\(in64 jc)/\(in64 ap.n)) (fun f5=>?_) ?_)
 ·refine zI 0 0 (fun ib=>?_) fun ib=>?_
  ·refine ab (aS 3 0 67 69 [] [(67,(pT T 0)),(69,c.r)] (Hr_ 2 0 Hn_) a3 V V fun _=>zc (cR ex (⟨a7.n⟩:DigT) c.r (HS.callOwn a3 (i:=2) V) M M hT M) ?_);rintro _ oM ⟨kp,g8,oa,hl,cc,rfl,i4,pm⟩;replace cc:=a3.bO cc;refine sgo 3 4 71 72 [] [] (Hr_ 6 4 Hn_) cc V V fun lr oO hF=>ae 0 V ?_
   exact f5 _ _ ⟨kp,(⟨g8.n⟩:DigT),_,(hl),hF,f_,(opOK_t M M),M,X⟩
  exact f5 _ _ ⟨0,(⟨a7.n⟩:DigT),_,fR,a3,f_,(lj M V),M,X⟩
 skip;rintro pc oL ⟨jc,ap,go,d1,U,e2,hjc,rjc,n2⟩;refine au _ e2 (fun _=>?_);clear e2;replace hT:=hT.mono d1;refine am 3 V (wT 3 [] 73 73 [] [(73,A)] V fun _=>wT 1 [] 74 75 [] [(74,(A==13))] V fun _=>ba (fun f H'=> ∃(jq:Int) (ai:List Int) (f1:DigT),∃a_,∃(aa:Nat),∃F',go.le F'/\Hb H F' H' [bb,bk,(fP T [f1.n]),p8,(fP an [A,ja,jb,jc,jq,(sL a_ ai.length aa)]),bl] R/\Sr F' a_ ai aa/\aA f [(4,(pT b3 0)),(9,(pT an 0))]/\(gO c.m A jq=true)/\(in64 jq)/\((A=6\/ai.length=0)/\ai.length<=6)/\(ai.all (bg c.r)=true)/\((A=6->(jq=0/\ai.length=2\/jq=1/\ai.length=1))/\(A=34\/A=35->jq<2))/\(in64 f1.n)) (fun ar=>?_) ?_)
 ·refine zI 0 1 (fun ih=>?_) fun ih=>?_
  ·refine ab (zm (pT T 0) (zc (cR ex (⟨ap.n⟩:DigT) (400) (HS.callOwn U (i:=2) V) M M hT M) ?_));rintro _ oQ ⟨kr,g9,oc,d2,a4,rfl,i5,pn⟩;replace a4:=U.bO a4;replace hT:=hT.mono d2;refine zm (iI n) (zc (word_c ex kr n (HS.call a4) M M hT) ?_);rintro _ oR ⟨kx,hY,hp,ch,rfl,pq⟩;replace ch:=HS.back a4 V ch;refine sgo 3 4 80 81 [] [] (Hr_ 6 4 Hn_) ch V V fun lv oT hH=>ae 0 V ?_
   exact ar _ _ ⟨kx,([]:List Int),(⟨g9.n⟩:DigT),none,0,_,(fT (d2) hp),hH,(SR.nil:SR hY N_ ([]:List Int)),f_,(immT M),X,u_,m_,M,X⟩
  refine wT 1 [] 82 83 [] [(82,(A==33))] V fun _=>zI 0 2 (fun ii=>?_) fun ii=>?_
  ·refine ab (zm (pT T 0) (zc (cR ex (⟨ap.n⟩:DigT) (9) (HS.callOwn U (i:=2) V) M M hT M) ?_));rintro _ oU ⟨g3,ha,h1,hq,ci,rfl,jw,pu⟩;replace ci:=U.bO ci;refine sgo 4 2 86 88 [] [] (Ha_ (vi (n:=g3-4)) (Hr_ 5 4 Hn_)) ci V V fun lz oV hI=>ae 0 V ?_
   exact ar _ _ ⟨g3-4,([]:List Int),(⟨ha.n⟩:DigT),none,0,_,(hq),hI,(SR.nil:SR h1 N_ ([]:List Int)),f_,(immT M),M,u_,m_,M,X⟩
  refine wT 1 [] 89 90 [] [(89,(A==34))] V fun _=>zi 1 0 (fun bz=>?_) fun bz=>?_
  ·have ik:=bz;try simp only[BS]at ik
   refine aX 0 (v:=(A==34)) V bz V V (ab (zm (pT T 0) (zc (cR ex (⟨ap.n⟩:DigT) (2) (HS.callOwn U (i:=2) V) M M hT M) ?_)));rintro _ oW ⟨ky,hb,h2,ht,co,rfl,j1,pw⟩;replace co:=U.bO co;refine sgo 3 2 94 95 [] [] (Hr_ 4 4 Hn_) co V V fun l0 oX hJ=>ae 0 V ?_
   exact ar _ _ ⟨ky,([]:List Int),(⟨hb.n⟩:DigT),none,0,_,(ht),hJ,(SR.nil:SR h2 N_ ([]:List Int)),f_,(immT M),M,u_,m_,M,X⟩
  refine wT 1 [] 89 91 [] [(89,(A==35))] V fun _=>zI 0 1 (fun il=>?_) fun il=>?_
  ·refine ab (zm (pT T 0) (zc (cR ex (⟨ap.n⟩:DigT) (2) (HS.callOwn U (i:=2) V) M M hT M) ?_));rintro _ oY ⟨kz,he,h3,hu,c5,rfl,j2,px⟩;replace c5:=U.bO c5;refine sgo 3 2 94 95 [] [] (Hr_ 4 4 Hn_) c5 V V fun l1 oZ hK=>ae 0 V ?_
   exact ar _ _ ⟨kz,([]:List Int),(⟨he.n⟩:DigT),none,0,_,(hu),hK,(SR.nil:SR h3 N_ ([]:List Int)),f_,(immT M),M,u_,m_,M,X⟩
  refine wT 1 [] 96 97 [] [(96,(A==6))] V fun _=>zI 1 0 (fun it=>?_) fun it=>?_
  ·refine ab (zm (pT T 0) (zc (cR ex (⟨ap.n⟩:DigT) (2) (HS.callOwn U (i:=2) V) M M hT M) ?_));rintro _ o0 ⟨ay,hg,h4,em,c6,rfl,ka,py⟩;replace c6:=U.bO c6;refine sgo 3 2 100 101 [] [] (Hr_ 4 4 Hn_) c6 V V fun l2 o1 fd=>ae 2 V (aU 2 102 105 [13] [(13,(iI (2-ay)))] (Hr_ 2 4 (Ha_ (vi (n:=2-ay)) Hn_)) fd V V fun _=>?_)
   have hL:=HS.snoc fd;refine aj (fun(mm:Nat) f H'=> ∃(kk:Int) (al:List Int) (dl:DigT),∃ag E,∃(N:Nat),∃F',h4.le F'/\Hb H F' H' [bb,bk,(fP T [dl.n]),p8,(fP an [A,ja,jb,jc,ay,(sL E al.length N)]),bl,ag] R/\OZ F' E al N ag/\aA f [(3,(pT b1 0)),(4,(pT b3 0)),(5,(pT T 0)),(9,(pT an 0)),(13,kk)]/\mm=kk.toNat/\((al.length:Int)+kk=2-ay/\0<=kk)/\(al.all (bg c.r)=true)/\(in64 dl.n)/\(kk<=2)) _ ⟨2-ay,([]:List Int),(⟨hg.n⟩:DigT),[],none,0,_,fR,hL,(OS.nil:OS _ N_ ([]:List Int) []),f_,V,l_,m_,M,M⟩ ?_;rintro m0 pe o2 ⟨kk,al,dl,ag,E,N,oh,b5,ax,Z,e4,rfl,q1,q2,q3,q4⟩ hQ;refine au _ e4 (fun _=>?_);clear e4;replace hT:=(hT.mono em).mono b5;refine am 2 V (wT 1 [] 106 107 [] [(107,(decide ((0:Int)<kk)))] V fun _=>zd 3 3 (fun iv=>?_) fun iv=>?_)
   ·refine aC V (cN 5 110 114 [] [(111,(sL E al.length N)),(112,(pT T 0)),(114,c.r)] (Hr_ 1 4 (Hr_ 4 0 Hn_)) ax V V fun _=>wcD [T] (j:=2) ax V V (cR ex (⟨dl.n⟩:DigT) c.r (HS.callOwn ax.log0 (i:=2) V) M M hT M) V V (⟨.inl V,.inl V,.inl V,.inr (HS.nin ax (i:=4) (j:=2) V V e_ (List.Mem.head _)),q_⟩) ?_);rintro _ o3 ⟨g4,hh,ol,et,c7,rfl,kc,pz⟩;refine⟨_,_,_,c7,fun k0 c7=>?_⟩;replace Z:=Z.mono et;refine zld [g4] c7 V (RL.cs ⟨V,M⟩ RL.nl) V fun o6 pB pD k3 hw fi=>zad 6 Z fi (OS.sv hw fi (i:=7) V) V V V M (kb V) fun h5 ki kl k4 hz hM=>sdo 2 118 118 [] [] (Hr_ 9 4 Hn_) hM V V fun l3 o4 hO=>aW 2 V (wU 1 [] 108 109 [13] [(13,(iI (kk-1)))] (vi (n:=kk-1)) V fun _=>?_)
    refine hQ _ _ _ ?_ ⟨kk-1,al++[g4],(⟨hh.n⟩:DigT),kl,h5,ki,_,(fT (b5) et),(HS.sub hO (a01 _ _)),hz,f_,V,l_,(all_app q2 (bd.2 M)),M,M⟩;omega
   obtain⟨oo,hv,hP,hA,mx⟩:=OS.frz Z ax (i:=6) V;exact ar _ _ ⟨ay,al,(⟨dl.n⟩:DigT),E,N,_,(fT (fT (em) b5) hv),(HS.sub hP (a01 _ _)),hA,f_,(immT M),M,M,X,M,M⟩
  exact ar _ _ ⟨0,([]:List Int),(⟨ap.n⟩:DigT),none,0,_,fR,U,(SR.nil:SR go N_ ([]:List Int)),f_,(immT M),M,u_,m_,M,X⟩
 skip;rintro pd oP ⟨jq,ai,f1,a_,aa,ob,hm,hG,a9,e3,hjq,rjq,g1,e5,hck,n3⟩;refine au _ e3 (fun _=>?_);clear e3;refine am 3 V (sgr 1 119 119 [] [] (Hr_ 0 4 (Hr_ 1 1 Hn_)) hG V V fun l4 o5 fj=>ak ⟨.inr V,_,(rC V (l7 V V (i_ fj V) V) rN),(⟨(⟨A,ja,jb,jc,jq⟩:InsT),ai⟩:VInT),a_,aa,_,(fT (fT (fT (fT (fT (fT (b2) b4) ds) dt) dv) d1) hm),(HS.forget fj),V,M,M,M,M,M,a9,(vin_mk ho.2 g1.1 g1.2 e5 hja hjb hjc hjq),(decide_eq_true hck)⟩)
end m4
open m4
namespace m5
variable (ex:FuncId) {F:Fz} {H:Heap} {R:List Fp}
theorem vin_ldi{params regs r op:Int}(A:0<=r/\r<regs)(E:op=13\/op=38/\r<params):eV params regs ⟨⟨op,r,0,0,r⟩,[]⟩=true:=by
 rcases E with rfl|⟨rfl,hp⟩
 ·exact vin_mk e_ (.inr V) o_ V (opOK_t e_ A) (lj e_ V) (lj e_ V) V
 exact vin_mk e_ (.inr V) o_ V (opOK_t e_ A) (lj e_ V) (lj e_ V) (decide_eq_true ⟨A.1,hp⟩)
theorem eS{α:Type}{p:α->Bool}{l:List α}{x:α}(h:l.all p=true)(A:p x=true):(l++[x]).all p=true:=by rw[a2n,h];simp[A]
theorem blk_mk{params regs nb e g t f:Int}{l}(h:l.all (eV params regs)=true)(A:e=1/\0<=t/\t<nb/\f=0/\g=0\/e=2/\0<=t/\t<nb/\0<=f/\f<nb/\0<=g/\g<regs\/e=3/\0<=g/\g<regs/\t=0/\f=0\/e=4/\1<=t/\t<33554432/\f=0/\g=0):jZ params regs nb ⟨l,e,g,t,f⟩=true:=jz h (bY.2 A)
theorem ins_snoc{l:List BlkT}{x:BlkT}(h: ∀y∈l,y.v.length<=11)(E:x.v.length<=11): ∀y∈l++[x],y.v.length<=11:=fun y A=>by
 rcases a09.1 A with A|A
 ·exact h y A
 rw[a0b]at A;rw[A];exact E
theorem ins_at{l:List BlkT}(h: ∀y∈l,y.v.length<=11)(j:Nat):(l.getD j v_).v.length<=11:=by
 rw[a03];rcases A:l[j]? with _|y
 ·exact a0r _
 exact h y (a0m A)
def fstOK(A:List VInT):Prop:= ∀q:Nat,q<A.length->(A.getD q v_).i.a=q/\((A.getD q v_).i.op=13\/(A.getD q v_).i.op=38)
theorem fst_snoc{E x}(h:fstOK E)(T:x.i.a=(E.length:Int)/\(x.i.op=13\/x.i.op=38)):fstOK (E++[x]):=fun q N=>by
 rw[a02]at N;simp only[a04,a07]at N;rcases a0k q E.length with A|A
 ·rw[a03,a0Q A,←a03];exact h q A
 have:q=E.length:=M
 subst this;rw[a03,a0S (a0d _),a1R];exact T
theorem first_snoc{l:List BlkT}{x y:BlkT}(h:l.getD 0 v_=x)(A:0<l.length):(l++[y]).getD 0 v_=x:=by rw[a03,a0Q A,←a03];exact h
theorem ck_ldi{v}(A:v.i.op=13\/v.i.op=38):ckI v=true:=decide_eq_true ⟨fun h=>by omega,fun h=>by omega⟩
structure vfG(x:VFnT)(params:Int):Prop where
 val:cb x=true
 par:x.m=params
 r:x.r=9+params
 nb:2<=x.u.length/\x.u.length<=7
 v: ∀j,(x.u.getD j v_).v.length<=11
 ck:x.u.all (fun y=>y.v.all ckI)=true
 fst: ∃fi,x.u.getD 0 v_=⟨fi,1,0,1,0⟩/\(fi.length:Int)=x.r/\fstOK fi
theorem val_mk{p r:Int}{l}{n:Int}(h:0<=p/\p<=6/\0<=r/\r<=3000/\1<=l.length/\l.length<=1000)(E:(l.length:Int)=n)(A:l.all (jZ p r n)=true):cb ⟨p,r,l⟩=true:=by subst E;exact(val_yes (c:=⟨p,r,l⟩) h A).symm
theorem vf_c{ao ay}(l:List Int)(params:Int)(hs:Hb H F H [] R)(hl:Sr F ao l ay)(hT:TB 37 tabC F)(hp:0<=params/\params<=2)(rv:l.length<=1000):kKt ex 27 [(sL ao l.length ay),params] H fun v H'=> ∃(x:VFnT),∃d1,∃(g7:Nat),∃F',F.le F'/\Hb H F' H' [] R/\v= .agg ⟨[iI x.m,iI x.r,sL d1 x.u.length g7]⟩/\in64 x.m/\in64 x.r/\Sr F' d1 x.u g7/\(vfG x params):=by
 refine aB Tryz.func27 V V (am 1 V (ab (zn hs V fun b1 H2 nx=>ae 2 V (ab ?_))));refine bK 2 0 16 17 [] [(17,(aG [params,(iI 9),N_]))] Hn_ K_ V fun _=>zn nx V fun b4 H5 n1=>sgo 1 3 1 0 [] [] (Hr_ 3 1 Hn_) n1 V V fun qh H6 n2=>ae 2 V (wR 3 [] 18 22 [6] [(6,(iI (1+(if(5:Int)<((l.length/6:Nat):Int) then(5:Int) else((l.length/6:Nat):Int)))))] (vA (vA (show(6:Int)≠0 from by decide) (vi (n:=((l.length/6:Nat):Int)))) (vA (vi (n:=1+(if(5:Int)<((l.length/6:Nat):Int) then(5:Int) else((l.length/6:Nat):Int)))) trivial)) V fun _=>?_)
 have hM:1<=(1+(if(5:Int)<((l.length/6:Nat):Int) then(5:Int) else((l.length/6:Nat):Int)))/\(1+(if(5:Int)<((l.length/6:Nat):Int) then(5:Int) else((l.length/6:Nat):Int)))<=6:=M
 let a3:Fp:=(fP b1 [(iI 0),(iI 0),N_])
 refine wT 2 [] 1 0 [7] [(7,(iI 0))] V fun _=>aj (fun(mm:Nat) f H'=> ∃(i:Nat),∃F',F.le F'/\Hb H F' H' [a3,(fP b4 [params,(iI (9+(i:Int))),N_])] R/\aA f [(0,(sL ao l.length ay)),(1,params),(4,(pT b1 0)),(5,(pT b4 0)),(6,(iI (1+(if(5:Int)<((l.length/6:Nat):Int) then(5:Int) else((l.length/6:Nat):Int))))),(7,(i:Int))]/\mm=(params-(i:Int)).toNat/\((i:Int)<=params)) _ ⟨0,_,fR,n2,f_,V,M⟩ ?_
 rintro qv f9 H9 ⟨i,F9,c5,hA,hz,rfl,q1⟩ n3;refine au _ hz (fun _=>?_);clear hz;replace hT:=hT.mono c5;replace hl:=hl.mono c5;refine am 2 V (wT 1 [] 23 25 [] [(25,(decide ((i:Int)<params)))] V fun _=>zd 3 5 (fun k6=>?_) fun k6=>?_)
 ·refine sgr 2 28 31 [] [] (Hr_ 1 1 (Ha_ (vi (n:=(9+(i:Int))+1)) (Hr_ 4 1 Hn_))) hA V V fun oY pA h9=>wU 1 [] 26 27 [7] [(7,(iI ((i:Int)+1)))] (vi (n:=(i:Int)+1)) V fun _=>?_
  refine n3 _ _ _ ?_ ⟨i+1,_,(c5),h9,f_,V,M⟩;omega
 refine ab (zn hA V fun b2 pB ib=>ae 3 V (wT 2 [] 1 0 [9] [(9,(iI 0))] V fun _=>?_));have ih:=HS.snoc ib;let hI:Fp:=(fP b4 [params,(iI (9+(i:Int))),N_])
 refine aj (fun(mm:Nat) f H'=> ∃(fi:List VInT) (r:Nat),∃ar N,∃(U:Nat),∃F',F9.le F'/\Hb H F' H' [a3,hI,(fP b2 [(sL N fi.length U),(iI 0),(iI 0),(iI 0),(iI 0)]),ar] R/\OZ F' N fi U ar/\aA f [(0,(sL ao l.length ay)),(1,params),(4,(pT b1 0)),(5,(pT b4 0)),(6,(iI (1+(if(5:Int)<((l.length/6:Nat):Int) then(5:Int) else((l.length/6:Nat):Int))))),(8,(pT b2 0)),(9,(r:Int))]/\mm=(9+(i:Int)-(r:Int)).toNat/\(fi.length=r)/\(fi.all (eV params (9+(i:Int)))=true)/\(fi.all ckI=true)/\(fstOK fi)/\((r:Int)<=9+(i:Int))) _ ⟨([]:List VInT),0,[],none,0,_,fR,ih,(OS.nil:OS _ N_ ([]:List VInT) []),f_,V,m_,m_,m_,(by intro q hq;cases hq),M⟩ ?_;rintro pe p9 pC ⟨fi,r,ar,N,U,kx,a8,b7,aq,e0,rfl,w1,w2,w4,w5,w3⟩ ka;refine au _ e0 (fun _=>?_);clear e0;replace hT:=hT.mono a8;replace hl:=hl.mono a8;refine am 2 V (aU 1 32 35 [] [(35,(decide ((r:Int)<9+(i:Int))))] (Hr_ 2 1 Hn_) b7 V V fun _=>zd 4 5 (fun k7=>?_) fun k7=>?_)
 ·refine ab (bK 3 0 38 40 [] [(40,(aG [(iI 13),(r:Int),(iI 0),(iI 0),(r:Int)]))] Hn_ K_ V fun _=>zn b7 V fun hw pD ii=>sgo 1 4 1 0 [] [] (Hr_ 4 4 Hn_) ii V V fun oZ pE f3=>ae 3 V (wT 1 [] 41 43 [] [(43,(decide ((r:Int)<params)))] V fun _=>?_));refine ba (fun f H'=> ∃(vo:Int),∃F',kx.le F'/\Hb H F' H' [a3,hI,(fP b2 [(sL N fi.length U),(iI 0),(iI 0),(iI 0),(iI 0)]),ar,(fP hw [vo,(r:Int),(iI 0),(iI 0),(r:Int)])] R/\aA f [(0,(sL ao l.length ay)),(1,params),(4,(pT b1 0)),(5,(pT b4 0)),(6,(iI (1+(if(5:Int)<((l.length/6:Nat):Int) then(5:Int) else((l.length/6:Nat):Int))))),(8,(pT b2 0)),(9,(r:Int)),(10,(pT hw 0))]/\(vo=13\/vo=38/\(r:Int)<params)) (fun g4=>?_) ?_
  ·refine zd 0 0 (fun k8=>?_) fun k8=>?_
   ·refine sgr 0 44 46 [] [] (Hr_ 3 4 Hn_) f3 V V fun o0 pG ik=>?_
    exact g4 _ _ ⟨38,_,fR,ik,f_,M⟩
   exact g4 _ _ ⟨13,_,fR,f3,f_,M⟩
  skip;rintro qa pF ⟨vo,pj,d2,f4,fd,hvo⟩;refine au _ fd (fun _=>?_);clear fd;replace aq:=aq.mono d2;refine am 1 V (ab (aS 4 0 47 50 [] [(48,(sL N fi.length U)),(50,(aG [vo,(r:Int),(iI 0),(iI 0),(r:Int),N_]))] (Hr_ 1 2 (Hr_ 2 4 Hn_)) f4 V V fun _=>zlo ([(⟨(⟨vo,(r:Int),0,0,(r:Int)⟩:InsT),([]:List Int)⟩:VInT)]:List VInT) f4 V (RL.cs ⟨none,0,V,M,M,M,M,M,SR.nil⟩ RL.nl) V fun p6 qs qw pH h3 f5=>zao 3 aq f5 (OS.sv h3 f5 (i:=5) V) V V V M fun k4 n4 n6 pI h4 il=>sgo 2 6 53 53 [] [] (Hr_ 7 2 Hn_) il V V fun o1 pJ it=>?_));refine ae 2 V (wU 1 [] 36 37 [9] [(9,(iI ((r:Int)+1)))] (vi (n:=(r:Int)+1)) V fun _=>?_);refine ka _ _ _ ?_ ⟨fi++([(⟨(⟨vo,(r:Int),0,0,(r:Int)⟩:InsT),([]:List Int)⟩:VInT)]:List VInT),r+1,n6,k4,n4,_,(fT (a8) d2),(HS.sub it (a01 _ _)),h4,f_,V,l_,(eS w2 (vin_ldi M M)),(eS w4 (ck_ldi M)),(fst_snoc w5 ⟨by rw[w1],M⟩),M⟩;omega
 refine sgr 2 54 55 [] [] (Hr_ 1 2 (Hr_ 3 2 Hn_)) b7 V V fun o2 pK f6=>ab (aS 3 0 56 58 [] [(57,N_),(58,(aG [(sL N fi.length U),(iI 1),(iI 0),(iI 1),(iI 0)]))] (Hr_ 1 1 (Hr_ 2 2 Hn_)) f6 V V fun _=>?_)
 obtain⟨dt,b3,iv,h8,pc⟩:=OS.frz aq f6 (i:=3) V;refine zlo ([(⟨fi,1,0,1,0⟩:BlkT)]:List BlkT) iv V (RL.cs ⟨N,U,V,M,M,M,M,h8⟩ RL.nl) V fun p7 qt dl pL h5 iz=>?_
 have f7:=HS.snoc iz;refine zao 5 (OS.nil:OS dt N_ ([]:List BlkT) []) f7 (OS.sv h5 f7 (i:=4) V) V V V M fun hv hB hC pM b6 i1=>?_
 have b6:OS dt (sL hv ([(⟨fi,1,0,1,0⟩:BlkT)]:List BlkT).length hB) ([(⟨fi,1,0,1,0⟩:BlkT)]:List BlkT) hC:=b6;let dn:Fp:=(fP b2 [(sL N fi.length U),(iI 1),(iI 0),(iI 1),(iI 0)])
 refine sgo 2 5 61 61 [] [] (Hr_ 6 1 Hn_) i1 V V fun o3 pN i2=>ae 3 V (wT 2 [] 1 0 [11] [(11,(iI 0))] V fun _=>aj (fun(mm:Nat) f H'=> ∃(bl:List BlkT) (b:Nat),∃ag Z,∃(aa:Nat),∃F',dt.le F'/\Hb H F' H' [a3,(fP b4 [params,(iI (9+(i:Int))),(sL Z bl.length aa)]),dn,[],dl,ag] R/\OZ F' Z bl aa ag/\aA f [(0,(sL ao l.length ay)),(4,(pT b1 0)),(5,(pT b4 0)),(6,(iI (1+(if(5:Int)<((l.length/6:Nat):Int) then(5:Int) else((l.length/6:Nat):Int))))),(11,(b:Int))]/\mm=((1+(if(5:Int)<((l.length/6:Nat):Int) then(5:Int) else((l.length/6:Nat):Int)))-(b:Int)).toNat/\(bl.length=b+1)/\(bl.all (jZ params (9+(i:Int)) ((1+(if(5:Int)<((l.length/6:Nat):Int) then(5:Int) else((l.length/6:Nat):Int)))+1))=true)/\(∀y∈bl,y.v.length<=11)/\(bl.all (fun y=>y.v.all ckI)=true)/\(bl.getD 0 v_=⟨fi,1,0,1,0⟩)/\((b:Int)<=(1+(if(5:Int)<((l.length/6:Nat):Int) then(5:Int) else((l.length/6:Nat):Int))))) _ ⟨([(⟨fi,1,0,1,0⟩:BlkT)]:List BlkT),0,hC,hv,hB,_,fR,i2,b6,f_,V,m_,(eS (l:=[]) V (blk_mk w2 M)),(ins_snoc (l:=[]) o_ M),(eS (l:=[]) V w4),m_,M⟩ ?_)
 rintro pf qb pO ⟨bl,b,ag,Z,aa,ky,a9,f8,A,fj,rfl,e1,e2,e3,e5,e6,e4⟩ kc;refine au _ fj (fun _=>?_);clear fj;replace hT:=(hT.mono b3).mono a9;replace hl:=(hl.mono b3).mono a9;refine am 2 V (wT 1 [] 62 64 [] [(64,(decide ((b:Int)<1+(if(5:Int)<((l.length/6:Nat):Int) then(5:Int) else((l.length/6:Nat):Int)))))] V fun _=>zd 4 5 (fun k9=>?_) fun k9=>?_)
 ·refine ab (zn f8 V fun a1 pP i3=>ae 3 V (wT 2 [] 1 0 [13] [(13,(iI 0))] V fun _=>?_));have i4:=HS.snoc i3;let ha:Fp:=(fP b4 [params,(iI (9+(i:Int))),(sL Z bl.length aa)])
  refine aj (fun(mm:Nat) f H'=> ∃(xi:List VInT) (k:Nat),∃an T,∃(a_:Nat),∃F',ky.le F'/\Hb H F' H' [a3,ha,dn,[],dl,ag,(fP a1 [(sL T xi.length a_),(iI 0),(iI 0),(iI 0),(iI 0)]),an] R/\OZ F' T xi a_ an/\aA f [(0,(sL ao l.length ay)),(4,(pT b1 0)),(5,(pT b4 0)),(6,(iI (1+(if(5:Int)<((l.length/6:Nat):Int) then(5:Int) else((l.length/6:Nat):Int))))),(11,(b:Int)),(12,(pT a1 0)),(13,(k:Int))]/\mm=5-k/\(xi.length=k)/\(xi.all (eV params (9+(i:Int)))=true)/\(xi.all ckI=true)/\(k<=5)) _ ⟨([]:List VInT),0,[],none,0,_,fR,i4,(OS.nil:OS _ N_ ([]:List VInT) []),f_,V,m_,m_,m_,M⟩ ?_;rintro pg qc hu ⟨xi,k,an,T,a_,pm,a2,av,E,f0,rfl,z1,z2,z4,z3⟩ kd;refine au _ f0 (fun _=>?_);clear f0;replace hT:=hT.mono a2;replace hl:=hl.mono a2;replace A:=A.mono a2;refine am 2 V (wR 1 [] 67 77 [] [(77,((decide ((k:Int)<5))&&(decide ((6 *(b:Int))+(k:Int)<(l.length:Int)))))] (vA (fun(g1:(decide ((k:Int)<5))=true)=>(vi (n:=6 *(b:Int)) (by(try simp only[BS]at g1);(first|omega|(dsimp only;omega))))) (vA (fun(g1:(decide ((k:Int)<5))=true)=>(vi (n:=(6 *(b:Int))+(k:Int)) (by(try simp only[BS]at g1);(first|omega|(dsimp only;omega))))) trivial)) V fun _=>zI 3 5 (fun lf=>?_) fun lf=>?_)
  ·refine aC V ?_;obtain⟨oV,g2⟩:=Sv.view (SR.sv hl av);have qf:=fI (g2 ((6 *b)+k));refine cN 10 80 89 [] [(81,(sL T xi.length a_)),(88,(l.getD ((6 *b)+k) 0)),(89,(aG [params,(iI (9+(i:Int))),(sL Z bl.length aa)]))] (Hr_ 1 6 (Ha_ (vi (n:=6 *(b:Int))) (Ha_ (vi (n:=(6 *(b:Int))+(k:Int))) (Ha_ (Sv.ix (j:=(6 *(b:Int))+(k:Int)) (SR.sv hl av)) (Hl_ 8 (ql 3 0 (hc0 (vI (g2 ((6 *b)+k)))) V V) (Hr_ 9 1 Hn_)))))) av V V fun _=>aQ (W:=[]) (aP V V V) V V V (m4.vi_c ex (l.getD ((6 *b)+k) 0) (⟨params,9+(i:Int),bl⟩:VFnT) (HS.call av.log0) M M M hT M) (⟨.inl V,.inl V,.inl V,.inl V,.inl V,.inl V,.inl V,.inl V,.inr a0g,q_⟩) ?_
   rintro _ k3 ⟨hH,dv,g6,pn,em,ax,rfl,kl,kn,ko,kp,kr,ds,qi,o9⟩;refine⟨Wr.did ax.log,fun ki he=>?_⟩;replace ax:=HS.back av.log0 V ax;replace ax:=HS.lg ax av he;generalize ({k3 with log:=ki}:Heap)=oQ at ax⊢;replace E:=E.mono em;refine zld [hH] ax V (RL.cs ⟨dv,g6,V,M,M,M,M,M,ds⟩ RL.nl) V fun p8 qu qx oR h6 go=>zad 7 E go (OS.sv h6 go (i:=8) V) V V V M (kb V) fun k5 n5 n7 oT h7 i5=>sdo 2 93 93 [] [] (Hr_ 14 6 Hn_) i5 V V fun o4 pQ jb=>aW 2 V (wU 1 [] 78 79 [13] [(13,(iI ((k:Int)+1)))] (vi (n:=(k:Int)+1)) V fun _=>?_)
   refine kd _ _ _ ?_ ⟨xi++[hH],k+1,n7,k5,n5,_,(fT (a2) em),(HS.sub jb (a01 _ _)),h7,f_,V,l_,(eS z2 X),(eS z4 X),M⟩;omega
  refine wT 3 [] 1 0 [14] [(14,(iI 0))] V fun _=>wR 1 [] 94 99 [] [(99,(decide ((6 *(b:Int))+5<(l.length:Int))))] (vA (vi (n:=6 *(b:Int))) (vA (vi (n:=(6 *(b:Int))+5)) trivial)) V fun _=>ba (fun f H'=> ∃(nn:Int),H'=hu/\aA f [(0,(sL ao l.length ay)),(4,(pT b1 0)),(5,(pT b4 0)),(6,(iI (1+(if(5:Int)<((l.length/6:Nat):Int) then(5:Int) else((l.length/6:Nat):Int))))),(11,(b:Int)),(12,(pT a1 0)),(14,nn)]/\(in64 nn)) (fun g5=>?_) ?_
  ·refine zd 0 0 (fun ll=>?_) fun ll=>?_
   ·obtain⟨oW,g3⟩:=Sv.view (SR.sv hl av);have qg:=fI (g3 ((6 *b)+5));refine wrp 0 100 105 [14] [(14,(l.getD ((6 *b)+5) 0))] (Ha_ (vi (n:=6 *(b:Int))) (Ha_ (vi (n:=(6 *(b:Int))+5)) (Ha_ (Sv.ix (j:=(6 *(b:Int))+5) (SR.sv hl av)) (Hl_ 5 (ql 3 0 (vI (g3 ((6 *b)+5))) V V) Hn_)))) K_ V fun _=>?_
    exact g5 _ _ ⟨(l.getD ((6 *b)+5) 0),V,f_,M⟩
   exact g5 _ _ ⟨0,V,f_,M⟩
  skip;rintro qd hu ⟨nn,rfl,f1,hnn⟩;refine au _ f1 (fun _=>?_);clear f1;refine am 2 V (ab (wTo 2 0 [] 106 107 [] [(107,(aG [nn]))] V fun _=>aT (aN av V V) V V ?_));rintro _ pR _ ⟨aw,rfl,gt,_⟩;refine za (pT aw 0) (ae 3 V (ab (zm (pT aw 0) (zc (m4.cR ex (⟨nn⟩:DigT) (6) (HS.callOwn gt (i:=8) V) M M hT M) ?_))));rintro _ pS ⟨g8,a5,kz,bb,ap,rfl,l4,qj⟩;replace ap:=gt.bO ap;replace hT:=hT.mono bb;replace A:=A.mono bb;replace E:=E.mono bb;refine ae 3 V (wT 1 [] 127 128 [] [(127,(g8==0))] V fun _=>ba (fun f H'=> ∃(xe:Int) (xg:Int) (xt:Int) (xf:Int) (dd:DigT),∃F',kz.le F'/\Hb H F' H' [a3,ha,dn,[],dl,ag,(fP a1 [(sL T xi.length a_),xe,xg,xt,xf]),an,(fP aw [dd.n])] R/\aA f [(0,(sL ao l.length ay)),(4,(pT b1 0)),(5,(pT b4 0)),(6,(iI (1+(if(5:Int)<((l.length/6:Nat):Int) then(5:Int) else((l.length/6:Nat):Int))))),(11,(b:Int)),(12,(pT a1 0))]/\((xe=1/\0<=xt/\xt<((1+(if(5:Int)<((l.length/6:Nat):Int) then(5:Int) else((l.length/6:Nat):Int))))+1/\xf=0/\xg=0\/xe=2/\0<=xt/\xt<((1+(if(5:Int)<((l.length/6:Nat):Int) then(5:Int) else((l.length/6:Nat):Int))))+1/\0<=xf/\xf<((1+(if(5:Int)<((l.length/6:Nat):Int) then(5:Int) else((l.length/6:Nat):Int))))+1/\0<=xg/\xg<9+(i:Int)\/xe=3/\0<=xg/\xg<9+(i:Int)/\xt=0/\xf=0\/xe=4/\1<=xt/\xt<33554432/\xf=0/\xg=0))/\(in64 dd.n)) (fun bz=>?_) ?_)
  ·refine zI 0 1 (fun lr=>?_) fun lr=>?_
   ·refine ab (bK 2 0 129 130 [] [(129,(pT aw 0)),(130,(iI (1+(if(5:Int)<((l.length/6:Nat):Int) then(5:Int) else((l.length/6:Nat):Int)))))] Hn_ K_ V fun _=>zc (m4.cR ex (⟨a5.n⟩:DigT) (1+(if(5:Int)<((l.length/6:Nat):Int) then(5:Int) else((l.length/6:Nat):Int))) (HS.callOwn ap (i:=8) V) M M hT M) ?_);rintro _ pV ⟨hE,hL,pq,hW,b9,rfl,l9,qk⟩;replace b9:=ap.bO b9;refine sgo 5 3 132 134 [] [] (Ha_ (vi (n:=1+hE)) (Hr_ 5 6 (Hr_ 7 6 Hn_))) b9 V V fun o5 pW jq=>ae 0 V ?_
    exact bz _ _ ⟨1,0,1+hE,0,(⟨hL.n⟩:DigT),_,(hW),jq,f_,M,M⟩
   refine wT 1 [] 135 136 [] [(135,(g8==1))] V fun _=>zI 0 1 (fun lv=>?_) fun lv=>?_
   ·refine ab (zm (pT aw 0) (zc (m4.cR ex (⟨a5.n⟩:DigT) (9) (HS.callOwn ap (i:=8) V) M M hT M) ?_));rintro _ pX ⟨hF,hO,pu,hX,cc,rfl,mk,qm⟩;replace cc:=ap.bO cc;refine sgo 5 2 139 141 [] [] (Ha_ (vi (n:=1+hF)) (Hr_ 4 6 (Hr_ 6 6 Hn_))) cc V V fun o6 pY jw=>ae 0 V ?_
    exact bz _ _ ⟨4,0,1+hF,0,(⟨hO.n⟩:DigT),_,(hX),jw,f_,M,M⟩
   refine wT 1 [] 142 143 [] [(142,(g8==2))] V fun _=>zI 0 0 (fun lz=>?_) fun lz=>?_
   ·refine ab (aS 3 0 144 146 [] [(144,(pT aw 0)),(146,(iI (9+(i:Int))))] (Hr_ 2 1 Hn_) ap V V fun _=>zc (m4.cR ex (⟨a5.n⟩:DigT) (9+(i:Int)) (HS.callOwn ap (i:=8) V) M M hT M) ?_);rintro _ pZ ⟨oa,hP,pw,h1,ch,rfl,mx,qo⟩;replace ch:=ap.bO ch;refine sgo 4 4 148 149 [] [] (Hr_ 5 6 (Hr_ 7 6 Hn_)) ch V V fun o7 p0 j1=>ae 0 V ?_
    exact bz _ _ ⟨3,oa,0,0,(⟨hP.n⟩:DigT),_,(h1),j1,f_,M,M⟩
   refine ab (aS 3 0 111 113 [] [(111,(pT aw 0)),(113,(iI (9+(i:Int))))] (Hr_ 2 1 Hn_) ap V V fun _=>zc (m4.cR ex (⟨a5.n⟩:DigT) (9+(i:Int)) (HS.callOwn ap (i:=8) V) M M hT M) ?_);rintro _ p2 ⟨ob,hQ,px,et,bk,rfl,mI,qp⟩;replace bk:=ap.bO bk;replace hT:=hT.mono et;refine bK 2 4 115 116 [] [(115,(pT aw 0)),(116,(iI (1+(if(5:Int)<((l.length/6:Nat):Int) then(5:Int) else((l.length/6:Nat):Int)))))] Hn_ K_ V fun _=>zc (m4.cR ex (⟨hQ.n⟩:DigT) (1+(if(5:Int)<((l.length/6:Nat):Int) then(5:Int) else((l.length/6:Nat):Int))) (HS.callOwn bk (i:=8) V) M M hT M) ?_
   rintro _ p3 ⟨g9,hR,py,ez,bt,rfl,m0,qq⟩;replace bt:=bk.bO bt;replace hT:=hT.mono ez;refine bK 3 7 118 120 [] [(118,(iI (1+g9))),(119,(pT aw 0)),(120,(iI (1+(if(5:Int)<((l.length/6:Nat):Int) then(5:Int) else((l.length/6:Nat):Int)))))] (Ha_ (vi (n:=1+g9)) Hn_) K_ V fun _=>zc (m4.cR ex (⟨hR.n⟩:DigT) (1+(if(5:Int)<((l.length/6:Nat):Int) then(5:Int) else((l.length/6:Nat):Int))) (HS.callOwn bt (i:=8) V) M M hT M) ?_
   rintro _ p4 ⟨hG,hS,pz,h2,ci,rfl,nm,qr⟩;replace ci:=bt.bO ci;refine sgo 9 11 122 126 [] [] (Ha_ (vi (n:=1+hG)) (Hr_ 13 6 (Hr_ 15 6 (Hr_ 17 6 (Hr_ 19 6 Hn_))))) ci V V fun o8 p5 j2=>ae 0 V ?_
   exact bz _ _ ⟨2,ob,1+g9,1+hG,(⟨hS.n⟩:DigT),_,(fT (fT (et) ez) h2),j2,f_,M,M⟩
  skip;rintro qe pU ⟨xe,xg,xt,xf,dd,k0,b5,b8,f2,hD,hdd⟩;refine au _ f2 (fun _=>?_);clear f2;replace A:=A.mono b5;replace E:=E.mono b5;refine am 4 V (wrp 1 150 158 [] [(158,(((b:Int)==(1+(if(5:Int)<((l.length/6:Nat):Int) then(5:Int) else((l.length/6:Nat):Int)))-1)&&(xe==1)))] (Ha_ (vi (n:=(1+(if(5:Int)<((l.length/6:Nat):Int) then(5:Int) else((l.length/6:Nat):Int)))-1)) (bp 6 (fun _=>(ql 3 1 (HS.hc b8 (i:=6) V) V V)) Hn_)) V V fun _=>ba (fun f H'=> ∃(ye:Int) (yg:Int) (yt:Int),∃F',k0.le F'/\Hb H F' H' [a3,ha,dn,[],dl,ag,(fP a1 [(sL T xi.length a_),ye,yg,yt,xf]),an,(fP aw [dd.n])] R/\aA f [(0,(sL ao l.length ay)),(4,(pT b1 0)),(5,(pT b4 0)),(6,(iI (1+(if(5:Int)<((l.length/6:Nat):Int) then(5:Int) else((l.length/6:Nat):Int))))),(11,(b:Int)),(12,(pT a1 0))]/\((ye=1/\0<=yt/\yt<((1+(if(5:Int)<((l.length/6:Nat):Int) then(5:Int) else((l.length/6:Nat):Int))))+1/\xf=0/\yg=0\/ye=2/\0<=yt/\yt<((1+(if(5:Int)<((l.length/6:Nat):Int) then(5:Int) else((l.length/6:Nat):Int))))+1/\0<=xf/\xf<((1+(if(5:Int)<((l.length/6:Nat):Int) then(5:Int) else((l.length/6:Nat):Int))))+1/\0<=yg/\yg<9+(i:Int)\/ye=3/\0<=yg/\yg<9+(i:Int)/\yt=0/\xf=0\/ye=4/\1<=yt/\yt<33554432/\xf=0/\yg=0))) (fun dk=>?_) ?_)
  ·refine zI 0 0 (fun hK=>?_) fun hK=>?_
   ·refine sgr 0 159 161 [] [] (Hr_ 1 6 (Hr_ 3 6 (Hr_ 5 6 Hn_))) b8 V V fun ox oK hk=>?_
    exact dk _ _ ⟨3,0,0,_,fR,hk,f_,M⟩
   exact dk _ _ ⟨xe,xg,xt,_,fR,b8,f_,M⟩
  skip;rintro oX oJ ⟨ye,yg,yt,oF,a7,c7,c6,hY⟩;refine au _ c6 (fun _=>?_);clear c6;replace E:=E.mono a7;refine am 1 V (ab (aS 3 0 162 164 [] [(163,(sL Z bl.length aa)),(164,(aG [(sL T xi.length a_),ye,yg,yt,xf]))] (Hr_ 1 1 (Hr_ 2 6 Hn_)) c7 V V fun _=>?_));obtain⟨oG,co,hm,hh,oD⟩:=OS.frz E c7 (i:=7) V;replace A:=(A.mono a7).mono co;refine zlo ([(⟨xi,ye,yg,yt,xf⟩:BlkT)]:List BlkT) hm V (RL.cs ⟨T,a_,V,M,M,M,M,hh⟩ RL.nl) V fun oU pd ph oL hf c8=>zao 5 A c8 (OS.sv hf c8 (i:=9) V) V V V M fun hJ kg kk oM hg hn=>sgo 2 5 167 167 [] [] (Hr_ 6 1 Hn_) hn V V fun oy oO hr=>ae 2 V (wU 1 [] 65 66 [11] [(11,(iI ((b:Int)+1)))] (vi (n:=(b:Int)+1)) V fun _=>?_)
  refine kc _ _ _ ?_ ⟨bl++([(⟨xi,ye,yg,yt,xf⟩:BlkT)]:List BlkT),b+1,kk,hJ,kg,_,(fT (fT (fT (fT (fT (a9) a2) bb) b5) a7) co),(HS.sub hr (a01 _ _)),hg,f_,V,l_,(eS e2 (blk_mk z2 M)),(ins_snoc e3 M),(eS e5 z4),(first_snoc e6 M),M⟩;omega
 refine sgr 1 168 168 [] [] (Hr_ 0 1 (Hr_ 1 0 Hn_)) f8 V V fun oz oP c9=>?_
 obtain⟨oH,hb,ht,hj,oE⟩:=OS.frz A c9 (i:=5) V;refine ak ⟨.inr V,_,(rC V (l7 V V (h_ c9 V) V) rN),(⟨params,9+(i:Int),bl⟩:VFnT),Z,aa,_,(fT (fT (fT (fT (c5) a8) b3) a9) hb),(HS.forget ht),V,M,M,hj,(⟨val_mk M M e2,V,M,⟨M,M⟩,ins_at e3,e5,fi,e6,M,w5⟩)⟩
end m5
open m5
namespace m6
variable (ex:FuncId) {F:Fz} {H:Heap} {R:List Fp}
def jH(l:List Int)(n:Int):Nat:=(l.takeWhile (fun x=>decide (x<n))).length
def dI(l:List Int)(n:Int):List Int:=if jH l n<l.length/\l.getD (jH l n) 0=n then l else l.take (jH l n)++[n]++l.drop (jH l n)
theorem pre_eq: ∀{l:List Int} {n:Int} {k:Nat},k<=l.length->(∀j,j<k->l.getD j 0<n)->(k<l.length->¬l.getD k 0<n)->k=jH l n
 | [],n,k,hk,_,_=>by simp at hk;subst hk;rfl
 |x::l,n,0,_,_,h=>by have h0: ¬x<n:=h o_;unfold jH;rw[List.takeWhile_cons_of_neg (by simpa using h0)];rfl
 |x::l,n,k+1,hk,hl,h=>by have h0:x<n:=hl 0 M;have:=pre_eq (l:=l) (n:=n) (k:=k) (by simpa using hk) (fun j A=>hl (j+1) M) (fun A=>h (by simpa using A));unfold jH at this⊢;rw[List.takeWhile_cons_of_pos (by simpa using h0),a04,←this]
theorem nH{l}{n:Int}{k}(E:k=jH l n)(h:k<l.length)(A:l.getD k 0=n):l=dI l n:=by subst E;unfold dI;rw[if_pos ⟨h,A⟩]
theorem ins_new{l}{n:Int}{k}(A:k=jH l n)(h: ¬(k<l.length/\l.getD k 0=n)):l.take k++[n]++l.drop k=dI l n:=by subst A;unfold dI;rw[if_neg h]
theorem ins_len{l}{n:Int}:(dI l n).length<=l.length+1:=by
 unfold dI;split
 ·omega
 simp only[a02,a0o,a0H,a04,a07];omega
def im(l:List Int)(n:Int):Bool:=l.any (fun x=>decide (x=n))
theorem con_no{l}{n:Int}{k}(h: ∀j,j<k->¬l.getD j 0=n)(N:l.length<=k):false=im l n:=by symm;unfold im;rw[List.any_eq_false];intro x E;obtain⟨j,A,rfl⟩:=a0x.1 E;have:=h j M;rw[a03,a06 A]at this;simpa using this
theorem con_yes{l}{n:Int}{k}(A:k<l.length)(h:l.getD k 0=n):true=im l n:=by symm;unfold im;rw[List.any_eq_true];refine⟨l.getD k 0,?_,by simpa using h⟩;rw[a03,a06 A];exact a0T A
theorem same_yes{a b:List Int}(N:a.length=b.length){k:Nat}(h: ∀j,j<k->a.getD j 0=b.getD j 0)(T:a.length<=k):true=decide (a=b):=by symm;apply decide_eq_true;apply List.ext_getElem N;intro j A E;have:=h j M;rwa [a03,a03,a06 A,a06 E]at this
theorem same_no{a b:List Int}{k:Nat}(h: ¬a.getD k 0=b.getD k 0):false=decide (a=b):=by symm;apply decide_eq_false;intro e;rw[e]at h;exact h V
theorem same_len{a b:List Int}(h: ¬(a.length:Int)=(b.length:Int)):false=decide (a=b):=by symm;apply decide_eq_false;intro e;rw[e]at h;exact h V
theorem lw{p:Nat->Prop}{k:Nat}(h: ∀j,j<k->p j)(c:p k): ∀j,j<k+1->p j:=fun j E=>by
 rcases Nat.lt_succ_iff_lt_or_eq.1 E with A|rfl
 ·exact h j A
 exact c
theorem dH{ad ai}(l:List Int)(n:Int)(hs:Hb H F H [] R)(hl:Sr F ad l ai)(hn:in64 n)(hT:TB 37 tabC F)(f4:l.length<=1073741824):kKt ex 63 [(sL ad l.length ai),n] H fun v H'=> ∃ar,∃(kr:Nat) (r:List Int),∃F',F.le F'/\Hb H F' H' [] R/\v=sL ar r.length kr/\Sr F' ar r kr/\r=dI l n:=by
 refine aB Tryz.func63 V V (am 1 V (wT 2 [] 4 4 [] [(4,N_)] V fun _=>wT 3 [] 1 0 [5] [(5,(iI 0))] V fun _=>aj (fun(mm:Nat) f H'=> ∃(k:Nat),H'=H/\aA f [(0,(sL ad l.length ai)),(1,n),(5,(k:Int))]/\mm=l.length-k/\(k<=l.length)/\(∀j,j<k->l.getD j 0<n)) _ ⟨0,V,f_,V,M,(by intro j hj;omega)⟩ ?_));rintro em f3 H ⟨k,rfl,aw,rfl,h1,h2⟩ b5;refine au _ aw (fun _=>?_);clear aw;refine am 2 V ?_;obtain⟨dl,ax⟩:=Sv.view (SR.sv hl hs);have g5:=fI (ax k);refine wrp 1 6 17 [] [(17,((decide ((k:Int)<(l.length:Int)))&&(decide ((l.getD k 0)<n))))] (Ha_ (fun(A:(decide ((k:Int)<(l.length:Int)))=true)=>(Sv.ix (j:=(k:Int)) (SR.sv hl hs) (by(try simp only[BS]at A);omega) (by(try simp only[BS]at A);omega))) (bp 8 (fun A=>(ql 3 0 (vI (ax k) (by(try simp only[BS]at A);omega)) V V)) Hn_)) V V fun _=>zi 2 6 (fun c7=>?_) fun c7=>?_
 ·try simp only[BS]at c7
  refine wU 2 [] 18 19 [5] [(5,(iI ((k:Int)+1)))] (vi (n:=(k:Int)+1)) V fun _=>?_
  refine b5 _ _ _ ?_ ⟨k+1,V,f_,V,M,(lw h2 M)⟩;omega
 try simp only[BS]at c7
 have hk:=pre_eq h1 h2 M;obtain⟨dn,ay⟩:=Sv.view (SR.sv hl hs);have ds:=fI (ay k);refine wrp 1 20 31 [] [(31,((decide ((k:Int)<(l.length:Int)))&&((l.getD k 0)==n)))] (Ha_ (fun(A:(decide ((k:Int)<(l.length:Int)))=true)=>(Sv.ix (j:=(k:Int)) (SR.sv hl hs) (by(try simp only[BS]at A);omega) (by(try simp only[BS]at A);omega))) (bp 8 (fun A=>(ql 3 0 (vI (ay k) (by(try simp only[BS]at A);omega)) V V)) Hn_)) V V fun _=>zi 1 2 (fun aa=>?_) fun aa=>?_
 ·try simp only[BS]at aa
  refine wT 1 [] 4 4 [32] [(4,(sL ad l.length ai))] V fun _=>ak ⟨.inr V,_,V,ad,ai,l,_,fR,(HS.forget hs),V,hl,(nH hk M M)⟩
 try simp only[BS]at aa
 refine aC V (zfm (sL ad l.length ai) (zfm (iI (k:Int)) (eU (id:= .q fun b=>F b≠none) (jd (α:=Int) (j:=k) hl hs.log0 V V V (optN M) M) V V (by rintro _ _ _ ⟨_,_,_,hH,_⟩;exact did_q V (SR.q hl)) (kb V) ?_)));rintro _ _ _ ⟨c8,dt,rfl,E,a9⟩ b1 ap;simp only at E;replace E:=E.symm;subst E;have ag:=HS.lg hs.log0 hs ap;generalize ({{H with log:=[]} with log:=b1}:Heap)=b8 at ag⊢;have an:=HS.snoc ag;refine zad 0 (OS.nil:OS F N_ ([]:List Int) []) an (SR.sv a9 an) V V V t_ (kb V) fun b3 b6 b7 b9 T bl=>?_
 have T:OS F (sL b3 (l.take k).length b6) (l.take k) b7:=T;refine zfm (iI n) (zld [n] bl V (RL.cs ⟨V,M⟩ RL.nl) V fun c9 dv et cc a5 U=>zad 0 T U (OS.sv a5 U (i:=1) V) V V V t_ (kb V) fun dd d1 ez a2 a7 a_=>zfm (sL ad l.length ai) (zfm (iI (k:Int)) (eU (id:= .q fun b=>F b≠none) (rs_cutd (α:=Int) (i:=k) hl a_.log0 V V V (optN M) M) V V (by rintro _ _ _ ⟨_,_,_,hH,_⟩;exact did_q V (SR.q hl)) (⟨.inl V,.inl V,.inr (HS.apq U (i:=0) V),.inr trivial,.inr trivial,.inr (fun b hb=>absurd hb a0g),q_⟩) ?_)));rintro _ _ _ ⟨dk,d2,rfl,N,bb⟩ b2 aq;simp only at N;replace N:=N.symm;subst N;have Z:=HS.lg a_.log0 a_ aq;generalize ({{a2 with log:=[]} with log:=b2}:Heap)=ch at Z⊢;refine zad 0 a7 Z (SR.sv bb Z) V V V t_ (kb V) fun av a1 e0 ci a8 bt=>fa (sL av (((l.take k)++[n])++(l.drop k)).length a1) V V V (gM (am 1 V ?_))
 obtain⟨c6,a4,bz,bk,c5⟩:=OS.frz a8 bt (i:=0) V;refine ak ⟨.inr V,_,V,av,a1,((l.take k)++[n])++(l.drop k),_,(a4),(HS.forget bz),V,bk,(ins_new hk M)⟩
theorem jx{ad ag}(l:List Int)(n:Int)(hs:Hb H F H [] R)(hl:Sr F ad l ag)(hn:in64 n)(hT:TB 37 tabC F)(al:l.length<=1073741824):kKt ex 31 [(sL ad l.length ag),n] H fun v H'=> ∃(r:Bool),H'=H/\v= .bool r/\r=im l n:=by
 refine aB Tryz.func31 V V (am 1 V (wT 3 [] 4 4 [] [(4,false)] V fun _=>wT 2 [] 1 0 [5] [(5,(iI 0))] V fun _=>aj (fun(mm:Nat) f H'=> ∃(k:Nat),H'=H/\aA f [(0,(sL ad l.length ag)),(1,n),(5,(k:Int))]/\mm=l.length-k/\(k<=l.length)/\(∀j,j<k->¬l.getD j 0=n)) _ ⟨0,V,f_,V,M,(by intro j hj;omega)⟩ ?_));rintro aa f3 H ⟨k,rfl,A,rfl,h1,T⟩ U;refine au _ A (fun _=>?_);clear A;refine am 2 V (wT 1 [] 6 9 [] [(9,(decide ((k:Int)<(l.length:Int))))] V fun _=>zd 4 5 (fun a_=>?_) fun a_=>?_)
 ·obtain⟨Z,E⟩:=Sv.view (SR.sv hl hs);have g7:=fI (E k);refine wrp 1 12 17 [] [(17,((l.getD k 0)==n))] (Ha_ (Sv.ix (j:=(k:Int)) (SR.sv hl hs)) (Hl_ 3 (ql 3 0 (vI (E k)) V V) Hn_)) K_ V fun _=>zi 1 2 (fun N=>?_) fun N=>?_
  ·try simp only[BS]at N
   refine wT 1 [] 4 4 [] [(4,true)] V fun _=>ak ⟨.inr V,_,V,true,V,V,(con_yes (k:=k) M M)⟩
  try simp only[BS]at N
  refine wU 1 [] 10 11 [5] [(5,(iI ((k:Int)+1)))] (vi (n:=(k:Int)+1)) V fun _=>?_
  refine U _ _ _ ?_ ⟨k+1,V,f_,V,M,(lw T M)⟩;omega
 refine wT 1 [] 4 4 [] [(4,false)] V fun _=>ak ⟨.inr V,_,V,false,V,V,(con_no T M)⟩
theorem cG{A E}(l:List Int)(n:Int)(hs:Hb H F H [] R)(U:Sr F A l E)(Z:in64 n)(T:TB 37 tabC F)(N:l.length<=1073741824):kKt ex 31 [(S_ A l E),n] H fun v H'=>v=(.bool (im l n))/\H'=H:=
 cq (jx ex l n hs U Z T N) (by rintro _ _ ⟨_,rfl,rfl,rfl⟩;exact⟨V,V⟩)
theorem sameIntsR_c{ad al}(a:List Int){ai ao}(b:List Int)(hs:Hb H F H [] R)(ha:Sr F ad a al)(hb:Sr F ai b ao)(hT:TB 37 tabC F)(aw:a.length<=1073741824):kKt ex 44 [(sL ad a.length al),(sL ai b.length ao)] H fun v H'=> ∃(r:Bool),H'=H/\v= .bool r/\r=decide (a=b):=by
 refine aB Tryz.func44 V V (am 1 V (wT 3 [] 4 4 [] [(4,false)] V fun _=>wT 1 [] 6 10 [] [(10,((a.length:Int) !=(b.length:Int)))] V fun _=>zi 1 3 (fun c3=>?_) fun c3=>?_))
 ·try simp only[BS]at c3
  refine wT 1 [] 4 4 [] [(4,false)] V fun _=>ak ⟨.inr V,_,V,false,V,V,(same_len M)⟩
 try simp only[BS]at c3
 refine wT 2 [] 1 0 [5] [(5,(iI 0))] V fun _=>aj (fun(mm:Nat) f H'=> ∃(k:Nat),H'=H/\aA f [(0,(sL ad a.length al)),(1,(sL ai b.length ao)),(5,(k:Int))]/\mm=a.length-k/\(k<=a.length)/\(∀j,j<k->a.getD j 0=b.getD j 0)) _ ⟨0,V,f_,V,M,(by intro j hj;omega)⟩ ?_
 rintro aq f6 H ⟨k,rfl,N,rfl,h1,U⟩ a_;refine au _ N (fun _=>?_);clear N;refine am 2 V (wT 1 [] 11 14 [] [(14,(decide ((k:Int)<(a.length:Int))))] V fun _=>zd 4 5 (fun Z=>?_) fun Z=>?_)
 ·obtain⟨ag,T⟩:=Sv.view (SR.sv ha hs);have an:=fI (T k);obtain⟨aa,E⟩:=Sv.view (SR.sv hb hs);have ap:=fI (E k);refine wrDp 1 17 25 [] [(25,((a.getD k 0) !=(b.getD k 0)))] (Ha_ (Sv.ix (j:=(k:Int)) (SR.sv ha hs)) (Hl_ 3 (ql 3 0 (hc0 (vI (T k))) V V) (Ha_ (Sv.ix (j:=(k:Int)) (SR.sv hb hs)) (Hl_ 7 (ql 3 0 (hc0 (vI (E k))) V V) Hn_)))) V K_ V fun _=>zi 1 2 (fun A=>?_) fun A=>?_
  ·try simp only[BS]at A
   refine wT 1 [] 4 4 [] [(4,false)] V fun _=>ak ⟨.inr V,_,V,false,V,V,(same_no (k:=k) M)⟩
  try simp only[BS]at A
  refine wU 1 [] 15 16 [5] [(5,(iI ((k:Int)+1)))] (vi (n:=(k:Int)+1)) V fun _=>?_
  refine a_ _ _ _ ?_ ⟨k+1,V,f_,V,M,(lw U M)⟩;omega
 refine wT 1 [] 4 4 [] [(4,true)] V fun _=>ak ⟨.inr V,_,V,true,V,V,(same_yes M U M)⟩
theorem dB{A N}(a:List Int){E T}(b:List Int)(hs:Hb H F H [] R)(ha:Sr F A a N)(hb:Sr F E b T)(Z:TB 37 tabC F)(U:a.length<=1073741824):kKt ex 44 [(S_ A a N),(S_ E b T)] H fun v H'=>v=(.bool (decide (a=b)))/\H'=H:=
 cq (sameIntsR_c ex a b hs ha hb Z U) (by rintro _ _ ⟨_,rfl,rfl,rfl⟩;exact⟨V,V⟩)
theorem vfuncs_c{ai ao}(l:List Int){al a0}(m:List Int)(hs:Hb H F H [] R)(hl:Sr F ai l ao)(hm:Sr F al m a0)(hT:TB 37 tabC F):kKt ex 8 [(S_ ai l ao),(S_ al m a0)] H fun v H'=> ∃ap,∃(kp:Nat) (p:List VFnT),∃aq,∃(kq:Nat) (q:List Int),∃F',F.le F'/\Hb H F' H' [] R/\v= .tuple ⟨[sL ap p.length kp,sL aq q.length kq]⟩/\Sr F' ap p kp/\Sr F' aq q kq/\q=[3,2]/\(p.length=2/\vfG (p.getD 0 default) 2/\vfG (p.getD 1 default) 1):=by
 refine aB Tryz.func8 V V (am 1 V (wT 2 [] 4 5 [] [(4,N_),(5,N_)] V fun _=>aC V (zfm (S_ ai l ao) (zfm (S_ ai l ao) ?_))));refine bj (v:=(iI (l.length:Int))) (id:= .v) (od (α:=Int) V V (SR.sv hl hs.log0)) V V (nP V) (jg _) (bj (v:=(iI (if(36:Int)<(l.length:Int) then(36:Int) else(l.length:Int)))) (id:= .x []) (pmm_ok (w:=true) V V V) V V (dh (W:=[]) V V fun b hb=>absurd hb a0g) (kb V) (eU (id:= .q fun b=>F b≠none) (jd (α:=Int) (j:=(if(36:Int)<(l.length:Int) then(36:Int) else(l.length:Int)).toNat) hl hs.log0 V V V (optN M) M) V V (by rintro _ _ _ ⟨_,_,_,hH,_⟩;exact did_q V (SR.q hl)) (kb V) ?_));rintro _ _ _ ⟨a2,k2,rfl,U,cc⟩ c7 a7;simp only at U;replace U:=U.symm;subst U;have Z:=HS.lg hs.log0 hs a7;generalize ({{H with log:=[]} with log:=c7}:Heap)=d2 at Z⊢;refine aQ (W:=[]) (aP V V V) V V V (m5.vf_c ex (l.take (if(36:Int)<(l.length:Int) then(36:Int) else(l.length:Int)).toNat) (2) (HS.call Z.log0) cc hT M (by(simp only[a0o];omega))) (kb V) ?_;rintro _ H3 ⟨x3,ax,a1,F3,ar,A,rfl,b5,b6,E,h3⟩;refine⟨Wr.did A.log,fun c8 a9=>?_⟩;replace A:=HS.back Z.log0 V A;replace A:=HS.lg A Z a9;generalize ({H3 with log:=c8}:Heap)=b3 at A⊢;replace hT:=hT.mono ar;replace hm:=hm.mono ar;refine zfm (S_ al m a0) (zfm (S_ al m a0) (bj (v:=(iI (m.length:Int))) (id:= .v) (od (α:=Int) V V (SR.sv hm A.log0)) V V (nP V) (jg _) (bj (v:=(iI (if(18:Int)<(m.length:Int) then(18:Int) else(m.length:Int)))) (id:= .x []) (pmm_ok (w:=true) V V V) V V (dh (W:=[]) V V fun b hb=>absurd hb a0g) (⟨.inl V,.inl V,.inr trivial,.inr ⟨trivial,trivial⟩,.inr (fun b hb=>absurd hb a0g),.inr ⟨trivial,trivial⟩,q_⟩) (eU (id:= .q fun b=>F3 b≠none) (jd (α:=Int) (j:=(if(18:Int)<(m.length:Int) then(18:Int) else(m.length:Int)).toNat) hm A.log0 V V V (optN M) M) V V (by rintro _ _ _ ⟨_,_,_,hH,_⟩;exact did_q V (SR.q hm)) (⟨.inl V,.inl V,.inl V,.inl V,.inr (fun b hb=>absurd hb a0g),.inr trivial,.inr (fun b hb=>absurd hb a0g),q_⟩) ?_))));rintro _ _ _ ⟨a4,k4,rfl,a_,ch⟩ c9 bb;simp only at a_;replace a_:=a_.symm;subst a_;have aa:=HS.lg A.log0 A bb;generalize ({{b3 with log:=[]} with log:=c9}:Heap)=em at aa⊢;refine aQ (W:=[]) (aP V V V) V V V (m5.vf_c ex (m.take (if(18:Int)<(m.length:Int) then(18:Int) else(m.length:Int)).toNat) (1) (HS.call aa.log0) ch hT M (by(simp only[a0o];omega))) (kb V) ?_;rintro _ H5 ⟨x5,ay,a3,F5,a5,N,rfl,b7,b8,aw,h5⟩;refine⟨Wr.did N.log,fun dd bk=>?_⟩;replace N:=HS.back aa.log0 V N;replace N:=HS.lg N aa bk;generalize ({H5 with log:=dd}:Heap)=et at N⊢;replace E:=E.mono a5;refine zld [x3,x5] N V (RL.cs ⟨ax,a1,V,M,M,E⟩ (RL.cs ⟨ay,a3,V,M,M,aw⟩ RL.nl)) V fun a6 k6 p6 ez b9 ci=>zld ([3,2]:List Int) ci V (RL.cs ⟨V,M⟩ (RL.cs ⟨V,M⟩ RL.nl)) V fun a8 k8 p8 e0 av co=>fa (sL a6 [x3,x5].length k6) V V V (fa (sL a8 ([3,2]:List Int).length k8) V V V (gM (am 1 V ?_)))
 obtain⟨dv,ag,bt,T,ds⟩:=OS.frz b9 co (i:=0) V;replace av:=av.mono ag;obtain⟨d1,an,bz,bl,dt⟩:=OS.frz av bt (i:=1) V;replace T:=T.mono an;refine ak ⟨.inr V,_,V,a6,k6,[x3,x5],a8,k8,([3,2]:List Int),_,(fT (fT (fT (ar) a5) ag) an),(HS.forget bz),V,T,bl,m_,(by refine⟨V,?_,?_⟩<;>assumption)⟩
end m6
open m6
namespace m7
open Go.R m1 m2 m3 m4 m5 m6
def lenOK(n:Int):Bool:=decide (1<=n/\n<=16)
def vpI(l:List VFnT)(nl:Int)(v:VInT):Bool:=(if v.i.op=6 then decide (v.i.n<(l.length:Int))&&decide ((l.getD v.i.n.toNat v_).m=(v.args.length:Int)) else true)&&(if v.i.op=34\/v.i.op=35 then decide (v.i.n<nl) else true)
def vpB(l:List VFnT)(nl:Int)(b:BlkT):Bool:=b.v.all (vpI l nl)
def vpF(l:List VFnT)(nl:Int)(c:VFnT):Bool:=cb c&&c.u.all (vpB l nl)
def vpV(l:List VFnT)(lens:List Int):Bool:=decide (1<=l.length/\l.length<=8/\lens.length<=4)&&lens.all lenOK&&l.all (vpF l (lens.length:Int))
section
variable {l:List VFnT} {lens:List Int} {nl:Int} {c:VFnT} {v:VInT}
theorem vp_lim(h: ¬(1<=l.length/\l.length<=8/\lens.length<=4)):false=vpV l lens:=by unfold vpV;rw[decide_eq_false h];rfl
theorem vp_len(h:lens.all lenOK=false):false=vpV l lens:=by unfold vpV;rw[h];simp
theorem vp_f(h:l.all (vpF l (lens.length:Int))=false):false=vpV l lens:=by unfold vpV;rw[h];simp
theorem vp_yes(h:1<=l.length/\l.length<=8/\lens.length<=4)(A:lens.all lenOK=true)(E:l.all (vpF l (lens.length:Int))=true):true=vpV l lens:=by unfold vpV;rw[decide_eq_true h,A,E];rfl
theorem vpF_no(h:cb c=false):vpF l nl c=false:=by unfold vpF;rw[h];rfl
theorem vpF_b(h:c.u.all (vpB l nl)=false):vpF l nl c=false:=by unfold vpF;rw[h,a1N]
theorem vpF_yes(h:cb c=true)(A:c.u.all (vpB l nl)=true):vpF l nl c=true:=by unfold vpF;rw[h,A];rfl
theorem i6:vpI l nl v=true↔(v.i.op=6->v.i.n<(l.length:Int)/\(l.getD v.i.n.toNat v_).m=(v.args.length:Int))/\((v.i.op=34\/v.i.op=35)->v.i.n<nl):=by
 unfold vpI;by_cases A:v.i.op=6
 ·rw[if_pos A,if_neg M];simp[A]
 rw[if_neg A];by_cases E:v.i.op=34\/v.i.op=35
 ·rw[if_pos E];simp[A,E]
 rw[if_neg E];simp[A,E]
theorem kJ(h: ¬((v.i.op=6->v.i.n<(l.length:Int)/\(l.getD v.i.n.toNat v_).m=(v.args.length:Int))/\((v.i.op=34\/v.i.op=35)->v.i.n<nl))):vpI l nl v=false:=a1n.2 fun A=>h (i6.1 A)
theorem val_nn(h:cb c=true){k i}(U:k<c.u.length)(hi:i<(c.u.getD k v_).v.length)(T:((c.u.getD k v_).v.getD i v_).i.op=6\/((c.u.getD k v_).v.getD i v_).i.op=34\/((c.u.getD k v_).v.getD i v_).i.op=35):0<=((c.u.getD k v_).v.getD i v_).i.n:=by
 unfold cb at h;rw[a0a]at h;have E:=lS h.2 U;unfold jZ at E;rw[a0a]at E;have N:=lS E.1 hi;unfold eV at N;rw[a0a]at N;have A:=N.2;generalize ((c.u.getD k v_).v.getD i v_).i.n=n at A⊢;generalize ((c.u.getD k v_).v.getD i v_).i.op=op at A T;unfold gO at A;rcases T with rfl|rfl|rfl
 ·rw[if_neg e_,if_neg e_,if_pos rfl]at A;have:=of_decide_eq_true A;omega
 ·rw[if_neg e_,if_neg e_,if_neg e_,if_pos e_]at A;have:=of_decide_eq_true A;omega
 rw[if_neg e_,if_neg e_,if_neg e_,if_pos e_]at A;have:=of_decide_eq_true A;omega
theorem vp_not{k b i}(E:k<l.length)(A:b<(l.getD k v_).u.length)(hi:i<((l.getD k v_).u.getD b v_).v.length)
  (h:vpI l (lens.length:Int) (((l.getD k v_).u.getD b v_).v.getD i v_)=false):false=vpV l lens:=
 vp_f (ct E (vpF_b (ct A (ct hi h))))
theorem val_bd(h:cb c=true):c.u.length<=1000:=by unfold cb at h;rw[a0a]at h;have:=of_decide_eq_true h.1;omega
end
end m7
open m7
namespace m8
variable (ex:FuncId) {F:Fz} {H:Heap} {R:List Fp}
theorem vprog_c{al ao}(l:List VFnT){ad ai}(lens:List Int)(hs:Hb H F H [] R)(hl:Sr F al l ao)(a6:Sr F ad lens ai)(hT:TB 37 tabC F)(fj:lens.length<=1073741824/\∀k j,((l.getD k v_).u.getD j v_).v.length<=9223372036854775807):kKt ex 34 [(S_ al l ao),(S_ ad lens ai)] H fun v H'=> ∃(r:Bool),∃F',F.le F'/\Hb H F' H' [] R/\v= .bool r/\r=vpV l lens:=by
 refine aB Tryz.func34 V V (am 1 V (wT 3 [] 4 4 [] [(4,false)] V fun _=>wT 1 [] 13 25 [] [(25,(((decide ((l.length:Int)<1))||(decide ((8:Int)<(l.length:Int))))||(decide ((4:Int)<(lens.length:Int)))))] V fun _=>zI 1 3 (fun c3=>?_) fun c3=>?_))
 ·refine wT 1 [] 4 4 [] [(4,false)] V fun _=>ak ⟨.inr V,_,V,false,_,fR,(HS.forget hs),V,(vp_lim M)⟩
 refine wT 2 [] 26 28 [] [(26,(S_ ad lens ai)),(27,(lens.length:Int)),(28,(iI 0))] V fun _=>aj (fun(mm:Nat) f H'=> ∃(q:Nat),∃F',F.le F'/\Hb H F' H' [] R/\aA f [(0,(S_ al l ao)),(1,(S_ ad lens ai)),(26,(S_ ad lens ai)),(27,(lens.length:Int)),(28,(q:Int))]/\mm=lens.length-q/\(q<=lens.length)/\(∀j,j<q->lenOK (lens.getD j v_)=true)) _ ⟨0,_,fR,hs,f_,V,M,(ce)⟩ ?_
 rintro hr f6 H6 ⟨q,F6,Z,ay,b1,rfl,hq,hqa⟩ dt;refine au _ b1 (fun _=>?_);clear b1;replace hT:=hT.mono Z;replace hl:=hl.mono Z;replace a6:=a6.mono Z;refine am 1 V (wT 2 [] 29 29 [] [(29,(decide ((q:Int)<(lens.length:Int))))] V fun _=>zd 4 6 (fun c8=>?_) fun c8=>?_)
 ·obtain⟨hh,b2⟩:=Sv.view (SR.sv a6 ay);have hp:=fI (b2 q);refine wrp 2 30 31 [6] [(6,(lens.getD q 0))] (Ha_ (Sv.ix (j:=(q:Int)) (SR.sv a6 ay)) (Hl_ 1 (ql 3 0 (vI (b2 q)) V V) Hn_)) K_ V fun _=>wT 1 [] 32 37 [] [(37,((decide ((lens.getD q 0)<1))||(decide ((16:Int)<(lens.getD q 0)))))] V fun _=>zI 1 2 (fun c5=>?_) fun c5=>?_
  ·refine wT 1 [] 4 4 [] [(4,false)] V fun _=>ak ⟨.inr V,_,V,false,_,(Z),(HS.forget ay),V,(vp_len (ct (k:=q) M (decide_eq_false (show ¬(1<=lens.getD q 0/\lens.getD q 0<=16) by omega))))⟩
  refine wU 1 [] 28 28 [38] [(28,(iI ((q:Int)+1)))] (vi (n:=(q:Int)+1)) V fun _=>?_
  refine dt _ _ _ ?_ ⟨q+1,_,(Z),ay,f_,V,M,(bw hqa (decide_eq_true (show 1<=lens.getD q 0/\lens.getD q 0<=16 by omega)))⟩;omega
 refine wT 2 [] 39 41 [] [(39,(S_ al l ao)),(40,(l.length:Int)),(41,(iI 0))] V fun _=>aj (fun(mm:Nat) f H'=> ∃(k:Nat),∃F',F6.le F'/\Hb H F' H' [] R/\aA f [(0,(S_ al l ao)),(1,(S_ ad lens ai)),(39,(S_ al l ao)),(40,(l.length:Int)),(41,(k:Int))]/\mm=l.length-k/\(k<=l.length)/\(∀j,j<k->vpF l (lens.length:Int) (l.getD j v_)=true)) _ ⟨0,_,fR,ay,f_,V,M,(ce)⟩ ?_
 rintro f5 hj g3 ⟨k,gt,a_,ar,a4,rfl,hk,hka⟩ b8;refine au _ a4 (fun _=>?_);clear a4;replace hT:=hT.mono a_;replace hl:=hl.mono a_;refine am 1 V (wT 2 [] 42 42 [] [(42,(decide ((k:Int)<(l.length:Int))))] V fun _=>zd 4 5 (fun c6=>?_) fun c6=>?_)
 ·refine ab ?_;obtain⟨E,a9⟩:=Sv.view (SR.sv hl ar);obtain⟨dv,d1,T⟩:=VFnT.fx (a9 k);let b3:Value:=(aG [(l.getD k v_).m,(l.getD k v_).r,(sL (cA (E k) 2) (l.getD k v_).u.length (cK (E k) 2))])
  refine bK 2 0 43 44 [] [(44,b3)] (Ha_ (Sv.ix (j:=(k:Int)) (SR.sv hl ar)) (Hl_ 1 (qn 36 0 3 (VFnT.vw (a9 k)) V V V V) Hn_)) K_ V fun _=>zn ar V fun ci g4 b5=>sgo 1 3 1 0 [] [] (Hr_ 3 0 Hn_) b5 V V fun f2 g5 a1=>ae 3 V (ab (aS 1 0 45 45 [] [(45,b3)] (Hr_ 0 0 Hn_) a1 V V fun _=>zc (m3.kM ex (⟨(l.getD k v_).m,(l.getD k v_).r,(l.getD k v_).u⟩:VFnT) (HS.call a1) M M T hT (fun j=>fj.2 k j)) ?_))
  rintro _ g6 ⟨ht,cc,aa,ap,rfl,rfl⟩;replace ap:=HS.back a1 V ap;replace hl:=hl.mono aa;replace T:=T.mono aa;refine bK 1 2 47 47 [] [(47,(!(cb (⟨(l.getD k v_).m,(l.getD k v_).r,(l.getD k v_).u⟩:VFnT))))] Hn_ K_ V fun _=>ae 1 V (zI 1 2 (fun bz=>?_) fun bz=>?_)
  ·refine wT 1 [] 4 4 [] [(4,false)] V fun _=>ak ⟨.inr V,_,V,false,_,(fT (fT (Z) a_) aa),(HS.forget ap),V,(vp_f (ct (k:=k) M (vpF_no (show cb (l.getD k v_)=false by assumption))))⟩
  have bt:cb (l.getD k v_)=true:=bz;have hQ:=val_bd bt;let b4:Fp:=(fP ci [(l.getD k v_).m,(l.getD k v_).r,(sL (cA (E k) 2) (l.getD k v_).u.length (cK (E k) 2))])
  refine aU 2 48 51 [] [(49,(sL (cA (E k) 2) (l.getD k v_).u.length (cK (E k) 2))),(50,((l.getD k v_).u.length:Int)),(51,(iI 0))] (Hr_ 1 0 Hn_) ap V V fun _=>aj (fun(mm:Nat) f H'=> ∃(b:Nat),∃F',cc.le F'/\Hb H F' H' [b4] R/\aA f [(0,(S_ al l ao)),(1,(S_ ad lens ai)),(39,(S_ al l ao)),(40,(l.length:Int)),(41,(k:Int)),(49,(sL (cA (E k) 2) (l.getD k v_).u.length (cK (E k) 2))),(50,((l.getD k v_).u.length:Int)),(51,(b:Int))]/\mm=(l.getD k v_).u.length-b/\(b<=(l.getD k v_).u.length)/\(∀j,j<b->vpB l (lens.length:Int) ((l.getD k v_).u.getD j v_)=true)) _ ⟨0,_,fR,ap,f_,V,M,(ce)⟩ ?_
  rintro f7 hm g7 ⟨b,ch,ag,av,a5,rfl,hb,hba⟩ b9;refine au _ a5 (fun _=>?_);clear a5;replace hl:=hl.mono ag;replace T:=T.mono ag;have hO:=fj.2 k b;refine am 1 V (wT 2 [] 52 52 [] [(52,(decide ((b:Int)<((l.getD k v_).u.length:Int))))] V fun _=>zd 4 5 (fun c7=>?_) fun c7=>?_)
  ·refine ab ?_;obtain⟨U,bb⟩:=Sv.view (SR.sv T av);obtain⟨d2,em,et,ez,an⟩:=BlkT.fx (bb b);refine bK 2 0 53 54 [] [(54,(aG [(sL (cA (U b) 0) ((l.getD k v_).u.getD b v_).v.length (cK (U b) 0)),((l.getD k v_).u.getD b v_).f,((l.getD k v_).u.getD b v_).r,((l.getD k v_).u.getD b v_).t,((l.getD k v_).u.getD b v_).e]))] (Ha_ (Sv.ix (j:=(b:Int)) (SR.sv T av)) (Hl_ 1 (qn 82 0 5 (BlkT.vw (bb b)) V V V V) Hn_)) K_ V fun _=>zn av V fun co g8 b6=>sgo 1 3 1 0 [] [] (Hr_ 3 1 Hn_) b6 V V fun f3 g9 a8=>ae 2 V (aU 2 55 58 [] [(56,(sL (cA (U b) 0) ((l.getD k v_).u.getD b v_).v.length (cK (U b) 0))),(57,(((l.getD k v_).u.getD b v_).v.length:Int)),(58,(iI 0))] (Hr_ 1 1 Hn_) a8 V V fun _=>aj (fun(mm:Nat) f H'=> ∃(i:Nat),∃F',ch.le F'/\Hb H F' H' [b4,(fP co [(sL (cA (U b) 0) ((l.getD k v_).u.getD b v_).v.length (cK (U b) 0)),((l.getD k v_).u.getD b v_).f,((l.getD k v_).u.getD b v_).r,((l.getD k v_).u.getD b v_).t,((l.getD k v_).u.getD b v_).e])] R/\aA f [(0,(S_ al l ao)),(1,(S_ ad lens ai)),(39,(S_ al l ao)),(40,(l.length:Int)),(41,(k:Int)),(49,(sL (cA (E k) 2) (l.getD k v_).u.length (cK (E k) 2))),(50,((l.getD k v_).u.length:Int)),(51,(b:Int)),(56,(sL (cA (U b) 0) ((l.getD k v_).u.getD b v_).v.length (cK (U b) 0))),(57,(((l.getD k v_).u.getD b v_).v.length:Int)),(58,(i:Int))]/\mm=((l.getD k v_).u.getD b v_).v.length-i/\(i<=((l.getD k v_).u.getD b v_).v.length)/\(∀j,j<i->vpI l (lens.length:Int) (((l.getD k v_).u.getD b v_).v.getD j v_)=true)) _ ⟨0,_,fR,a8,f_,V,M,(ce)⟩ ?_)
   rintro f8 hn ha ⟨i,g2,N,aw,a7,rfl,hi,hia⟩ ax;refine au _ a7 (fun _=>?_);clear a7;replace hl:=hl.mono N;replace an:=an.mono N;have hP:i<((l.getD k v_).u.getD b v_).v.length->((((l.getD k v_).u.getD b v_).v.getD i v_).i.op=6\/(((l.getD k v_).u.getD b v_).v.getD i v_).i.op=34\/(((l.getD k v_).u.getD b v_).v.getD i v_).i.op=35)->0<=(((l.getD k v_).u.getD b v_).v.getD i v_).i.n:=fun q1 q2=>val_nn bt M q1 q2
   refine am 1 V (wT 2 [] 59 59 [] [(59,(decide ((i:Int)<(((l.getD k v_).u.getD b v_).v.length:Int))))] V fun _=>zd 4 5 (fun c9=>?_) fun c9=>?_)
   ·refine ab ?_;obtain⟨a3,bk⟩:=Sv.view (SR.sv an aw);obtain⟨e0,e1,e2,e3,e4,fd⟩:=VInT.fx (bk i);refine bK 2 0 60 61 [] [(61,(aG [(((l.getD k v_).u.getD b v_).v.getD i v_).i.op,(((l.getD k v_).u.getD b v_).v.getD i v_).i.a,(((l.getD k v_).u.getD b v_).v.getD i v_).i.b,(((l.getD k v_).u.getD b v_).v.getD i v_).i.c,(((l.getD k v_).u.getD b v_).v.getD i v_).i.n,(sL (cA (a3 i) 5) (((l.getD k v_).u.getD b v_).v.getD i v_).args.length (cK (a3 i) 5))]))] (Ha_ (Sv.ix (j:=(i:Int)) (SR.sv an aw)) (Hl_ 1 (qn 88 0 6 (VInT.vw (bk i)) V V V V) Hn_)) K_ V fun _=>zn aw V fun hg he b7=>sgo 1 3 1 0 [] [] (Hr_ 3 2 Hn_) b7 V V fun f4 hf A=>ae 2 V (aU 3 62 64 [] [(64,(((l.getD k v_).u.getD b v_).v.getD i v_).i.op)] (Hr_ 2 2 Hn_) A V V fun _=>wT 1 [] 65 66 [] [(65,((((l.getD k v_).u.getD b v_).v.getD i v_).i.op==6))] V fun _=>zI 1 2 (fun dd=>?_) fun dd=>?_)
    ·obtain⟨f1,bl⟩:=Sv.view (SR.sv hl A);obtain⟨e5,e6,fi⟩:=VFnT.fx (bl (((l.getD k v_).u.getD b v_).v.getD i v_).i.n.toNat);refine sdr0 1 67 85 [] [(85,((decide ((l.length:Int)<=(((l.getD k v_).u.getD b v_).v.getD i v_).i.n))||(((((l.getD k v_).u.getD b v_).v.getD i v_).args.length:Int) !=(l.getD (((l.getD k v_).u.getD b v_).v.getD i v_).i.n.toNat v_).m)))] (Hr_ 2 2 (bp 8 (fun _=>(ql 22 5 (hc0 (j_ A V)) V V)) (bp 13 (fun _=>(ql 2 4 (hc0 (j_ A V)) V V)) (Ha_ (fun(g1:(decide ((l.length:Int)<=(((l.getD k v_).u.getD b v_).v.getD i v_).i.n))=false)=>(Sv.ix (j:=(((l.getD k v_).u.getD b v_).v.getD i v_).i.n) (SR.sv hl A) (by(try simp only[BS]at g1);omega) (by(try simp only[BS]at g1);omega))) (bp 16 (fun g1=>(ql 3 0 (hc0 (VFnT.vw (bl (((l.getD k v_).u.getD b v_).v.getD i v_).i.n.toNat) (by(try simp only[BS]at g1);omega))) V V)) Hn_))))) A V V V fun _=>zI 1 3 (fun dk=>?_) fun dk=>?_
     ·refine wT 1 [] 4 4 [] [(4,false)] V fun _=>ak ⟨.inr V,_,V,false,_,(fT (fT (fT (fT (Z) a_) aa) ag) N),(HS.forget A),V,(vp_not (k:=k) (b:=b) (i:=i) M M M (kJ M))⟩
     refine wU 1 [] 58 58 [95] [(58,(iI ((i:Int)+1)))] (vi (n:=(i:Int)+1)) V fun _=>?_
     refine ax _ _ _ ?_ ⟨i+1,_,(N),(HS.sub A (a01 _ _)),f_,V,M,(bw hia (i6.2 ⟨M,M⟩))⟩;omega
    refine wT 1 [] 86 87 [] [(86,((((l.getD k v_).u.getD b v_).v.getD i v_).i.op==34))] V fun _=>zi 1 0 (fun aq=>?_) fun aq=>?_
    ·have a2:=aq;try simp only[BS]at a2
     refine aX 1 (v:=((((l.getD k v_).u.getD b v_).v.getD i v_).i.op==34)) V aq V V (aU 1 89 94 [] [(94,(decide ((lens.length:Int)<=(((l.getD k v_).u.getD b v_).v.getD i v_).i.n)))] (Hr_ 2 2 Hn_) A V V fun _=>zd 1 3 (fun dl=>?_) fun dl=>?_)
     ·refine wT 1 [] 4 4 [] [(4,false)] V fun _=>ak ⟨.inr V,_,V,false,_,(fT (fT (fT (fT (Z) a_) aa) ag) N),(HS.forget A),V,(vp_not (k:=k) (b:=b) (i:=i) M M M (kJ M))⟩
     refine wU 1 [] 58 58 [95] [(58,(iI ((i:Int)+1)))] (vi (n:=(i:Int)+1)) V fun _=>?_
     refine ax _ _ _ ?_ ⟨i+1,_,(N),(HS.sub A (a01 _ _)),f_,V,M,(bw hia (i6.2 ⟨M,M⟩))⟩;omega
    have a2:=aq;try simp only[BS]at a2
    refine wT 1 [] 86 88 [] [(86,((((l.getD k v_).u.getD b v_).v.getD i v_).i.op==35))] V fun _=>zI 1 3 (fun dn=>?_) fun dn=>?_
    ·refine aU 1 89 94 [] [(94,(decide ((lens.length:Int)<=(((l.getD k v_).u.getD b v_).v.getD i v_).i.n)))] (Hr_ 2 2 Hn_) A V V fun _=>zd 1 3 (fun ds=>?_) fun ds=>?_
     ·refine wT 1 [] 4 4 [] [(4,false)] V fun _=>ak ⟨.inr V,_,V,false,_,(fT (fT (fT (fT (Z) a_) aa) ag) N),(HS.forget A),V,(vp_not (k:=k) (b:=b) (i:=i) M M M (kJ M))⟩
     refine wU 1 [] 58 58 [95] [(58,(iI ((i:Int)+1)))] (vi (n:=(i:Int)+1)) V fun _=>?_
     refine ax _ _ _ ?_ ⟨i+1,_,(N),(HS.sub A (a01 _ _)),f_,V,M,(bw hia (i6.2 ⟨M,M⟩))⟩;omega
    refine wU 1 [] 58 58 [95] [(58,(iI ((i:Int)+1)))] (vi (n:=(i:Int)+1)) V fun _=>?_
    refine ax _ _ _ ?_ ⟨i+1,_,(N),(HS.sub A (a01 _ _)),f_,V,M,(bw hia (i6.2 ⟨M,M⟩))⟩;omega
   refine wU 1 [] 51 51 [96] [(51,(iI ((b:Int)+1)))] (vi (n:=(b:Int)+1)) V fun _=>?_
   refine b9 _ _ _ ?_ ⟨b+1,_,(fT (ag) N),(HS.sub aw (a01 _ _)),f_,V,M,(bw hba (cz hia M))⟩;omega
  refine wU 1 [] 41 41 [97] [(41,(iI ((k:Int)+1)))] (vi (n:=(k:Int)+1)) V fun _=>?_
  refine b8 _ _ _ ?_ ⟨k+1,_,(fT (fT (a_) aa) ag),(HS.sub av (a01 _ _)),f_,V,M,(bw hka (vpF_yes bt (cz hba M)))⟩;omega
 refine wT 1 [] 4 4 [] [(4,true)] V fun _=>ak ⟨.inr V,_,V,true,_,(fT (Z) a_),(HS.forget ar),V,(vp_yes M (cz hqa M) (cz hka M))⟩
theorem rprog_c{ao a0}(l:List VFnT){ad al}(lens:List Int)(hs:Hb H F H [] R)(hl:Sr F ao l a0)(an:Sr F ad lens al)(hT:TB 37 tabC F)(c0:lens.length<=1073741824/\∀k j,((l.getD k v_).u.getD j v_).v.length<=9223372036854775807):kKt ex 38 [(S_ ao l a0),(S_ ad lens al)] H fun v H'=> ∃(r:Bool),∃F',F.le F'/\Hb H F' H' [] R/\v= .bool r/\r=vpV l lens:=by
 refine aB Tryz.func38 V V (am 1 V (wT 3 [] 4 4 [] [(4,false)] V fun _=>wT 1 [] 10 22 [] [(22,(((decide ((l.length:Int)<1))||(decide ((8:Int)<(l.length:Int))))||(decide ((4:Int)<(lens.length:Int)))))] V fun _=>zI 1 3 (fun c3=>?_) fun c3=>?_))
 ·refine wT 1 [] 4 4 [] [(4,false)] V fun _=>ak ⟨.inr V,_,V,false,_,fR,(HS.forget hs),V,(vp_lim M)⟩
 refine wT 2 [] 1 0 [5] [(5,(iI 0))] V fun _=>aj (fun(mm:Nat) f H'=> ∃(q:Nat),∃F',F.le F'/\Hb H F' H' [] R/\aA f [(0,(S_ ao l a0)),(1,(S_ ad lens al)),(5,(q:Int))]/\mm=lens.length-q/\(q<=lens.length)/\(∀j,j<q->lenOK (lens.getD j v_)=true)) _ ⟨0,_,fR,hs,f_,V,M,(ce)⟩ ?_
 rintro hz f6 H6 ⟨q,F6,T,ag,b3,rfl,hq,hqa⟩ c7;refine au _ b3 (fun _=>?_);clear b3;replace hT:=hT.mono T;replace hl:=hl.mono T;replace an:=an.mono T;refine am 2 V (wT 1 [] 23 26 [] [(26,(decide ((q:Int)<(lens.length:Int))))] V fun _=>zd 4 6 (fun c8=>?_) fun c8=>?_)
 ·obtain⟨hr,bt⟩:=Sv.view (SR.sv an ag);have hw:=fI (bt q);refine wrp 1 29 40 [] [(40,((decide ((lens.getD q 0)<1))||(decide ((16:Int)<(lens.getD q 0)))))] (Ha_ (Sv.ix (j:=(q:Int)) (SR.sv an ag)) (Hl_ 3 (ql 3 0 (vI (bt q)) V V) (Ha_ (fun(g1:(decide ((lens.getD q 0)<1))=false)=>(Sv.ix (j:=(q:Int)) (SR.sv an ag) (by(try simp only[BS]at g1);omega) (by(try simp only[BS]at g1);omega))) (bp 9 (fun g1=>(ql 3 0 (vI (bt q) (by(try simp only[BS]at g1);omega)) V V)) Hn_)))) V V fun _=>zI 1 2 (fun cc=>?_) fun cc=>?_
  ·refine wT 1 [] 4 4 [] [(4,false)] V fun _=>ak ⟨.inr V,_,V,false,_,(T),(HS.forget ag),V,(vp_len (ct (k:=q) M (decide_eq_false (show ¬(1<=lens.getD q 0/\lens.getD q 0<=16) by omega))))⟩
  refine wU 1 [] 27 28 [5] [(5,(iI ((q:Int)+1)))] (vi (n:=(q:Int)+1)) V fun _=>?_
  refine c7 _ _ _ ?_ ⟨q+1,_,(T),ag,f_,V,M,(bw hqa (decide_eq_true (show 1<=lens.getD q 0/\lens.getD q 0<=16 by omega)))⟩;omega
 refine wT 2 [] 1 0 [6] [(6,(iI 0))] V fun _=>aj (fun(mm:Nat) f H'=> ∃(k:Nat),∃F',F6.le F'/\Hb H F' H' [] R/\aA f [(0,(S_ ao l a0)),(1,(S_ ad lens al)),(6,(k:Int))]/\mm=l.length-k/\(k<=l.length)/\(∀j,j<k->vpF l (lens.length:Int) (l.getD j v_)=true)) _ ⟨0,_,fR,ag,f_,V,M,(ce)⟩ ?_
 rintro g5 ht hf ⟨k,ha,N,aa,a1,rfl,hk,hka⟩ b5;refine au _ a1 (fun _=>?_);clear a1;replace hT:=hT.mono N;replace hl:=hl.mono N;refine am 2 V (wT 1 [] 41 44 [] [(44,(decide ((k:Int)<(l.length:Int))))] V fun _=>zd 5 5 (fun ch=>?_) fun ch=>?_)
 ·refine ab ?_;obtain⟨ax,a4⟩:=Sv.view (SR.sv hl aa);obtain⟨c9,dd,b1⟩:=VFnT.fx (a4 k);refine bK 4 0 47 50 [] [(50,(aG [(l.getD k v_).m,(l.getD k v_).r,(sL (cA (ax k) 2) (l.getD k v_).u.length (cK (ax k) 2))]))] (Ha_ (Sv.ix (j:=(k:Int)) (SR.sv hl aa)) (Hl_ 3 (qn 36 0 3 (VFnT.vw (a4 k)) V V V V) Hn_)) K_ V fun _=>zc (m3.eN ex (l.getD k v_) (HS.call aa) M M b1 hT (fun j=>c0.2 k j)) ?_
  rintro _ hg ⟨hA,b8,U,ap,rfl,rfl⟩;replace ap:=HS.back aa V ap;replace hl:=hl.mono U;refine bK 1 5 52 52 [] [(52,(!(cb (l.getD k v_))))] Hn_ K_ V fun _=>ae 1 V (zI 1 2 (fun b2=>?_) fun b2=>?_)
  ·refine wT 1 [] 4 4 [] [(4,false)] V fun _=>ak ⟨.inr V,_,V,false,_,(fT (fT (T) N) U),(HS.forget ap),V,(vp_f (ct (k:=k) M (vpF_no (show cb (l.getD k v_)=false by assumption))))⟩
  have bz:cb (l.getD k v_)=true:=b2;have hS:=val_bd bz;refine wT 2 [] 1 0 [7] [(7,(iI 0))] V fun _=>aj (fun(mm:Nat) f H'=> ∃(b:Nat),∃F',b8.le F'/\Hb H F' H' [] R/\aA f [(0,(S_ ao l a0)),(1,(S_ ad lens al)),(6,(k:Int)),(7,(b:Int))]/\mm=(l.getD k v_).u.length-b/\(b<=(l.getD k v_).u.length)/\(∀j,j<b->vpB l (lens.length:Int) ((l.getD k v_).u.getD j v_)=true)) _ ⟨0,_,fR,ap,f_,V,M,(ce)⟩ ?_
  rintro g6 hu hh ⟨b,b9,a_,aq,a2,rfl,hb,hba⟩ b6;refine au _ a2 (fun _=>?_);clear a2;replace hl:=hl.mono a_;have hQ:=c0.2 k b;refine am 2 V ?_;obtain⟨f7,a5⟩:=Sv.view (SR.sv hl aq);obtain⟨dk,dl,f0⟩:=VFnT.fx (a5 k);refine wrp 1 53 60 [] [(60,(decide ((b:Int)<((l.getD k v_).u.length:Int))))] (Ha_ (Sv.ix (j:=(k:Int)) (SR.sv hl aq)) (Hl_ 5 (ql 34 2 (VFnT.vw (a5 k)) V V) Hn_)) K_ V fun _=>zd 4 5 (fun ci=>?_) fun ci=>?_
  ·refine wT 2 [] 1 0 [8] [(8,(iI 0))] V fun _=>aj (fun(mm:Nat) f H'=> ∃(i:Nat),∃F',b9.le F'/\Hb H F' H' [] R/\aA f [(0,(S_ ao l a0)),(1,(S_ ad lens al)),(6,(k:Int)),(7,(b:Int)),(8,(i:Int))]/\mm=((l.getD k v_).u.getD b v_).v.length-i/\(i<=((l.getD k v_).u.getD b v_).v.length)/\(∀j,j<i->vpI l (lens.length:Int) (((l.getD k v_).u.getD b v_).v.getD j v_)=true)) _ ⟨0,_,fR,aq,f_,V,M,(ce)⟩ ?_
   rintro g7 hv hj ⟨i,he,Z,A,a3,rfl,hi,hia⟩ b7;refine au _ a3 (fun _=>?_);clear a3;replace hl:=hl.mono Z;have hR:i<((l.getD k v_).u.getD b v_).v.length->((((l.getD k v_).u.getD b v_).v.getD i v_).i.op=6\/(((l.getD k v_).u.getD b v_).v.getD i v_).i.op=34\/(((l.getD k v_).u.getD b v_).v.getD i v_).i.op=35)->0<=(((l.getD k v_).u.getD b v_).v.getD i v_).i.n:=fun q1 q2=>val_nn bz M q1 q2
   refine am 2 V ?_;obtain⟨f8,a7⟩:=Sv.view (SR.sv hl A);obtain⟨dn,ds,ar⟩:=VFnT.fx (a7 k);obtain⟨f9,a8⟩:=Sv.view (SR.sv ar A);obtain⟨dt,dv,d1,d2,f1⟩:=BlkT.fx (a8 b);refine wrp 1 63 74 [] [(74,(decide ((i:Int)<(((l.getD k v_).u.getD b v_).v.length:Int))))] (Ha_ (Sv.ix (j:=(k:Int)) (SR.sv hl A)) (Hl_ 5 (ql 34 2 (VFnT.vw (a7 k)) V V) (Ha_ (Sv.ix (j:=(b:Int)) (SR.sv ar A)) (Hl_ 9 (ql 80 0 (BlkT.vw (a8 b)) V V) Hn_)))) K_ V fun _=>zd 4 5 (fun co=>?_) fun co=>?_
   ·refine ab ?_;obtain⟨go,a9⟩:=Sv.view (SR.sv hl A);obtain⟨em,et,av⟩:=VFnT.fx (a9 k);obtain⟨gt,bb⟩:=Sv.view (SR.sv av A);obtain⟨ez,e0,e1,e2,aw⟩:=BlkT.fx (bb b);obtain⟨ay,bk⟩:=Sv.view (SR.sv aw A);obtain⟨e3,e4,e5,e6,fd,f2⟩:=VInT.fx (bk i);refine bK 12 0 77 88 [] [(88,(aG [(((l.getD k v_).u.getD b v_).v.getD i v_).i.op,(((l.getD k v_).u.getD b v_).v.getD i v_).i.a,(((l.getD k v_).u.getD b v_).v.getD i v_).i.b,(((l.getD k v_).u.getD b v_).v.getD i v_).i.c,(((l.getD k v_).u.getD b v_).v.getD i v_).i.n,(sL (cA (ay i) 5) (((l.getD k v_).u.getD b v_).v.getD i v_).args.length (cK (ay i) 5))]))] (Ha_ (Sv.ix (j:=(k:Int)) (SR.sv hl A)) (Hl_ 4 (ql 34 2 (VFnT.vw (a9 k)) V V) (Ha_ (Sv.ix (j:=(b:Int)) (SR.sv av A)) (Hl_ 8 (ql 80 0 (BlkT.vw (bb b)) V V) (Ha_ (Sv.ix (j:=(i:Int)) (SR.sv aw A)) (Hl_ 11 (qn 88 0 6 (VInT.vw (bk i)) V V V V) Hn_)))))) K_ V fun _=>zn A V fun hp hm b4=>sgo 1 13 1 0 [] [] (Hr_ 13 0 Hn_) b4 V V fun g4 hn E=>ae 3 V ?_
    obtain⟨g3,bl⟩:=Sv.view (SR.sv hl E);obtain⟨fi,fj,f3⟩:=VFnT.fx (bl (((l.getD k v_).u.getD b v_).v.getD i v_).i.n.toNat);refine sdr0 1 89 113 [] [(113,(((((l.getD k v_).u.getD b v_).v.getD i v_).i.op==6)&&((decide ((l.length:Int)<=(((l.getD k v_).u.getD b v_).v.getD i v_).i.n))||((l.getD (((l.getD k v_).u.getD b v_).v.getD i v_).i.n.toNat v_).m !=((((l.getD k v_).u.getD b v_).v.getD i v_).args.length:Int)))))] (Hr_ 2 0 (bp 7 (fun _=>(ql 2 4 (hc0 (h_ E V)) V V)) (iu 15 (fun _ _=>(ql 2 4 (hc0 (h_ E V)) V V)) (Ha_ (fun(g1:(decide ((l.length:Int)<=(((l.getD k v_).u.getD b v_).v.getD i v_).i.n))=false) (g2:((((l.getD k v_).u.getD b v_).v.getD i v_).i.op==6)=true)=>(Sv.ix (j:=(((l.getD k v_).u.getD b v_).v.getD i v_).i.n) (SR.sv hl E) (by(try simp only[BS]at g1 g2);omega) (by(try simp only[BS]at g1 g2);omega))) (iu 18 (fun g1 g2=>(ql 3 0 (hc0 (VFnT.vw (bl (((l.getD k v_).u.getD b v_).v.getD i v_).i.n.toNat) (by(try simp only[BS]at g1 g2);omega))) V V)) (iu 20 (fun _ _=>(ql 22 5 (hc0 (h_ E V)) V V)) Hn_)))))) E V V V fun _=>zI 1 2 (fun c5=>?_) fun c5=>?_
    ·refine wT 1 [] 4 4 [] [(4,false)] V fun _=>ak ⟨.inr V,_,V,false,_,(fT (fT (fT (fT (T) N) U) a_) Z),(HS.forget E),V,(vp_not (k:=k) (b:=b) (i:=i) M M M (kJ M))⟩
    refine aU 1 114 131 [] [(131,((((((l.getD k v_).u.getD b v_).v.getD i v_).i.op==34)||((((l.getD k v_).u.getD b v_).v.getD i v_).i.op==35))&&(decide ((lens.length:Int)<=(((l.getD k v_).u.getD b v_).v.getD i v_).i.n))))] (Hr_ 2 0 (bp 7 (fun _=>(ql 3 0 (h_ E V) V V)) (bp 13 (fun _=>(ql 2 4 (h_ E V) V V)) Hn_))) E V V fun _=>zI 1 2 (fun c6=>?_) fun c6=>?_
    ·refine wT 1 [] 4 4 [] [(4,false)] V fun _=>ak ⟨.inr V,_,V,false,_,(fT (fT (fT (fT (T) N) U) a_) Z),(HS.forget E),V,(vp_not (k:=k) (b:=b) (i:=i) M M M (kJ M))⟩
    refine wU 1 [] 75 76 [8] [(8,(iI ((i:Int)+1)))] (vi (n:=(i:Int)+1)) V fun _=>?_
    refine b7 _ _ _ ?_ ⟨i+1,_,(Z),(HS.sub E (a01 _ _)),f_,V,M,(bw hia (i6.2 ⟨M,M⟩))⟩;omega
   refine wU 1 [] 61 62 [7] [(7,(iI ((b:Int)+1)))] (vi (n:=(b:Int)+1)) V fun _=>?_
   refine b6 _ _ _ ?_ ⟨b+1,_,(fT (a_) Z),A,f_,V,M,(bw hba (cz hia M))⟩;omega
  refine wU 1 [] 45 46 [6] [(6,(iI ((k:Int)+1)))] (vi (n:=(k:Int)+1)) V fun _=>?_
  refine b5 _ _ _ ?_ ⟨k+1,_,(fT (fT (N) U) a_),aq,f_,V,M,(bw hka (vpF_yes bz (cz hba M)))⟩;omega
 refine wT 1 [] 4 4 [] [(4,true)] V fun _=>ak ⟨.inr V,_,V,true,_,(fT (T) N),(HS.forget aa),V,(vp_yes M (cz hqa M) (cz hka M))⟩
end m8
open m8
namespace ma
variable (ex:FuncId) {F:Fz} {H:Heap} {R:List Fp}
abbrev Asc(l:List Int):Prop:=l.Pairwise (· < ·)
def cY(a l:List Int):List Int:=l.foldl dI a
def gN(a b:List Int):List Int:=a.filter fun x=> !im b x
theorem asc_at{l}(h:Asc l){i j}(A:i<j)(E:j<l.length):l.getD i 0<l.getD j 0:=by have:=(a1Z.1 h) i j M E A;rw[a03,a03,a06 E,a06 (show i<l.length by omega)];exact this
theorem pre_lt{l:List Int}{n:Int}: ∀x∈l.take (jH l n),x<n:=by
 intro x A;have e:l.take (jH l n)=l.takeWhile (fun x=>decide (x<n)):=by unfold jH;exact(List.prefix_iff_eq_take.1 (List.takeWhile_prefix _)).symm
 rw[e]at A;have:=a0t.1 (List.all_takeWhile (p:=fun x=>decide (x<n)) (l:=l)) x A;simpa using this
theorem pre_at{l}{n:Int}(h:jH l n<l.length): ¬l.getD (jH l n) 0<n:=by
 induction l with
 |nil=>simp at h
 |cons x l ih=>
  unfold jH at h⊢
  by_cases A:x<n
  ·rw[List.takeWhile_cons_of_pos (by simpa using A)]at h⊢;simp only[a04,a2q]at h⊢;exact ih (by unfold jH;omega)
  rw[List.takeWhile_cons_of_neg (by simpa using A)]
  simpa using A
theorem pre_ge{l}{n:Int}(A:Asc l): ∀x∈l.drop (jH l n),n<=x:=by
 intro x E;obtain⟨i,hi,rfl⟩:=a0x.1 E;rw[List.getElem_drop];rw[a0H]at hi;have h0:=pre_at (l:=l) (n:=n) M;rw[a03,a06 (show jH l n<l.length by omega)]at h0;rcases a1Q i with rfl|hp
 ·simp only[a2s];simpa using h0
 have:=(a1Z.1 A) (jH l n) (jH l n+i) M M M
 simp only[a0O]at h0;omega
theorem ins_asc{l:List Int}{n:Int}(h:Asc l):Asc (dI l n):=by
 unfold dI;split
 ·exact h
 rename_i hc;have aa:=pre_ge (n:=n) h;have Z:=pre_lt (l:=l) (n:=n);refine a2k.2 ⟨a2k.2 ⟨h.sublist (List.take_sublist _ _),List.pairwise_singleton _ _,fun a T b U=>?_⟩,h.sublist (List.drop_sublist _ _),fun a T b U=>?_⟩
 ·rw[a0b]at U;subst U;exact Z a T
 have hn:n<b:=by
  have N:=aa b U;rcases Int.lt_or_eq_of_le N with A|A
  ·exact A
  exfalso;obtain⟨i,hi,rfl⟩:=a0x.1 U;rw[a0H]at hi;rw[List.getElem_drop]at A;apply hc;refine⟨M,?_⟩;have E:=pre_at (l:=l) (n:=n) M;rw[a03,a06 (show jH l n<l.length by omega)]at E⊢;simp only[a0O]at E⊢;rcases a1Q i with rfl|hp
  ·simpa using A.symm
  have:=(a1Z.1 h) (jH l n) (jH l n+i) M M M
  omega
 rcases a09.1 T with T|T
 ·have:=Z a T;omega
 rw[a0b]at T;subst T;exact hn
theorem ic{l}{n x:Int}:x∈dI l n↔x=n\/x∈l:=by
 unfold dI;split
 ·rename_i h;constructor
  ·exact .inr
  rintro(rfl|A)
  ·rw[←h.2,a03,a06 h.1];exact a0T h.1
  exact A
 rw[a09,a09,a0b];constructor
 ·rintro((h|h)|h)
  ·exact .inr (a1b h)
  ·exact .inl h
  exact .inr (a2l h)
 rintro(h|h)
 ·exact .inl (.inr h)
 rw[←a1f (jH l n) l]at h;rcases a09.1 h with h|h
 ·exact .inl (.inl h)
 exact .inr h
theorem uni_asc{l}: ∀{a:List Int},Asc a->Asc (cY a l):=by
 induction l with
 |nil=>exact fun h=>h
 |cons x l ih=>exact fun h=>ih (ins_asc h)
theorem nt{l}{x:Int}: ∀{a:List Int},x∈cY a l↔x∈a\/x∈l:=by
 induction l with
 |nil=>intro a;simp[cY]
 |cons y l ih=>
  intro a
  have:cY a (y::l)=cY (dI a y) l:=rfl
  rw[this,ih,ic,a0w]
  constructor
  ·rintro((h|h)|h)
   ·exact .inr (.inl h)
   ·exact .inl h
   exact .inr (.inr h)
  rintro(h|h|h)
  ·exact .inl (.inr h)
  ·exact .inl (.inl h)
  exact .inr h
theorem eC{l}: ∀{a:List Int},(cY a l).length<=a.length+l.length:=by
 induction l with
 |nil=>intro a;exact a0d _
 |cons y l ih=>
  intro a
  have A:=ih (a:=dI a y)
  have E:=ins_len (l:=a) (n:=y)
  have:cY a (y::l)=cY (dI a y) l:=rfl
  rw[this,a04];omega
theorem uni_snoc{a l}{x:Int}:cY a (l++[x])=dI (cY a l) x:=by unfold cY;rw[List.foldl_append];rfl
theorem uni_app{a l m}:cY a (l++m)=cY (cY a l) m:=by unfold cY;rw[List.foldl_append]
theorem bx{α:Type}{d:α}{l:List α}{i:Nat}(h:i<l.length):l.take (i+1)=l.take i++[l.getD i d]:=by rw[List.take_add_one,a06 h,a03,a06 h];rfl
theorem j8{a l o:List Int}{i:Nat}(h:i<l.length)(A:o=cY a (l.take i)):dI o (l.getD i 0)=cY a (l.take (i+1)):=by rw[bx h (d:=0),uni_snoc,A]
theorem uni_all{a l o i}(h:l.length<=i)(A:o=cY a (l.take i)):o=cY a l:=by rw[A,a0h h]
theorem pre_eqR{l}{n:Int}{k}(Z:Asc l)(hk:k<=l.length)(E: ∀j,k<=j->j<l.length->n<=l.getD j 0)(N:0<k->l.getD (k-1) 0<n):k=jH l n:=by
 refine pre_eq hk (fun j hj=>?_) (fun U=>by have:=E k (a0d _) U;omega);have T:=N M;rcases a0k j (k-1) with A|A
 ·have:=asc_at Z A M;omega
 have:j=k-1:=M
 subst this;exact T
theorem ge_step{l:List Int}{n:Int}{k:Nat}(h: ∀j,k<=j->j<l.length->n<=l.getD j 0)(E:n<=l.getD (k-1) 0): ∀j,k-1<=j->j<l.length->n<=l.getD j 0:=fun j U N=>by
 rcases a0k j k with A|A
 ·have T:j=k-1:=M
  subst T;exact E
 exact h j A N
theorem cp_ins{l}{n:Int}{k}(hk:k=jH l n)(Z:k<=l.length)(h: ¬(k<l.length/\l.getD k 0=n)):(cpL (l++[0]) (k+1) ((l++[0]).drop k)).set k n=dI l n:=by
 have e:cpL (l++[0]) (k+1) ((l++[0]).drop k)=(l++[0]).take (k+1)++l.drop k:=by
  unfold cpL;have E:((l++[0]).drop k).length=l.length+1-k:=by simp
  have A:(l++[(0:Int)]).length=l.length+1:=by simp
  rw[E,A,show min (l.length+1-k) (l.length+1-(k+1))=l.length-k by omega,show k+1+(l.length-k)=l.length+1 by omega];rw[show List.drop (l.length+1) (l++[(0:Int)])=[] from List.drop_of_length_le (by rw[A];exact a0d _),a0p];congr 1;rw[List.drop_append,a2g,a0H,show l.length+1-(k+1)=l.length-k by omega,a1R,List.take_zero,a0p,a0h (by rw[a0H];omega)]
 rw[e,←ins_new hk h,a0l,List.take_add_one];rw[List.set_append];have N:(List.take k (l++[0]))=l.take k:=by rw[a2g,Nat.sub_eq_zero_of_le Z,List.take_zero,a0p]
 have T:(l++[(0:Int)])[k]?.toList=[(l++[(0:Int)]).getD k 0]:=by rw[a03,a06 (show k<(l++[(0:Int)]).length by simp;omega)];rfl
 rw[N,T];have U:(List.take k l++[(l++[(0:Int)]).getD k 0]).length=k+1:=by simp;omega
 rw[if_pos (by rw[U];omega),List.set_append,if_neg p_,a0o,show k-min k l.length=0 by omega];simp
def eE(v:VInT):List Int:=(if(aI v.i.op).ra then [v.i.a] else [])++((if(aI v.i.op).rb then [v.i.b] else [])++((if v.i.op=11\/v.i.op=12 then [v.i.c] else [])++(if v.i.op=6 then v.args else [])))
def aE(v:VInT):List Int:=if alV v.i.op then cY [] (eE v) else []
def ah(v:VInT):List Int:=if alV v.i.op=true/\((aI v.i.op).wa=true\/v.i.op=6\/v.i.op=38) then [v.i.a] else []
def bu(b:BlkT):List Int:=if b.f=1 then [b.t] else if b.f=2 then dI [b.t] b.e else []
def d7(b:BlkT):List Int:=if b.f=2\/b.f=3 then [b.r] else []
theorem reads_no{v}(h:alV v.i.op=false):[]=aE v:=by unfold aE;rw[h];rfl
theorem reads_yes{v l}(h:alV v.i.op=true)(A:l=eE v):cY [] l=aE v:=by unfold aE;rw[h,A];rfl
theorem rrT{l}{a:Int}{p} [Decidable p](h:p):dI l a=cY l (if p then [a] else []):=by rw[if_pos h];rfl
theorem rrF{l}{a:Int}{p} [Decidable p](h: ¬p):l=cY l (if p then [a] else []):=by rw[if_neg h];rfl
theorem vra{op:Int}:(aD op).ra=(aI op).ra:=by unfold aD;split<;>first|rfl|(rename_i h;subst h;rfl)
theorem vrb{op:Int}:(aD op).rb=(aI op).rb:=by unfold aD;split<;>first|rfl|(rename_i h;subst h;rfl)
theorem vf4{op:Int}(h:alV op=true):(aD op).f=4↔op=11\/op=12:=by
 unfold alV at h;have h:=of_decide_eq_true h;by_cases A:op=38
 ·subst A;decide
 have e:aD op=aI op:=by unfold aD;rw[if_neg A]
 rw[e];obtain⟨k,E⟩:=ex37 (op:=op) ⟨M,M⟩;rw[E];clear E;revert k;decide+kernel
theorem rr_end{v E N T U k}(aa:alV v.i.op=true)(a_:E=cY [] (if(aI v.i.op).ra=true then [v.i.a] else []))(Z:N=cY E (if(aI v.i.op).rb=true then [v.i.b] else []))(q3:T=cY N (if v.i.op=11\/v.i.op=12 then [v.i.c] else []))
  (q4:U=cY T (v.args.take k)) (q6:k=0\/v.i.op=6) (h:v.i.op=6->v.args.length<=k):U=aE v:=by
 have e:v.args.take k=if v.i.op=6 then v.args else []:=by
  by_cases A:v.i.op=6
  ·rw[if_pos A,a0h (h A)]
  rw[if_neg A];have:k=0:=M
  subst this;rfl
 unfold aE eE
 rw[if_pos aa,uni_app,uni_app,uni_app,←a_,←Z,←q3,←e,←q4]
theorem de{a:Int}{p:Prop} [Decidable p]:(if p then [a] else []).length<=1:=by split<;>simp
theorem rr_len{v:VInT}{A E N T:List Int}{k:Nat}(q1:A=cY [] (if(aI v.i.op).ra=true then [v.i.a] else []))(q2:E=cY A (if(aI v.i.op).rb=true then [v.i.b] else []))(q3:N=cY E (if v.i.op=11\/v.i.op=12 then [v.i.c] else []))
  (q4:T=cY N (v.args.take k)):T.length<=3+v.args.length:=by
 have U:A.length<=1:=by rw[q1];exact a0e eC (by simpa using de)
 have a_:E.length<=2:=by rw[q2];exact a0e eC (a1q U de)
 have Z:N.length<=3:=by rw[q3];exact a0e eC (a1q a_ de)
 rw[q4];exact a0e eC (a1q Z p_)
theorem rr_len1{v:VInT}{A:List Int}(E:A=cY [] (if(aI v.i.op).ra=true then [v.i.a] else [])):A.length<=1:=by rw[E];exact a0e eC (by simpa using de)
theorem rr_len2{v:VInT}{A E:List Int}(N:A.length<=1)(T:E=cY A (if(aI v.i.op).rb=true then [v.i.b] else [])):E.length<=2:=by rw[T];exact a0e eC (a1q N de)
theorem writes_no{v}(h:alV v.i.op=false):[]=ah v:=by unfold ah;rw[if_neg (by simp[h])]
theorem mp{v}(h:alV v.i.op=true)(A:(aI v.i.op).wa=true\/v.i.op=6\/v.i.op=38):[v.i.a]=ah v:=by unfold ah;rw[if_pos ⟨h,A⟩]
theorem writes_not{v}(h: ¬((aI v.i.op).wa=true\/v.i.op=6\/v.i.op=38)):[]=ah v:=by unfold ah;rw[if_neg fun A=>h A.2]
theorem vwa{op:Int}:((aD op).wa=true)↔((aI op).wa=true\/op=38):=by
 unfold aD;split
 ·rename_i h;subst h;simp
 rename_i h;constructor
 ·exact .inl
 rintro(A|A)
 ·exact A
 exact absurd A h
theorem rwr_yes{v}(h:alV v.i.op=true/\((aD v.i.op).wa=true\/v.i.op=6)):[v.i.a]=ah v:=mp h.1 (by have:=vwa (op:=v.i.op);rcases h.2 with A|A;(rcases this.1 A with E|E);exact .inl E;exact .inr (.inr E);exact .inr (.inl A))
theorem rwr_no{v}(h:alV v.i.op=true->(aD v.i.op).wa=false/\v.i.op≠6):[]=ah v:=by
 unfold ah;rw[if_neg];rintro⟨N,A⟩;obtain⟨E,T⟩:=h N;have:=vwa (op:=v.i.op);rcases A with A|A|A
 ·rw[this.2 (.inl A)]at E;cases E
 ·exact T A
 rw[this.2 (.inr A)]at E;cases E
theorem succ1{b}(h:b.f=1):[b.t]=bu b:=by unfold bu;rw[if_pos h]
theorem succ2{b}(h:b.f=2):bu b=dI [b.t] b.e:=by unfold bu;rw[if_neg M,if_pos h]
theorem succ0{b}(h:b.f≠1/\b.f≠2):[]=bu b:=by unfold bu;rw[if_neg h.1,if_neg h.2]
theorem kj{a b o:List Int}{i:Nat}(h:i<a.length)(A:o=gN (a.take i) b):(im b (a.getD i 0)=false->o++[a.getD i 0]=gN (a.take (i+1)) b)/\(im b (a.getD i 0)=true->o=gN (a.take (i+1)) b):=by
 unfold gN at A⊢;rw[bx h (d:=0),List.filter_append,←A];constructor
 ·intro hc;rw[a1D,hc];rfl
 intro hc;rw[a1D,hc];simp
theorem min_len{a b}:(gN a b).length<=a.length:=a16 _ _
theorem unique_c{ai al}(l:List Int)(hs:Hb H F H [] R)(hl:Sr F ai l al)(hT:TB 37 tabC F)(g2:l.length<=1048600):kKt ex 132 [(sL ai l.length al)] H fun v H'=> ∃ar,∃(kr:Nat) (r:List Int),∃p F',F.le F'/\Hb H F' H' [p] R/\v=sL ar r.length kr/\OZ F' ar r kr p/\r=cY [] l:=by
 refine aB Tryz.func132 V V (am 1 V (wT 2 [] 2 2 [] [(2,N_)] V fun _=>wT 3 [] 1 0 [3] [(3,N_)] V fun _=>wT 2 [] 7 9 [] [(7,(sL ai l.length al)),(8,(l.length:Int)),(9,(iI 0))] V fun _=>?_));have c9:=HS.snoc hs;refine aj (fun(mm:Nat) f H'=> ∃(ow:List Int) (i:Nat),∃A,∃(E:Nat),∃U F',F.le F'/\Hb H F' H' [U] R/\OZ F' A ow E U/\aA f [(3,(sL A ow.length E)),(7,(sL ai l.length al)),(8,(l.length:Int)),(9,(i:Int))]/\mm=l.length-i/\(i<=l.length)/\(ow=cY [] (l.take i))) _ ⟨([]:List Int),0,none,0,[],_,fR,c9,(OS.nil:OS _ N_ ([]:List Int) []),f_,V,M,m_⟩ ?_;rintro f3 f4 H4 ⟨ow,i,A,E,U,F4,a2,T,N,bt,rfl,h1,h2⟩ b1;refine au _ bt (fun _=>?_);clear bt;replace hl:=hl.mono a2;have ci:Asc ow:=h2▸uni_asc List.Pairwise.nil;have g3:ow.length<=i:=by rw[h2];exact a0e eC l_
 refine am 1 V (wT 2 [] 10 10 [] [(10,(decide ((i:Int)<(l.length:Int))))] V fun _=>zd 4 5 (fun c7=>?_) fun c7=>?_)
 ·obtain⟨e6,bz⟩:=Sv.view (SR.sv hl T);have g9:=fI (bz i);refine wrp 2 11 12 [5] [(5,(l.getD i 0))] (Ha_ (Sv.ix (j:=(i:Int)) (SR.sv hl T)) (Hl_ 1 (ql 3 0 (vI (bz i)) V V) Hn_)) K_ V fun _=>wT 3 [] 13 14 [6] [(6,(ow.length:Int))] V fun _=>aj (fun(mm:Nat) f H'=> ∃(k:Nat),H'=H4/\aA f [(3,(sL A ow.length E)),(5,(l.getD i 0)),(6,(k:Int)),(7,(sL ai l.length al)),(8,(l.length:Int)),(9,(i:Int))]/\mm=k+1/\(k<=ow.length)/\(∀j,k<=j->j<ow.length->l.getD i 0<=ow.getD j 0)) _ ⟨ow.length,V,f_,V,M,(by intro j h5 h6;omega)⟩ ?_
  rintro e0 fd H4 ⟨k,rfl,a4,rfl,h3,h4⟩ b6;refine au _ a4 (fun _=>?_);clear a4;refine am 2 V ?_;obtain⟨d2,a7⟩:=Sv.view (OS.sv N T (i:=0) V);have fi:=fI (a7 (k-1));refine wrp 1 15 25 [] [(25,((decide ((0:Int)<(k:Int)))&&(decide ((l.getD i 0)<=(ow.getD (k-1) 0)))))] (Ho_ 5 (.e ((k-1:Nat):Int)) (fun(g1:(decide ((0:Int)<(k:Int)))=true)=>(ve (n:=(k:Int)-1) (m:=((k-1:Nat):Int)) (by(try simp only[BS]at g1);omega) (by(try simp only[BS]at g1);omega))) (Ha_ (fun(g1:(decide ((0:Int)<(k:Int)))=true)=>(Sv.ix (j:=((k-1:Nat):Int)) (OS.sv N T (i:=0) V) (by(try simp only[BS]at g1);omega) (by(try simp only[BS]at g1);omega))) (bp 7 (fun g1=>(ql 3 0 (vI (a7 (k-1)) (by(try simp only[BS]at g1);omega)) V V)) Hn_))) V V fun _=>zI 2 6 (fun co=>?_) fun co=>?_
  ·refine wU 2 [(1,.e ((k-1:Nat):Int))] 26 27 [6] [(6,((k-1:Nat):Int))] (ve (n:=(k:Int)-1) (m:=((k-1:Nat):Int)) M M) V fun _=>?_
   refine b6 _ _ _ ?_ ⟨k-1,V,f_,V,M,(ge_step h4 M)⟩;omega
  have hk:=pre_eqR ci h3 h4 M;obtain⟨em,a8⟩:=Sv.view (OS.sv N T (i:=0) V);have fj:=fI (a8 k);refine wrp 1 28 39 [] [(39,((decide ((k:Int)<(ow.length:Int)))&&((ow.getD k 0)==(l.getD i 0))))] (Ha_ (fun(g1:(decide ((k:Int)<(ow.length:Int)))=true)=>(Sv.ix (j:=(k:Int)) (OS.sv N T (i:=0) V) (by(try simp only[BS]at g1);omega) (by(try simp only[BS]at g1);omega))) (bp 8 (fun g1=>(ql 3 0 (vI (a8 k) (by(try simp only[BS]at g1);omega)) V V)) Hn_)) V V fun _=>zI 3 2 (fun c5=>?_) fun c5=>?_
  ·refine wU 1 [] 9 9 [55] [(9,(iI ((i:Int)+1)))] (vi (n:=(i:Int)+1)) V fun _=>?_
   refine b1 _ _ _ ?_ ⟨ow,i+1,A,E,U,_,(a2),T,N,f_,V,M,(by(rw[←j8 M h2];exact nH hk M M))⟩;omega
  refine ab (zm (sL A ow.length E) (zlo ([0]:List Int) T V (RL.cs ⟨V,M⟩ RL.nl) V fun e3 f0 f5 e1 b3 a5=>zao 0 N a5 (OS.sv b3 a5 (i:=1) V) V V V M fun a_ Z dd cc aw ay=>za (sL a_ (ow++([0]:List Int)).length Z) (ae 2 V ?_)));have la:(ow++([0]:List Int)).length=ow.length+1:=by simp
  refine aC V (zfm (sL a_ (ow++([0]:List Int)).length Z) (zfm (iI (k:Int)) (wfv (v:=(iI ((k:Int)+1))) (ap_add V V (w_i64 (n:=(k:Int)+1) M)) (eU (id:= .r) (rs_cutX (α:=Int) (i:=k+1) aw ay.log0 (q:=0) V V V V (optN M) M) V V (by rintro _ _ _ ⟨_,_,_,hH,_⟩;simp only at hH;subst hH;exact did_r fun b hb=>absurd hb a0g) (kb V) ?_))));rintro _ _ _ ⟨e4,f1,rfl,an,ez,a9⟩ b7 bb;simp only at an;replace an:=an.symm;subst an;have av:=HS.lg ay.log0 ay bb;generalize ({{cc with log:=[]} with log:=b7}:Heap)=b2 at av⊢;refine zfm (sL a_ (ow++([0]:List Int)).length Z) (zfm (iI (k:Int)) (eU (id:= .r) (rs_cutX (α:=Int) (i:=k) aw av.log0 (q:=0) V V V V (optN M) M) V V (by rintro _ _ _ ⟨_,_,_,hH,_⟩;simp only at hH;subst hH;exact did_r fun b hb=>absurd hb a0g) (kb V) ?_));rintro _ _ _ ⟨e5,f2,rfl,ap,b4,dn⟩ b8 bk;simp only at ap;replace ap:=ap.symm;subst ap;have a1:=HS.lg av.log0 av bk;generalize ({{b2 with log:=[]} with log:=b8}:Heap)=dt at a1⊢;refine eU (id:= .x (dd.map Prod.fst)) (rs_cp (α:=Int) (i:=k+1) aw a1.log0 (q:=0) V V a9 M b4 V V V) V V (by rintro _ _ dk ⟨rfl,aq,_,hwr⟩;exact dh V V (Wr.did hwr)) (kb V) ?_;rintro _ ch dk ⟨rfl,aq,ag,_⟩ b9 bl;replace ag:=HS.lg ag a1 bl;generalize ({ch with log:=b9}:Heap)=dv at ag⊢;have et:=OS.len' aq;refine gM (am 1 V (ab (bK 4 0 51 54 [] [(53,(l.getD i 0)),(54,(.pointer (some ⟨sB (sL a_ (ow++([0]:List Int)).length Z),sO (sL a_ (ow++([0]:List Int)).length Z)+k *Rp.sz Int,none⟩)))] (Ha_ (Sv.ix (j:=(k:Int)) (OS.sv aq ag (i:=0) V)) Hn_) K_ V fun _=>cL (bW (α:=Int) (j:=k) (off:=0) (q:=0) (l.getD i 0) aq ag V V V V V V V V (aO (x:=(0:Int)) M) V (by rintro cs ⟨rfl,_⟩;exact⟨a08 V,V,M⟩)) V ?_)));rintro _ e2 dl ⟨ax,b5,_⟩;have ds:=OS.len' ax;refine ae 2 V (wU 1 [] 9 9 [55] [(9,(iI ((i:Int)+1)))] (vi (n:=(i:Int)+1)) V fun _=>?_);refine b1 _ _ _ ?_ ⟨(cpL (ow++([0]:List Int)) (k+1) ((ow++([0]:List Int)).drop k)).set k (l.getD i 0),i+1,a_,Z,dl,_,(a2),(HS.sub b5 (a01 _ _)),(OS.norm ax),(agC (show Value.slice a_ (ow++([0]:List Int)).length Z=Value.slice a_ ((cpL (ow++([0]:List Int)) (k+1) ((ow++([0]:List Int)).drop k)).set k (l.getD i 0)).length Z by rw[OS.len' ax]) f_),V,M,(by(rw[cp_ins hk h3 M];exact j8 M h2))⟩;omega
 refine wT 1 [] 2 2 [56] [(2,(sL A ow.length E))] V fun _=>ak ⟨.inr V,_,V,A,E,ow,U,_,(a2),(HS.only T (i:=0) V),V,N,(uni_all M h2)⟩
theorem a_1{p:Prop}(h:p:=by first|assumption|omega):p:=h
theorem a_0{p:Prop}(h:p:=by(rw[if_pos (by first|assumption|omega)];done)):p:=h
theorem np{av aw}(iv:VInT)(hs:Hb H F H [] R)(hp:in64 iv.i.op)(hr:in64 iv.i.a)(ht:in64 iv.i.b)(hu:in64 iv.i.c)(hv:in64 iv.i.n)(A:Sr F av iv.args aw)(hT:TB 37 tabC F)(kn:iv.args.length<=1048576):kKt ex 87 [(aG [iv.i.op,iv.i.a,iv.i.b,iv.i.c,iv.i.n,(sL av iv.args.length aw)])] H fun v H'=> ∃ar,∃(kr:Nat) (r:List Int),∃p F',F.le F'/\Hb H F' H' [p] R/\v=sL ar r.length kr/\OZ F' ar r kr p/\r=aE iv:=by
 refine aB Tryz.func87 V V (am 1 V (ab (aT (aN hs V V) V V ?_)));rintro _ H2 _ ⟨b1,rfl,a8,_⟩;refine za N_ (ae 3 V (aU 1 6 10 [] [(10,(!(alV iv.i.op)))] (Hr_ 2 0 (Hc_ 3 (m1.ns ex iv.i.op H2) Hn_)) a8 V V fun _=>zI 1 2 (fun c4=>?_) fun c4=>?_))
 ·refine wT 1 [] 2 2 [] [(2,N_)] V fun _=>ak ⟨.inr V,_,V,none,0,([]:List Int),[],_,fR,(HS.cons (HS.forget a8)),V,(OS.nil:OS _ _ _ []),(reads_no X)⟩
 refine ab (aS 3 0 12 14 [] [(14,iv.i.op)] (Hr_ 2 0 Hn_) a8 V V fun _=>zc (m1.gZ ex iv.i.op (HS.call a8) M hT) ?_);rintro _ H7 ⟨x7,o7,F7,ci,dn,rfl,ha,hb,rfl,rfl⟩;replace dn:=HS.back a8 V dn;replace hT:=hT.mono ci;replace A:=A.mono ci;refine bK 3 4 16 17 [11] [(16,(aG [(tX (aI iv.i.op).name.b),(aI iv.i.op).f,(.bool (aI iv.i.op).ra),(.bool (aI iv.i.op).wa),(.bool (aI iv.i.op).rb),(.bool (aI iv.i.op).mt),(aI iv.i.op).w])),(17,(infO iv.i.op))] Hn_ K_ V fun _=>zn dn V fun b9 hG f6=>sgo 2 8 1 0 [4] [] (Hr_ 8 1 Hn_) f6 V V fun hz hH c8=>ae 2 V (wT 3 [] 1 0 [5] [(5,N_)] V fun _=>aU 1 18 19 [] [(19,(.bool (aI iv.i.op).ra))] (Hr_ 1 1 Hn_) c8 V V fun _=>?_)
 have b3:=HS.snoc c8;let b5:Fp:=(fP b1 [iv.i.op,iv.i.a,iv.i.b,iv.i.c,iv.i.n,(sL av iv.args.length aw)])
 let b6:Fp:=(fP b9 [(tX (aI iv.i.op).name.b),(aI iv.i.op).f,(.bool (aI iv.i.op).ra),(.bool (aI iv.i.op).wa),(.bool (aI iv.i.op).rb),(.bool (aI iv.i.op).mt),(aI iv.i.op).w])
 refine ba (fun f H'=> ∃(l1:List Int),∃E,∃(U:Nat),∃an F',F7.le F'/\Hb H F' H' [b5,b6,an] R/\OZ F' E l1 U an/\aA f [(1,(pT b1 0)),(3,(pT b9 0)),(5,(sL E l1.length U))]/\(l1=if(aI iv.i.op).ra=true then [iv.i.a] else [])) (fun ds=>?_) ?_
 ·refine zI 0 0 (fun g6=>?_) fun g6=>?_
  ·refine ab (aS 4 0 20 23 [] [(20,N_),(23,iv.i.a)] (Hr_ 3 0 Hn_) b3 V V fun _=>zlo [iv.i.a] b3 V (RL.cs ⟨V,M⟩ RL.nl) V fun hX h6 h9 hJ fj c9=>zao 2 (OS.nil:OS _ N_ ([]:List Int) []) c9 (OS.sv fj c9 (i:=3) V) V V V M fun b7 d2 fd hK b2 f7=>?_);have b2:OS F7 (sL b7 [iv.i.a].length d2) [iv.i.a] fd:=b2;refine za (sL b7 [iv.i.a].length d2) (ae 0 V ?_);exact ds _ _ ⟨[iv.i.a],b7,d2,fd,_,fR,(HS.sub f7 (a01 _ _)),b2,f_,a_0⟩
  exact ds _ _ ⟨([]:List Int),none,0,[],_,fR,b3,(OS.nil:OS _ N_ ([]:List Int) []),f_,(by(rw[if_neg (by first|omega|(intro hh;simp_all;done))];done))⟩
 skip;rintro h2 hI ⟨l1,E,U,an,g1,bl,a7,a9,co,q1⟩;refine au _ co (fun _=>?_);clear co;replace hT:=hT.mono bl;replace A:=A.mono bl;have n1:l1.length<=1:=by rw[q1];exact de
 refine am 3 V (aU 1 26 27 [] [(27,(.bool (aI iv.i.op).rb))] (Hr_ 1 1 Hn_) a7 V V fun _=>ba (fun f H'=> ∃(l2:List Int),∃N,∃(a_:Nat),∃ap F',g1.le F'/\Hb H F' H' [b5,b6,ap] R/\OZ F' N l2 a_ ap/\aA f [(1,(pT b1 0)),(5,(sL N l2.length a_))]/\(l2=l1++if(aI iv.i.op).rb=true then [iv.i.b] else [])) (fun dt=>?_) ?_)
 ·refine zI 0 0 (fun g7=>?_) fun g7=>?_
  ·refine ab (aS 4 0 28 31 [] [(28,(sL E l1.length U)),(31,iv.i.b)] (Hr_ 3 0 Hn_) a7 V V fun _=>zlo [iv.i.b] a7 V (RL.cs ⟨V,M⟩ RL.nl) V fun hY h7 ib hM f0 dd=>zao 2 a9 dd (OS.sv f0 dd (i:=3) V) V V V M fun e1 e4 he hO f1 f8=>za (sL e1 (l1++[iv.i.b]).length e4) (ae 0 V ?_));exact dt _ _ ⟨l1++[iv.i.b],e1,e4,he,_,fR,(HS.sub f8 (a01 _ _)),f1,f_,a_0⟩
  exact dt _ _ ⟨l1,E,U,an,_,fR,a7,a9,f_,(by(rw[if_neg (by first|omega|(intro hh;simp_all;done)),a0p]))⟩
 skip;rintro h3 hL ⟨l2,N,a_,ap,g2,bt,ax,bb,c5,q2⟩;refine au _ c5 (fun _=>?_);clear c5;replace hT:=hT.mono bt;replace A:=A.mono bt;have n2:l2.length<=2:=by rw[q2,a02];exact a1q n1 de
 refine am 3 V (aU 1 34 43 [] [(43,((iv.i.op==11)||(iv.i.op==12)))] (Hr_ 2 0 (bp 7 (fun _=>(ql 3 0 (h_ ax V) V V)) Hn_)) ax V V fun _=>ba (fun f H'=> ∃(l3:List Int),∃T,∃(Z:Nat),∃aq F',g2.le F'/\Hb H F' H' [b5,b6,aq] R/\OZ F' T l3 Z aq/\aA f [(1,(pT b1 0)),(5,(sL T l3.length Z))]/\(l3=l2++if iv.i.op=11\/iv.i.op=12 then [iv.i.c] else [])) (fun dv=>?_) ?_)
 ·refine zI 0 0 (fun g8=>?_) fun g8=>?_
  ·refine ab (aS 4 0 44 47 [] [(44,(sL N l2.length a_)),(47,iv.i.c)] (Hr_ 3 0 Hn_) ax V V fun _=>zlo [iv.i.c] ax V (RL.cs ⟨V,M⟩ RL.nl) V fun h1 h8 ih hQ f2 dk=>zao 2 bb dk (OS.sv f2 dk (i:=3) V) V V V M fun e2 e5 hf hR f3 f9=>za (sL e2 (l2++[iv.i.c]).length e5) (ae 0 V ?_));exact dv _ _ ⟨l2++[iv.i.c],e2,e5,hf,_,fR,(HS.sub f9 (a01 _ _)),f3,f_,a_0⟩
  exact dv _ _ ⟨l2,N,a_,ap,_,fR,ax,bb,f_,(by(rw[if_neg (by first|omega|(intro hh;simp_all;done)),a0p]))⟩
 skip;rintro h4 hP ⟨l3,T,Z,aq,g3,bz,ay,bk,c6,q3⟩;refine au _ c6 (fun _=>?_);clear c6;replace hT:=hT.mono bz;replace A:=A.mono bz;have n3:l3.length<=3:=by rw[q3,a02];exact a1q n2 de
 refine am 3 V (aU 1 50 53 [] [(53,(iv.i.op==6))] (Hr_ 2 0 Hn_) ay V V fun _=>ba (fun f H'=> ∃(l4:List Int),∃aa,∃(ag:Nat),∃a4 F',g3.le F'/\Hb H F' H' [b5,b6,a4] R/\OZ F' aa l4 ag a4/\aA f [(5,(sL aa l4.length ag))]/\(l4=l3++if iv.i.op=6 then iv.args else [])) (fun d1=>?_) ?_)
 ·refine zI 0 0 (fun g9=>?_) fun g9=>?_
  ·refine ab (aS 3 0 54 56 [] [(54,(sL T l3.length Z)),(56,(sL av iv.args.length aw))] (Hr_ 2 0 Hn_) ay V V fun _=>zao 2 bk ay (SR.sv A ay) V V V M fun e3 e6 hg hV f4 gt=>za (sL e3 (l3++iv.args).length e6) (ae 0 V ?_));exact d1 _ _ ⟨l3++iv.args,e3,e6,hg,_,fR,gt,f4,f_,a_0⟩
  exact d1 _ _ ⟨l3,T,Z,aq,_,fR,ay,bk,f_,(by(rw[if_neg (by first|omega|(intro hh;simp_all;done)),a0p]))⟩
 skip;rintro h5 hS ⟨l4,aa,ag,a4,hD,cc,go,et,c7,q4⟩;refine au _ c7 (fun _=>?_);clear c7;have n4:l4.length<=1048579:=by rw[q4,a02];(have hq:(if iv.i.op=6 then iv.args else []).length<=iv.args.length:=by split<;>first|exact a0d _|exact a0r _);omega
 refine am 2 V (ab (zm (sL aa l4.length ag) ?_));obtain⟨hE,ch,dl,f5,hA⟩:=OS.frz et go (i:=2) V;replace hT:=(hT.mono cc).mono ch;refine zc (unique_c ex l4 (HS.call dl) f5 hT M) ?_;rintro _ hW ⟨b8,em,ii,hj,hF,fi,b4,rfl,e0,rfl⟩;replace b4:=HS.back dl V b4;refine za (sL b8 (cY [] l4).length em) (ae 1 V (ak ⟨.inr V,_,V,b8,em,cY [] l4,hj,_,(fT (fT (fT (fT (fT (fT (ci) bl) bt) bz) cc) ch) fi),(HS.only b4 (i:=3) V),V,e0,(reads_yes X (by simp only[q4,q3,q2,q1,eE,a0l]))⟩))
theorem kf{a1 a3}(iv:VInT)(hs:Hb H F H [] R)(g2:in64 iv.i.op)(g3:in64 iv.i.a)(g4:in64 iv.i.b)(g5:in64 iv.i.c)(g6:in64 iv.i.n)(A:Sr F a1 iv.args a3)(hT:TB 37 tabC F)(hd:iv.args.length<=1048576):kKt ex 77 [(aG [iv.i.op,iv.i.a,iv.i.b,iv.i.c,iv.i.n,(sL a1 iv.args.length a3)])] H fun v H'=> ∃ar,∃(kr:Nat) (r:List Int),∃F',F.le F'/\Hb H F' H' [] R/\v=sL ar r.length kr/\Sr F' ar r kr/\r=aE iv:=by
 refine aB Tryz.func77 V V (am 1 V (ab (aT (aN hs V V) V V ?_)));rintro _ H2 _ ⟨b1,rfl,a4,_⟩;refine za N_ (ae 2 V (wT 3 [] 1 0 [3] [(3,N_)] V fun _=>aU 1 6 10 [] [(10,(!(alV iv.i.op)))] (Hr_ 2 0 (Hc_ 3 (m1.nD ex iv.i.op H2) Hn_)) a4 V V fun _=>zI 1 2 (fun c5=>?_) fun c5=>?_))
 ·refine wT 1 [] 2 2 [11] [(2,N_)] V fun _=>ak ⟨.inr V,_,V,none,0,([]:List Int),_,fR,(HS.forget a4),V,(SR.nil:SR F N_ ([]:List Int)),(reads_no X)⟩
 have cc:alV iv.i.op=true:=by assumption
 refine ab (aS 3 0 12 14 [] [(14,iv.i.op)] (Hr_ 2 0 Hn_) a4 V V fun _=>zc (m3.nB ex iv.i.op (HS.call a4) M hT) ?_);rintro _ H8 ⟨x8,F8,ch,c8,rfl,go,gt,rfl⟩;replace c8:=HS.back a4 V c8;replace hT:=hT.mono ch;replace A:=A.mono ch;let b4:Fp:=(fP b1 [iv.i.op,iv.i.a,iv.i.b,iv.i.c,iv.i.n,(sL a1 iv.args.length a3)])
 refine zn c8 V fun b9 hn fd=>sgo 1 5 1 0 [] [] (Hr_ 5 1 Hn_) fd V V fun ha hp ap=>ae 3 V (aU 1 16 17 [] [(17,(.bool (aD iv.i.op).ra))] (Hr_ 1 1 Hn_) ap V V fun _=>ba (fun f H'=> ∃(l1:List Int),∃U,∃(Z:Nat),∃F',F8.le F'/\Hb H F' H' [b4,(fP b9 [(tX (aD iv.i.op).name.b),(aD iv.i.op).f,(.bool (aD iv.i.op).ra),(.bool (aD iv.i.op).wa),(.bool (aD iv.i.op).rb),(.bool (aD iv.i.op).mt),(aD iv.i.op).w])] R/\Sr F' U l1 Z/\aA f [(1,(pT b1 0)),(3,(sL U l1.length Z)),(4,(pT b9 0))]/\(l1=cY [] (if(aI iv.i.op).ra=true then [iv.i.a] else []))) (fun dd=>?_) ?_)
 ·refine zI 0 0 (fun f6=>?_) fun f6=>?_
  ·refine ab (aS 4 0 18 21 [] [(18,N_),(21,iv.i.a)] (Hr_ 3 0 Hn_) ap V V fun _=>zc (m6.dH ex ([]:List Int) iv.i.a (HS.call ap) (SR.nil:SR F8 N_ ([]:List Int)) M hT u_) ?_);rintro _ hr ⟨b5,dn,hG,hg,e3,bl,rfl,et,rfl⟩;replace bl:=HS.back ap V bl;refine za (sL b5 (dI ([]:List Int) iv.i.a).length dn) (ae 0 V ?_);exact dd _ _ ⟨dI ([]:List Int) iv.i.a,b5,dn,_,(e3),bl,et,f_,(rrT (by rw[←vra];assumption))⟩
  exact dd _ _ ⟨([]:List Int),none,0,_,fR,ap,(SR.nil:SR F8 N_ ([]:List Int)),f_,(rrF (by rw[←vra];simp_all))⟩
 skip;rintro hB hq ⟨l1,U,Z,f3,a9,aq,a5,ci,q1⟩;refine au _ ci (fun _=>?_);clear ci;replace hT:=hT.mono a9;replace A:=A.mono a9;have n1:=rr_len1 q1;let d2:Fp:=(fP b9 [(tX (aD iv.i.op).name.b),(aD iv.i.op).f,(.bool (aD iv.i.op).ra),(.bool (aD iv.i.op).wa),(.bool (aD iv.i.op).rb),(.bool (aD iv.i.op).mt),(aD iv.i.op).w])
 refine am 3 V (aU 1 23 24 [] [(24,(.bool (aD iv.i.op).rb))] (Hr_ 1 1 Hn_) aq V V fun _=>ba (fun f H'=> ∃(l2:List Int),∃a_,∃(aa:Nat),∃F',f3.le F'/\Hb H F' H' [b4,d2] R/\Sr F' a_ l2 aa/\aA f [(1,(pT b1 0)),(3,(sL a_ l2.length aa)),(4,(pT b9 0))]/\(l2=cY l1 (if(aI iv.i.op).rb=true then [iv.i.b] else []))) (fun dk=>?_) ?_)
 ·refine zI 0 0 (fun f7=>?_) fun f7=>?_
  ·refine ab (aS 4 0 25 28 [] [(25,(sL U l1.length Z)),(28,iv.i.b)] (Hr_ 3 0 Hn_) aq V V fun _=>zc (m6.dH ex l1 iv.i.b (HS.call aq) a5 M hT M) ?_);rintro _ hu ⟨b6,ds,hH,hj,e4,bt,rfl,ez,rfl⟩;replace bt:=HS.back aq V bt;refine za (sL b6 (dI l1 iv.i.b).length ds) (ae 0 V ?_);exact dk _ _ ⟨dI l1 iv.i.b,b6,ds,_,(e4),bt,ez,f_,(rrT (by rw[←vrb];assumption))⟩
  exact dk _ _ ⟨l1,U,Z,_,fR,aq,a5,f_,(rrF (by rw[←vrb];simp_all))⟩
 skip;rintro hC ht ⟨l2,a_,aa,f4,bb,av,a7,co,q2⟩;refine au _ co (fun _=>?_);clear co;replace hT:=hT.mono bb;replace A:=A.mono bb;have n2:=rr_len2 n1 q2;refine am 3 V (aU 1 30 32 [] [(32,((aD iv.i.op).f==4))] (Hr_ 1 1 Hn_) av V V fun _=>ba (fun f H'=> ∃(l3:List Int),∃ag,∃(an:Nat),∃F',f4.le F'/\Hb H F' H' [b4,d2] R/\Sr F' ag l3 an/\aA f [(1,(pT b1 0)),(3,(sL ag l3.length an))]/\(l3=cY l2 (if iv.i.op=11\/iv.i.op=12 then [iv.i.c] else []))) (fun dl=>?_) ?_)
 ·refine zI 0 0 (fun f8=>?_) fun f8=>?_
  ·refine ab (aS 4 0 33 36 [] [(33,(sL a_ l2.length aa)),(36,iv.i.c)] (Hr_ 3 0 Hn_) av V V fun _=>zc (m6.dH ex l2 iv.i.c (HS.call av) a7 M hT M) ?_);rintro _ hw ⟨b7,dt,hI,hk,e5,bz,rfl,e0,rfl⟩;replace bz:=HS.back av V bz;refine za (sL b7 (dI l2 iv.i.c).length dt) (ae 0 V ?_);exact dl _ _ ⟨dI l2 iv.i.c,b7,dt,_,(e5),bz,e0,f_,(rrT ((vf4 cc).1 X))⟩
  exact dl _ _ ⟨l2,a_,aa,_,fR,av,a7,f_,(rrF (fun hh=>absurd ((vf4 cc).2 hh) M))⟩
 skip;rintro hD hv ⟨l3,ag,an,f5,bk,fi,d1,c6,q3⟩;refine au _ c6 (fun _=>?_);clear c6;refine am 3 V (wT 2 [] 1 0 [5] [(5,(iI 0))] V fun _=>aj (fun(mm:Nat) f H'=> ∃(l4:List Int) (k:Nat),∃E,∃(N:Nat),∃F',f5.le F'/\Hb H F' H' [b4,d2] R/\Sr F' E l4 N/\aA f [(1,(pT b1 0)),(3,(sL E l4.length N)),(5,(k:Int))]/\mm=iv.args.length-k/\(l4=cY l3 (iv.args.take k))/\(k<=iv.args.length)/\(k=0\/iv.i.op=6)) _ ⟨l3,0,ag,an,_,fR,fi,d1,f_,V,m_,M,M⟩ ?_);rintro hb hE hz ⟨l4,k,E,N,hl,a2,T,a8,c7,rfl,q4,q5,q6⟩ fj;refine au _ c7 (fun _=>?_);clear c7;replace hT:=(hT.mono bk).mono a2;replace A:=(A.mono bk).mono a2;have n4:=rr_len q1 q2 q3 q4;refine am 2 V (aU 1 38 48 [] [(48,((decide ((k:Int)<(iv.args.length:Int)))&&(iv.i.op==6)))] (Hr_ 2 0 (bp 8 (fun _=>(ql 3 0 (h_ T V) V V)) Hn_)) T V V fun _=>zI 3 5 (fun f9=>?_) fun f9=>?_)
 ·refine ab ?_;obtain⟨g9,c9⟩:=Sv.view (SR.sv A T);have hF:=fI (c9 k);refine aS 6 0 51 56 [] [(51,(sL E l4.length N)),(56,(iv.args.getD k 0))] (Hr_ 2 0 (Ha_ (Sv.ix (j:=(k:Int)) (SR.sv A T)) (Hl_ 5 (ql 3 0 (vI (c9 k)) V V) Hn_))) T V V fun _=>zc (m6.dH ex l4 (iv.args.getD k 0) (HS.call T) a8 M hT M) ?_
  rintro _ hA ⟨b8,dv,hJ,hm,e6,b2,rfl,e1,rfl⟩;replace b2:=HS.back T V b2;refine za (sL b8 (dI l4 (iv.args.getD k 0)).length dv) (ae 2 V (wU 1 [] 49 50 [5] [(5,(iI ((k:Int)+1)))] (vi (n:=(k:Int)+1)) V fun _=>?_));refine fj _ _ _ ?_ ⟨dI l4 (iv.args.getD k 0),k+1,b8,dv,_,(fT (a2) e6),b2,e1,f_,V,(j8 M q4),M,M⟩;omega
 refine wT 1 [] 2 2 [58] [(2,(sL E l4.length N))] V fun _=>ak ⟨.inr V,_,V,E,N,l4,_,(fT (fT (fT (fT (ch) a9) bb) bk) a2),(HS.forget T),V,a8,(rr_end X q1 q2 q3 q4 q6 M)⟩
theorem iy{N T}(iv:VInT)(hs:Hb H F H [] R)(ay:in64 iv.i.op)(a1:in64 iv.i.a)(a2:in64 iv.i.b)(a3:in64 iv.i.c)(a4:in64 iv.i.n)(a5:Sr F N iv.args T)(hT:TB 37 tabC F):kKt ex 88 [(aG [iv.i.op,iv.i.a,iv.i.b,iv.i.c,iv.i.n,(S_ N iv.args T)])] H fun v H'=> ∃ar,∃(kr:Nat) (r:List Int),∃p F',F.le F'/\Hb H F' H' [p] R/\v=sL ar r.length kr/\OZ F' ar r kr p/\r=ah iv:=by
 refine aB Tryz.func88 V V (am 1 V (ab (aT (aN hs V V) V V ?_)));rintro _ H2 _ ⟨b1,rfl,E,_⟩;refine za N_ (ae 3 V (aU 1 5 9 [] [(9,(!(alV iv.i.op)))] (Hr_ 2 0 (Hc_ 3 (m1.ns ex iv.i.op H2) Hn_)) E V V fun _=>zI 1 2 (fun c4=>?_) fun c4=>?_))
 ·refine wT 1 [] 2 2 [] [(2,N_)] V fun _=>ak ⟨.inr V,_,V,none,0,([]:List Int),[],_,fR,(HS.cons (HS.forget E)),V,(OS.nil:OS _ _ _ []),(writes_no X)⟩
 refine ab (aS 3 0 11 13 [] [(13,iv.i.op)] (Hr_ 2 0 Hn_) E V V fun _=>zc (m1.gZ ex iv.i.op (HS.call E) M hT) ?_);rintro _ H7 ⟨x7,o7,F7,Z,U,rfl,av,aw,rfl,rfl⟩;replace U:=HS.back E V U;refine bK 3 4 15 16 [10] [(15,(aG [(tX (aI iv.i.op).name.b),(aI iv.i.op).f,(.bool (aI iv.i.op).ra),(.bool (aI iv.i.op).wa),(.bool (aI iv.i.op).rb),(.bool (aI iv.i.op).mt),(aI iv.i.op).w])),(16,(infO iv.i.op))] Hn_ K_ V fun _=>zn U V fun b9 a9 an=>sgo 2 8 1 0 [4] [] (Hr_ 8 1 Hn_) an V V fun a8 bb A=>ae 3 V (aU 1 17 30 [] [(30,(((aI iv.i.op).wa||(iv.i.op==6))||(iv.i.op==38)))] (Hr_ 1 1 (bp 5 (fun _=>(ql 3 0 (h_ A V) V V)) (bp 11 (fun _=>(ql 3 0 (h_ A V) V V)) Hn_))) A V V fun _=>zI 1 2 (fun aq=>?_) fun aq=>?_)
 ·refine ab (aS 3 0 31 33 [] [(33,iv.i.a)] (Hr_ 2 0 Hn_) A V V fun _=>zlo [iv.i.a] A V (RL.cs ⟨V,M⟩ RL.nl) V fun a_ aa ax bk ag ap=>za (sL a_ [iv.i.a].length aa) (ae 1 V (ak ⟨.inr V,_,V,a_,aa,[iv.i.a],ax,_,(Z),(HS.only ap (i:=2) V),V,ag,(mp X (or_assoc.1 X))⟩)))
 refine wT 1 [] 2 2 [] [(2,N_)] V fun _=>ak ⟨.inr V,_,V,none,0,([]:List Int),[],_,(Z),(HS.cons (HS.forget A)),V,(OS.nil:OS _ _ _ []),(writes_not n_)⟩
theorem iF{N T}(iv:VInT)(hs:Hb H F H [] R)(a5:in64 iv.i.op)(a7:in64 iv.i.a)(a8:in64 iv.i.b)(a9:in64 iv.i.c)(bb:in64 iv.i.n)(bk:Sr F N iv.args T)(hT:TB 37 tabC F):kKt ex 61 [(aG [iv.i.op,iv.i.a,iv.i.b,iv.i.c,iv.i.n,(S_ N iv.args T)])] H fun v H'=> ∃ar,∃(kr:Nat) (r:List Int),∃p F',F.le F'/\Hb H F' H' [p] R/\v=sL ar r.length kr/\OZ F' ar r kr p/\r=ah iv:=by
 refine aB Tryz.func61 V V (am 1 V (ab (aT (aN hs V V) V V ?_)));rintro _ H2 _ ⟨Z,rfl,U,_⟩;refine za N_ (ae 3 V (wk_rcut 3 19 [] [(19,(alV iv.i.op&&((aD iv.i.op).wa||(iv.i.op==6))))] (fun H'=> ∃F',F.le F'/\Hb H F' H' [(fP Z [iv.i.op,iv.i.a,iv.i.b,iv.i.c,iv.i.n,(S_ N iv.args T)])] R) ?_ ?_))
 ·refine ab (cd (v:=(pT Z 0)) (ap_fa V V) V V (cd (v:=(pT Z 0)) (ap_fa V V) V V (cd (v:=(iI iv.i.op)) (fp (i:=0) V V (h_ U V) V V) V V (zc (m1.ralw_c ex iv.i.op _) ?_))));rintro _ H2 ⟨r6,rfl,rfl,rfl⟩;refine zm (.bool (alV iv.i.op)) (wo_gsT (v:=(alV iv.i.op)) V V (fun A=>?_) (fun A=>?_))
  ·have an:=A;try simp only[BS]at an
   refine cd (v:=(pT Z 0)) (ap_fa V V) V V (eT V A (cd (v:=(pT Z 0)) (ap_fa V V) V V (eT V A (cd (v:=(iI iv.i.op)) (fp (i:=0) V V (h_ U V) V V) V V (eT V A ?_)))));refine zc (m3.nB ex iv.i.op (HS.call U) M hT) ?_;rintro _ H8 ⟨x8,F8,aw,a_,rfl,a2,a3,rfl⟩;replace a_:=HS.back U V a_;refine eT V A (cd (v:=(.bool (aD iv.i.op).wa)) (ap_fv V V) V V (eT V A (zm (.bool (aD iv.i.op).wa) (wo_gsF (v:=(aD iv.i.op).wa) V V (fun E=>?_) (fun E=>?_)))))
   ·have ap:=E;try simp only[BS]at ap
    refine cd (v:=(pT Z 0)) (ap_fa V V) V V (eT V E (cd (v:=(pT Z 0)) (ap_fa V V) V V (eT V E (cd (v:=(iI iv.i.op)) (fp (i:=0) V V (h_ a_ V) V V) V V (eT V E ?_)))));refine cd (v:=(.bool (iv.i.op==6))) (ap_cmp V V V V) V V (eT V A (cd (v:=(.bool (iv.i.op==6))) (kE V E V) V V (cd (v:=(.bool (iv.i.op==6))) (n9 V A V) V V (gL ?_))));exact aM ⟨V,⟨_,(fT fR aw),HS.sub a_ (List.Sublist.refl _)⟩,(by repeat' first|exact Lr|refine Lu V ?_),(agC (congrArg Value.bool (show(iv.i.op==6)=(alV iv.i.op&&((aD iv.i.op).wa||(iv.i.op==6))) by simp only[↓A,↓E,BT])) agN)⟩
   have ap:=E;try simp only[BS]at ap
   refine wo_gf0 V E V (wo_gf0 V E V (wo_gf0 V E V (eT V A (cd (v:=(.bool true)) (n9 V E V) V V (cd (v:=(.bool true)) (n9 V A V) V V ?_)))));refine gL ?_;exact aM ⟨V,⟨_,(fT fR aw),HS.sub a_ (List.Sublist.refl _)⟩,(by repeat' first|exact Lr|refine Lu V ?_),(agC (congrArg Value.bool (show true=(alV iv.i.op&&((aD iv.i.op).wa||(iv.i.op==6))) by simp only[↓A,↓E,BT])) agN)⟩
  have an:=A;try simp only[BS]at an
  refine mr V A V (mr V A V (mr V A V (mr V A V (mr V A V (wo_gn V V ?_)))));refine wo_gn V V (wo_gn V V (wo_gn V V (mr V A V (cd (v:=(.bool false)) (kE V A V) V V (gL ?_)))));exact aM ⟨V,⟨_,fR,HS.sub U (List.Sublist.refl _)⟩,(by repeat' first|exact Lr|refine Lu V ?_),(agC (congrArg Value.bool (show false=(alV iv.i.op&&((aD iv.i.op).wa||(iv.i.op==6))) by simp only[↓A,BT])) agN)⟩
 skip;rintro g5 H5 ⟨F5,av,ag⟩;refine am 1 V (zI 1 2 (fun aa=>?_) fun aa=>?_)
 ·have hq:=aa;refine ab (aS 3 0 20 22 [] [(22,iv.i.a)] (Hr_ 2 0 Hn_) ag V V fun _=>zlo [iv.i.a] ag V (RL.cs ⟨V,M⟩ RL.nl) V fun aq ax a4 bt ay a1=>za (sL aq [iv.i.a].length ax) (ae 1 V (ak ⟨.inr V,_,V,aq,ax,[iv.i.a],a4,_,(av),(HS.only a1 (i:=1) V),V,ay,(rwr_yes hq)⟩)))
 have hq:=aa;refine wT 1 [] 2 2 [] [(2,N_)] V fun _=>ak ⟨.inr V,_,V,none,0,([]:List Int),[],_,(av),(HS.cons (HS.forget ag)),V,(OS.nil:OS _ _ _ []),(rwr_no hq)⟩
theorem vsucc_c{N Z}(b:BlkT)(hs:Hb H F H [] R)(a5:Sr F N b.v Z)(a8:in64 b.f)(a9:in64 b.r)(bb:in64 b.t)(bk:in64 b.e)(hT:TB 37 tabC F):kKt ex 139 [(aG [(S_ N b.v Z),b.f,b.r,b.t,b.e])] H fun v H'=> ∃ar,∃(kr:Nat) (r:List Int),∃p F',F.le F'/\Hb H F' H' [p] R/\v=sL ar r.length kr/\OZ F' ar r kr p/\r=bu b:=by
 refine aB Tryz.func139 V V (am 1 V (ab (aT (aN hs V V) V V ?_)));rintro _ H2 _ ⟨b1,rfl,A,_⟩;refine za N_ (ae 3 V (aU 3 3 4 [] [(4,b.f)] (Hr_ 1 0 Hn_) A V V fun _=>wT 1 [] 5 6 [] [(5,(b.f==1))] V fun _=>zI 1 1 (fun c5=>?_) fun c5=>?_))
 ·refine ab (aS 2 0 7 8 [] [(8,b.t)] (Hr_ 1 0 Hn_) A V V fun _=>zlo [b.t] A V (RL.cs ⟨V,M⟩ RL.nl) V fun a7 k7 p7 H8 ay a1=>za (sL a7 [b.t].length k7) (ae 1 V (ak ⟨.inr V,_,V,a7,k7,[b.t],p7,_,fR,(HS.only a1 (i:=1) V),V,ay,(succ1 X)⟩)))
 refine wT 1 [] 10 11 [] [(10,(b.f==2))] V fun _=>zI 1 3 (fun ax=>?_) fun ax=>?_
 ·refine ab (aS 4 0 12 15 [] [(13,b.t),(15,b.e)] (Hr_ 1 0 (Hr_ 3 0 Hn_)) A V V fun _=>zlo [b.t,b.e] A V (RL.cs ⟨V,M⟩ (RL.cs ⟨V,M⟩ RL.nl)) V fun b5 b6 b7 b3 ap av=>?_);obtain⟨bz,U,a_,aq,bl⟩:=OS.frz ap av (i:=1) V;replace hT:=hT.mono U;refine zc (unique_c ex [b.t,b.e] (HS.call a_) aq hT o_) ?_;rintro _ b4 ⟨T,aa,b8,a3,b2,an,E,rfl,ag,rfl⟩;replace E:=HS.back a_ V E;refine za (sL T (cY [] [b.t,b.e]).length aa) (ae 1 V (ak ⟨.inr V,_,V,T,aa,cY [] [b.t,b.e],a3,_,(fT (U) an),(HS.only E (i:=2) V),V,ag,(succ2 X).symm⟩))
 refine wT 1 [] 2 2 [] [(2,N_)] V fun _=>ak ⟨.inr V,_,V,none,0,([]:List Int),[],_,fR,(HS.cons (HS.forget A)),V,(OS.nil:OS _ _ _ []),(succ0 M)⟩
theorem rsucc_c{N aa}(b:BlkT)(hs:Hb H F H [] R)(a9:Sr F N b.v aa)(bb:in64 b.f)(bk:in64 b.r)(bl:in64 b.t)(bt:in64 b.e)(hT:TB 37 tabC F):kKt ex 96 [(aG [(S_ N b.v aa),b.f,b.r,b.t,b.e])] H fun v H'=> ∃ar,∃(kr:Nat) (r:List Int),∃F',F.le F'/\Hb H F' H' [] R/\v=sL ar r.length kr/\Sr F' ar r kr/\r=bu b:=by
 refine aB Tryz.func96 V V (am 1 V (ab (aT (aN hs V V) V V ?_)));rintro _ H2 _ ⟨b1,rfl,A,_⟩;refine za N_ (ae 3 V (aU 3 3 4 [] [(4,b.f)] (Hr_ 1 0 Hn_) A V V fun _=>wT 1 [] 5 6 [] [(5,(b.f==1))] V fun _=>zI 1 1 (fun c5=>?_) fun c5=>?_))
 ·refine ab (aS 2 0 7 8 [] [(8,b.t)] (Hr_ 1 0 Hn_) A V V fun _=>zlo [b.t] A V (RL.cs ⟨V,M⟩ RL.nl) V fun a7 k7 p7 H8 a1 a3=>za (sL a7 [b.t].length k7) (ae 1 V ?_));obtain⟨F9,ay,a4,a2,b7⟩:=OS.frz a1 a3 (i:=1) V;refine ak ⟨.inr V,_,V,a7,k7,[b.t],_,(ay),(HS.forget a4),V,a2,(succ1 X)⟩
 refine wT 1 [] 10 11 [] [(10,(b.f==2))] V fun _=>zI 1 3 (fun ax=>?_) fun ax=>?_
 ·refine ab (aS 2 0 12 13 [] [(13,b.t)] (Hr_ 1 0 Hn_) A V V fun _=>zlo [b.t] A V (RL.cs ⟨V,M⟩ RL.nl) V fun b6 b8 b9 b4 aq a_=>aS 2 3 15 16 [] [(16,b.e)] (Hr_ 4 0 Hn_) a_ V V fun _=>?_);obtain⟨b2,U,Z,av,bz⟩:=OS.frz aq a_ (i:=1) V;replace hT:=hT.mono U;refine zc (m6.dH ex [b.t] b.e (HS.call Z) av M hT o_) ?_;rintro _ b5 ⟨T,ag,cc,b3,ap,E,rfl,an,rfl⟩;replace E:=HS.back Z V E;refine za (sL T (dI [b.t] b.e).length ag) (ae 1 V (ak ⟨.inr V,_,V,T,ag,dI [b.t] b.e,_,(fT (U) ap),(HS.forget E),V,an,(succ2 X).symm⟩))
 refine wT 1 [] 2 2 [] [(2,N_)] V fun _=>ak ⟨.inr V,_,V,none,0,([]:List Int),_,fR,(HS.forget A),V,(SR.nil:SR F N_ ([]:List Int)),(succ0 M)⟩
theorem rend_c{E N}(b:BlkT)(hs:Hb H F H [] R)(Z:Sr F E b.v N)(aa:in64 b.f)(ag:in64 b.r)(an:in64 b.t)(ap:in64 b.e)(hT:TB 37 tabC F):kKt ex 104 [(aG [(S_ E b.v N),b.f,b.r,b.t,b.e])] H fun v H'=> ∃ar,∃(kr:Nat) (r:List Int),∃p F',F.le F'/\Hb H F' H' [p] R/\v=sL ar r.length kr/\OZ F' ar r kr p/\r=d7 b:=by
 refine aB Tryz.func104 V V (am 1 V (ab (aT (aN hs V V) V V ?_)));rintro _ H2 _ ⟨b1,rfl,A,_⟩;refine za N_ (ae 3 V (aU 1 3 10 [] [(10,((b.f==2)||(b.f==3)))] (Hr_ 1 0 (bp 5 (fun _=>(ql 3 1 (h_ A V) V V)) Hn_)) A V V fun _=>zI 1 2 (fun c4=>?_) fun c4=>?_))
 ·refine ab (aS 2 0 11 12 [] [(12,b.r)] (Hr_ 1 0 Hn_) A V V fun _=>zlo [b.r] A V (RL.cs ⟨V,M⟩ RL.nl) V fun a6 a_ p6 H7 T U=>za (sL a6 [b.r].length a_) (ae 1 V (ak ⟨.inr V,_,V,a6,a_,[b.r],p6,_,fR,(HS.only U (i:=1) V),V,T,(if_pos M).symm⟩)))
 refine wT 1 [] 2 2 [] [(2,N_)] V fun _=>ak ⟨.inr V,_,V,none,0,([]:List Int),[],_,fR,(HS.cons (HS.forget A)),V,(OS.nil:OS _ _ _ []),(if_neg M).symm⟩
theorem ft{ad al}(a:List Int){ai ao}(b:List Int)(hs:Hb H F H [] R)(ha:Sr F ad a al)(hb:Sr F ai b ao)(hT:TB 37 tabC F)(ci:a.length+b.length<=1073741824):kKt ex 64 [(sL ad a.length al),(sL ai b.length ao)] H fun v H'=> ∃ar,∃(kr:Nat) (r:List Int),∃F',F.le F'/\Hb H F' H' [] R/\v=sL ar r.length kr/\Sr F' ar r kr/\r=cY a b:=by
 refine aB Tryz.func64 V V (am 1 V (wT 2 [] 4 4 [] [(4,N_)] V fun _=>ab (zm (sL ad a.length al) ?_)));have aw:=HS.snoc hs;refine zao 0 (OS.nil:OS F N_ ([]:List Int) []) aw (SR.sv ha aw) V V V M fun a3 k3 p3 H4 ag a5=>?_
 have ag:OZ F a3 a k3 p3:=ag;refine za (sL a3 a.length k3) (ae 3 V ?_);obtain⟨F5,aa,a7,a4,b2⟩:=OS.frz ag a5 (i:=0) V;refine wT 2 [] 1 0 [6] [(6,(iI 0))] V fun _=>aj (fun(mm:Nat) f H'=> ∃(o:List Int) (i:Nat),∃A,∃(E:Nat),∃F',F5.le F'/\Hb H F' H' [[]] R/\Sr F' A o E/\aA f [(1,(sL ai b.length ao)),(5,(sL A o.length E)),(6,(i:Int))]/\mm=b.length-i/\(i<=b.length)/\(o=cY a (b.take i))) _ ⟨a,0,a3,k3,_,fR,a7,a4,f_,V,M,m_⟩ ?_
 rintro b3 f7 H7 ⟨o,i,A,E,F7,U,N,a_,av,rfl,h1,h2⟩ a8;refine au _ av (fun _=>?_);clear av;replace hT:=(hT.mono aa).mono U;replace hb:=(hb.mono aa).mono U;have n4:o.length<=a.length+b.length:=by rw[h2];exact a0e eC l_
 refine am 2 V (wT 1 [] 9 12 [] [(12,(decide ((i:Int)<(b.length:Int))))] V fun _=>zd 3 5 (fun c9=>?_) fun c9=>?_)
 ·refine ab ?_;obtain⟨bk,an⟩:=Sv.view (SR.sv hb N);have b1:=fI (an i);refine bK 5 0 15 19 [] [(15,(sL A o.length E)),(19,(b.getD i 0))] (Ha_ (Sv.ix (j:=(i:Int)) (SR.sv hb N)) (Hl_ 4 (ql 3 0 (vI (an i)) V V) Hn_)) K_ V fun _=>zc (m6.dH ex o (b.getD i 0) (HS.call N) a_ M hT M) ?_
  rintro _ bz ⟨Z,ap,b4,bt,a1,T,rfl,aq,rfl⟩;replace T:=HS.back N V T;refine za (sL Z (dI o (b.getD i 0)).length ap) (ae 2 V (wU 1 [] 13 14 [6] [(6,(iI ((i:Int)+1)))] (vi (n:=(i:Int)+1)) V fun _=>?_));refine a8 _ _ _ ?_ ⟨dI o (b.getD i 0),i+1,Z,ap,_,(fT (U) a1),T,aq,f_,V,M,(j8 M h2)⟩;omega
 refine wT 1 [] 4 4 [21] [(4,(sL A o.length E))] V fun _=>ak ⟨.inr V,_,V,A,E,o,_,(fT (aa) U),(HS.forget N),V,a_,(uni_all M h2)⟩
theorem minus_c{ag al}(a:List Int){ai ao}(b:List Int)(hs:Hb H F H [] R)(ha:Sr F ag a al)(hb:Sr F ai b ao)(hT:TB 37 tabC F)(ck:a.length<=1073741824/\b.length<=1073741824):kKt ex 107 [(sL ag a.length al),(sL ai b.length ao)] H fun v H'=> ∃ar,∃(kr:Nat) (r:List Int),∃p F',F.le F'/\Hb H F' H' [p] R/\v=sL ar r.length kr/\OZ F' ar r kr p/\r=gN a b:=by
 refine aB Tryz.func107 V V (am 1 V (wT 2 [] 4 4 [] [(4,N_)] V fun _=>wT 3 [] 1 0 [5] [(5,N_)] V fun _=>wT 2 [] 1 0 [6] [(6,(iI 0))] V fun _=>?_));have a3:=HS.snoc hs;refine aj (fun(mm:Nat) f H'=> ∃(o:List Int) (i:Nat),∃A,∃(E:Nat),∃N F',F.le F'/\Hb H F' H' [N] R/\OZ F' A o E N/\aA f [(0,(sL ag a.length al)),(1,(sL ai b.length ao)),(5,(sL A o.length E)),(6,(i:Int))]/\mm=a.length-i/\(i<=a.length)/\(o=gN (a.take i) b)) _ ⟨([]:List Int),0,none,0,[],_,fR,a3,(OS.nil:OS _ N_ ([]:List Int) []),f_,V,M,m_⟩ ?_;rintro bz f4 H4 ⟨o,i,A,E,N,F4,U,T,a_,ap,rfl,h1,h2⟩ av;refine au _ ap (fun _=>?_);clear ap;replace hT:=hT.mono U;replace ha:=ha.mono U;replace hb:=hb.mono U;have n4:o.length<=a.length:=by rw[h2];exact a0e min_len l_
 refine am 2 V (wT 1 [] 7 10 [] [(10,(decide ((i:Int)<(a.length:Int))))] V fun _=>zd 4 5 (fun c7=>?_) fun c7=>?_)
 ·obtain⟨bk,aq⟩:=Sv.view (SR.sv ha T);have g9:=fI (aq i);refine wrp 1 13 19 [] [(19,(!(im b (a.getD i 0))))] (Ha_ (Sv.ix (j:=(i:Int)) (SR.sv ha T)) (Hl_ 4 (ql 3 0 (vI (aq i)) V V) (Hc_ 5 (m6.cG ex b (a.getD i 0) (HS.call T) hb M hT M) Hn_))) K_ V fun _=>zI 0 2 (fun a2=>?_) fun a2=>?_
  ·refine ab ?_;obtain⟨a7,aa⟩:=Sv.view (SR.sv ha T);have bl:=fI (aa i);refine bK 5 0 20 24 [] [(20,(sL A o.length E)),(24,(a.getD i 0))] (Ha_ (Sv.ix (j:=(i:Int)) (SR.sv ha T)) (Hl_ 4 (ql 3 0 (vI (aa i)) V V) Hn_)) K_ V fun _=>zlo [(a.getD i 0)] T V (RL.cs ⟨V,M⟩ RL.nl) V fun bb bt b1 a8 ax Z=>zao 0 a_ Z (OS.sv ax Z (i:=1) V) V V V M fun an aw a4 a9 ay a1=>za (sL an (o++[(a.getD i 0)]).length aw) (ae 2 V (wU 1 [] 11 12 [6] [(6,(iI ((i:Int)+1)))] (vi (n:=(i:Int)+1)) V fun _=>?_))
   refine av _ _ _ ?_ ⟨o++[(a.getD i 0)],i+1,an,aw,a4,_,(U),(HS.sub a1 (a01 _ _)),ay,f_,V,M,((kj M h2).1 X)⟩;omega
  refine wU 1 [] 11 12 [6] [(6,(iI ((i:Int)+1)))] (vi (n:=(i:Int)+1)) V fun _=>?_
  refine av _ _ _ ?_ ⟨o,i+1,A,E,N,_,(U),T,a_,f_,V,M,((kj M h2).2 X)⟩;omega
 refine wT 1 [] 4 4 [27] [(4,(sL A o.length E))] V fun _=>ak ⟨.inr V,_,V,A,E,o,N,_,(U),(HS.only T (i:=0) V),V,a_,(by rw[h2,a0h M])⟩
end ma
open ma
namespace ml
open Go.R m1 m2 m3 m4 m5 m6 ma
abbrev bH(c:VFnT)(b:Nat):BlkT:=c.u.getD b v_
def tr:List VInT->(Nat->Prop)->Nat->Prop
 | [],S,r=>S r
 |v::l,S,r=>(r:Int)∈aE v\/(tr l S r/\(r:Int)∉ah v)
theorem nu{S S'}(h: ∀r,S r->S' r): ∀(l:List VInT) (r:Nat),tr l S r->tr l S' r
 | [],r,hr=>h r hr
 |_::l,r,.inl hr=> .inl hr
 |_::l,r,.inr hr=> .inr ⟨nu h l r hr.1,hr.2⟩
def endS(b:BlkT)(S:Nat->Prop)(r:Nat):Prop:=S r\/(r:Int)∈d7 b
theorem endS_mono{b S S'}(h: ∀r,S r->S' r)(r:Nat)(A:endS b S r):endS b S' r:=A.imp (h r) id
def inS(b:BlkT)(S:Nat->Prop)(r:Nat):Prop:=tr b.v (endS b S) r
theorem fF{b S S'}(h: ∀r,S r->S' r)(r:Nat)(A:inS b S r):inS b S' r:=nu (endS_mono h) _ r A
def outS(c:VFnT)(I:Nat->Nat->Prop)(b:Nat)(r:Nat):Prop:= ∃t∈bu (bH c b),I t.toNat r
theorem iJ{c I N}(h: ∀b r,I b r->N b r)(b r:Nat):outS c I b r->outS c N b r:=fun⟨t,A,E⟩=>⟨t,A,h _ _ E⟩
def Clo(c:VFnT)(I:Nat->Nat->Prop):Prop:= ∀b,b<c.u.length->∀r,inS (bH c b) (outS c I b) r->I b r
def LIn(c:VFnT)(b r:Nat):Prop:= ∀I,Clo c I->I b r
def nh(c:VFnT)(b r:Nat):Prop:=outS c (LIn c) b r
theorem ov(c:VFnT):Clo c (LIn c):=fun b E r T I A=>A b E r (fF (fun q N=>iJ (fun b r h=>h I A) b q N) r T)
theorem LIn_lt{c b r}(h:LIn c b r):b<c.u.length:=h (fun b _=>b<c.u.length) fun _ A _ _=>A
theorem LIn_step{c b r}(h:LIn c b r):inS (bH c b) (nh c b) r:=by
 have hb:=LIn_lt h;refine h (fun b r=>inS (bH c b) (nh c b) r) fun b' al r' T=>?_
 refine fF (fun q hq=>?_) r' T;exact iJ (fun N Z E=>by
  intro I hI;rcases a0k N c.u.length with A|A
  ·exact ov c N A Z E I hI
  exfalso;have e:bH c N=v_:=bZ A;rw[e]at E;rcases E with E|E
  ·obtain⟨t,U,_⟩:=E;rw[e]at U;cases U
  cases E) b' q hq
theorem LIn_iff{c b r}(A:b<c.u.length):LIn c b r↔inS (bH c b) (nh c b) r:=⟨LIn_step,ov c b A r⟩
abbrev wds(c:VFnT):Nat:=(Int.tdiv (c.r+63) 64).toNat
def bI(I:List (List U64))(b r:Nat):Prop:=aH (I.getD b v_) r=true
structure Snd(c:VFnT)(I O:List (List U64)):Prop where
 li:I.length=c.u.length
 lo:O.length=c.u.length
 wi: ∀b,b<c.u.length->(I.getD b v_).length=wds c
 wo: ∀b,b<c.u.length->(O.getD b v_).length=wds c
 si: ∀b r,bI I b r->LIn c b r
 so: ∀b r,bI O b r->nh c b r
def Cl1(c:VFnT)(I O:List (List U64))(b:Nat):Prop:=(∀t∈bu (bH c b),∀r,bI I t.toNat r->bI O b r)/\(∀r,inS (bH c b) (bI O b) r->bI I b r)
structure AnF(c:VFnT)(I O:List (List U64)):Prop where
 li:I.length=c.u.length
 lo:O.length=c.u.length
 wi: ∀b,b<c.u.length->(I.getD b v_).length=wds c
 wo: ∀b,b<c.u.length->(O.getD b v_).length=wds c
 hi: ∀b r,bI I b r↔LIn c b r
 ho: ∀b,b<c.u.length->∀r,bI O b r↔nh c b r
theorem anF_of{c I O}(h:Snd c I O)(hc: ∀b,b<c.u.length->Cl1 c I O b):AnF c I O:=by
 have N:Clo c (bI I):=fun b T r Z=>(hc b T).2 r (fF (fun q ⟨t,A,E⟩=>(hc b T).1 t A q E) r Z)
 refine⟨h.li,h.lo,h.wi,h.wo,fun b r=>⟨h.si b r,fun U=>U _ N⟩,fun b T r=>⟨h.so b r,fun⟨t,A,E⟩=>(hc b T).1 t A r (E _ N)⟩⟩
def nS(I:List (List U64)):Nat:=(I.map fun s=>(jV s).length).sum
theorem cnt_le{c I}(U:I.length=c.u.length)(Z: ∀b,b<c.u.length->(I.getD b v_).length=wds c):nS I<=c.u.length *(64 *wds c):=by
 have N: ∀(l:List (List U64)) (B:Nat),(∀s∈l,(jV s).length<=B)->(l.map fun s=>(jV s).length).sum<=l.length *B:=by
  intro l B;induction l with
  |nil=>intro _;simp
  |cons s l ih=>
   intro h
   have E:=ih fun x hx=>h x (a0i _ hx)
   have A:=h s (a0q ..)
   rw[a1L,a27,a04,a1r];omega
 rw[←U];refine N I _ fun s hs=>?_
 obtain⟨b,T,rfl⟩:=a0x.1 hs;have:=Z b M;rw[a03,a06 T]at this;have A:(jV I[b]).length<=64 *I[b].length:=lstK_len;simp only[a0O]at this;rw[this]at A;exact A
theorem lst_more{s U}(hl:U.length=s.length)(h: ∀i,aH s i=true->aH U i=true){i}(A:aH U i=true)(N:aH s i=false):(jV s).length<(jV U).length:=by
 have hi:i<64 *s.length:=by
  rcases a0k i (64 *s.length) with E|E
  ·exact E
  rw[nW (by rw[hl];exact E)]at A;cases A
 unfold jV mC;rw[a1A,a1A,hl];have ag: ∀l:List Nat,(l.filter (aH s)).length<=(l.filter (aH U)).length/\(i∈l->(l.filter (aH s)).length<(l.filter (aH U)).length):=by
  intro l;induction l with
  |nil=>exact⟨a0d _,fun h=>by cases h⟩
  |cons x l ih=>
   rw[a1D,a1D]
   by_cases Z:aH s x=true
   ·rw[if_pos Z,if_pos (h x Z)];refine⟨by simpa using ih.1,fun T=>?_⟩;rcases a0w.1 T with rfl|T
    ·rw[N]at Z;cases Z
    simpa using ih.2 T
   rw[if_neg Z]
   by_cases aa:aH U x=true
   ·rw[if_pos aa];exact⟨by simp;omega,fun _=>by simp;omega⟩
   rw[if_neg aa]
   refine⟨ih.1,fun T=>?_⟩
   rcases a0w.1 T with rfl|T
   ·exact absurd A aa
   exact ih.2 T
 exact(ag _).2 (a2b.2 hi)
theorem sum_set: ∀(l:List Nat) (i x:Nat),i<l.length->(l.set i x).sum+l.getD i 0=l.sum+x
 | [],i,x,h=>by simp at h
 |y::l,0,x,_=>by simp;omega
 |y::l,i+1,x,h=>by have:=sum_set l i x (by simpa using h);simp only[a24,a27,a2q];omega
theorem cnt_set{I b}(A:b<I.length)(s:List U64):nS (I.set b s)+(jV (I.getD b v_)).length=nS I+(jV s).length:=by unfold nS;rw[List.map_set];have:=sum_set (I.map fun s=>(jV s).length) b (jV s).length (by rw[a1A];exact A);rw[a03,a18,a06 A]at this;rw[a03,a06 A];exact this
def mea(A:Bool)(B n:Nat):Nat:=bif A then 2 *(B-n)+1 else 0
theorem mea_lt{m2 B n A}(h:m2=true->n<A)(E:A<=B):mea m2 B A<mea true B n:=by
 unfold mea;cases m2 with
 |false=>simp
 |true=>have:=h V;simp;omega
theorem ee{α:Type}{d:α}{l:List α}{i j:Nat}{x:α}:(l.set i x).getD j d=if i=j/\j<l.length then x else l.getD j d:=by
 simp only[a03,a1T];by_cases h:i=j
 ·subst h;by_cases A:i<l.length
  ·rw[if_pos V,if_pos A,if_pos ⟨V,A⟩];rfl
  rw[if_pos V,if_neg A,if_neg (fun e=>A e.2),a0J M]
 rw[if_neg h,if_neg (fun e=>h e.1)]
theorem snd_start{c I O}(A:I.length=c.u.length)(E:O.length=c.u.length)(N: ∀j,j<c.u.length->I.getD j v_=List.replicate (wds c) ⟨0⟩)(T: ∀j,j<c.u.length->O.getD j v_=List.replicate (wds c) ⟨0⟩):Snd c I O:=by
 have Z: ∀(c_:List (List U64)),c_.length=c.u.length->(∀j,j<c.u.length->c_.getD j v_=List.replicate (wds c) ⟨0⟩)->∀b r,¬bI c_ b r:=by
  intro c_ hX hx b r U;unfold bI at U;rcases a0k b c.u.length with h|h
  ·rw[hx b h,bit_rep]at U;cases U
  rw[bZ M]at U;rw[nW (a0r _)]at U;cases U
 exact⟨A,E,fun b U=>by rw[N b U,a0K],fun b U=>by rw[T b U,a0K],fun b r h=>absurd h (Z I A N b r),fun b r h=>absurd h (Z O E T b r)⟩
theorem snd_out{c:VFnT}{I O:List (List U64)}{k:Nat}{t:Int}{s:List U64}(h:Snd c I O)(T:k<c.u.length)(U:t∈bu (bH c k))(hs:s.length=(O.getD k v_).length)(N: ∀i,aH s i=(aH (O.getD k v_) i||aH (I.getD t.toNat v_) i)):Snd c I (O.set k s):=by
 refine⟨h.li,by rw[a0f];exact h.lo,h.wi,fun b E=>?_,h.si,fun b r A=>?_⟩
 ·rw[ee];split
  ·rename_i e;rw[hs];exact h.wo k T
  exact h.wo b E
 unfold bI at A;rw[ee]at A;split at A
 ·rename_i e;obtain⟨rfl,_⟩:=e;rw[N,a0C]at A;rcases A with A|A
  ·exact h.so _ r A
  exact⟨t,U,h.si _ r A⟩
 exact h.so b r A
theorem snd_in{c:VFnT}{I O:List (List U64)}{k:Nat}{s E:List U64}(h:Snd c I O)(T:k<c.u.length)(hs:E.length=(I.getD k v_).length)(U: ∀i,aH E i=(aH (I.getD k v_) i||aH s i))(Z: ∀r,aH s r=true↔inS (bH c k) (bI O k) r):Snd c (I.set k E) O:=by
 refine⟨by rw[a0f];exact h.li,h.lo,fun b N=>?_,h.wo,fun b r A=>?_,h.so⟩
 ·rw[ee];split
  ·rw[hs];exact h.wi k T
  exact h.wi b N
 unfold bI at A;rw[ee]at A;split at A
 ·rename_i e;obtain⟨rfl,_⟩:=e;rw[U,a0C]at A;rcases A with A|A
  ·exact h.si _ r A
  exact ov c _ T r (fF (h.so _) r ((Z r).1 A))
 exact h.si b r A
theorem cnt_more{I k s U}(hk:k<I.length)(hs:U.length=(I.getD k v_).length)(Z: ∀i,aH U i=(aH (I.getD k v_) i||aH s i))(hx: ∃i,aH s i=true/\aH (I.getD k v_) i=false):nS I<nS (I.set k U):=by obtain⟨i,A,E⟩:=hx;have N:=cnt_set hk U;have T:=lst_more hs (fun i hi=>by rw[Z,hi];rfl) (i:=i) (by rw[Z,A,Bool.or_true]) E;omega
theorem tr_drop{l:List VInT}{i:Nat}(h:i<l.length)(S:Nat->Prop)(r:Nat):tr (l.drop i) S r↔(r:Int)∈aE (l.getD i v_)\/(tr (l.drop (i+1)) S r/\(r:Int)∉ah (l.getD i v_)):=by rw[a1d h,a03,a06 h];exact Iff.rfl
theorem tr_next{l:List VInT}{i:Nat}{S:Nat->Prop}{s E:List U64}(h:i<l.length)(hs: ∀r,aH s r=true↔tr (l.drop (i+1)) S r)(N: ∀r,aH E r=((aH s r&& !decide ((r:Int)∈ah (l.getD i v_)))||decide ((r:Int)∈aE (l.getD i v_))))(r:Nat):aH E r=true↔tr (l.drop i) S r:=by
 rw[tr_drop h,N,←hs r];simp only[a0C,a0a,a0F,decide_eq_true_eq,decide_eq_false_iff_not];constructor
 ·rintro(A|A)
  ·exact .inr A
  exact .inl A
 rintro(A|A)
 ·exact .inr A
 exact .inl A
theorem bD{params regs:Int}{v}(h:eV params regs v=true):(∀x∈aE v,0<=x/\x<regs)/\(∀x∈ah v,0<=x/\x<regs)/\v.args.length<=6:=by
 unfold eV at h;simp only[a0a,decide_eq_true_eq]at h;obtain⟨⟨⟨⟨⟨⟨⟨Z,N⟩,hl⟩,ad⟩,ha⟩,hb⟩,hc⟩,_⟩:=h;have E:v.i.op=38\/(1<=v.i.op/\v.i.op<=37/\v.i.op≠38):=by unfold alV at Z;have:=of_decide_eq_true Z;omega
 have hT: ∀{p:Bool} {n:Int},fD p n regs=true->p=true->0<=n/\n<regs:=by intro p n hp U;subst U;unfold fD at hp;exact bd.1 (by simpa using hp)
 have aa: ∀k:Fin 37,((aI ((k.val:Int)+1)).ra=true\/(aI ((k.val:Int)+1)).wa=true\/((k.val:Int)+1)=6->aK ((k.val:Int)+1)≠1)/\((aI ((k.val:Int)+1)).rb=true->aK ((k.val:Int)+1)=3\/aK ((k.val:Int)+1)=4\/aK ((k.val:Int)+1)=7)/\((((k.val:Int)+1)=11\/((k.val:Int)+1)=12)->aK ((k.val:Int)+1)=4):=by decide+kernel
 have hA:(aI v.i.op).ra=true\/(aI v.i.op).wa=true\/v.i.op=6\/v.i.op=38->0<=v.i.a/\v.i.a<regs:=by
  intro U;refine hT ha (decide_eq_true ?_);rcases E with e|e
  ·rw[e];decide
  obtain⟨k,hk⟩:=ex37 (op:=v.i.op) ⟨e.1,e.2.1⟩;rw[hk]at U⊢;refine(aa k).1 ?_;rcases U with A|A|A|A
  ·exact .inl A
  ·exact .inr (.inl A)
  ·exact .inr (.inr A)
  omega
 have hB:(aI v.i.op).rb=true->0<=v.i.b/\v.i.b<regs:=by
  intro U;refine hT hb (decide_eq_true ?_);rcases E with e|e
  ·rw[e]at U;exact absurd U e_
  obtain⟨k,hk⟩:=ex37 (op:=v.i.op) ⟨e.1,e.2.1⟩;rw[hk]at U⊢;exact(aa k).2.1 U
 have hC:v.i.op=11\/v.i.op=12->0<=v.i.c/\v.i.c<regs:=by intro U;refine hT hc (decide_eq_true ?_);rcases U with e|e<;>rw[e]<;>decide
 refine⟨fun x T=>?_,fun x T=>?_,hl⟩
 ·unfold aE at T;rw[if_pos Z,nt]at T;rcases T with T|T
  ·cases T
  unfold eE at T;simp only[a09]at T;rcases T with T|T|T|T
  ·split at T
   ·rename_i U;rw[a0b]at T;rw[T];exact hA (.inl U)
   cases T
  ·split at T
   ·rename_i U;rw[a0b]at T;rw[T];exact hB U
   cases T
  ·split at T
   ·rename_i U;rw[a0b]at T;rw[T];exact hC U
   cases T
  split at T
  ·exact bd.1 (a0t.1 ad x T)
  cases T
 unfold ah at T;split at T
 ·rename_i U;rw[a0b]at T;rw[T];refine hA ?_;rcases U.2 with A|A|A
  ·exact .inr (.inl A)
  ·exact .inr (.inr (.inl A))
  exact .inr (.inr (.inr A))
 cases T
structure VF(c:VFnT):Prop where
 r:0<=c.r/\c.r<=3000
 m:0<=c.m/\c.m<=6
 nb:1<=c.u.length/\c.u.length<=1000
 succ: ∀b,b<c.u.length->∀t∈bu (bH c b),0<=t/\t<(c.u.length:Int)
 f: ∀b,b<c.u.length->((bH c b).f=2\/(bH c b).f=3)->0<=(bH c b).r/\(bH c b).r<c.r
 v: ∀b,b<c.u.length->∀i,i<(bH c b).v.length->eV c.m c.r ((bH c b).v.getD i v_)=true
theorem e9{c}(h:cb c=true):VF c:=by
 unfold cb at h;rw[a0a]at h;obtain⟨A,E⟩:=h;have A:=of_decide_eq_true A;have U: ∀b,b<c.u.length->jZ c.m c.r (c.u.length:Int) (bH c b)=true:=fun b T=>lS E T
 refine⟨M,M,M,fun b T t N=>?_,fun b T hf=>?_,fun b T i hi=>?_⟩
 ·have:=U b T;unfold jZ at this;rw[a0a]at this;have Z:=bY.1 this.2;unfold bu at N;split at N
  ·rw[a0b]at N;subst N;omega
  split at N
  ·rw[ic,a0b]at N;rcases N with rfl|rfl<;>omega
  cases N
 ·have:=U b T;unfold jZ at this;rw[a0a]at this;have Z:=bY.1 this.2;omega
 have:=U b T;unfold jZ at this;rw[a0a]at this;exact lS this.1 hi
end ml
open ml
namespace mb
variable (ex:FuncId) {F:Fz} {H:Heap} {R:List Fp}
theorem lst_step1{s o k b}(A:o=mC s (64 *k+b))(h:aH s (64 *k+b)=true):o++([64 *(k:Int)+(b:Int)]:List Int)=mC s (64 *k+(b+1)):=by rw[show 64 *k+(b+1)=(64 *k+b)+1 by omega,lA,if_pos h,←A];simp
theorem lst_step0{s o k b}(A:o=mC s (64 *k+b))(h: ¬aH s (64 *k+b)=true):o=mC s (64 *k+(b+1)):=by rw[show 64 *k+(b+1)=(64 *k+b)+1 by omega,lA,if_neg h,←A];simp
theorem end_ok{s T b}(h:((b.f=2\/b.f=3)/\0<=b.r/\∀i,aH T i=(aH s i||decide (i=b.r.toNat)))\/(¬(b.f=2\/b.f=3)/\T=s))(i:Nat):aH T i=(aH s i||decide ((i:Int)∈d7 b)):=by
 unfold d7;rcases h with⟨A,N,E⟩|⟨A,rfl⟩
 ·rw[if_pos A,E];congr 1;rw[decide_eq_decide,a0b];omega
 rw[if_neg A];simp
theorem rem_step{s w w':List U64}{l:List Int}{k:Nat}(U:k<l.length)(h: ∀i,aH w i=(aH s i&& !decide ((i:Int)∈l.take k)))(h0:0<=l.getD k 0)(N: ∀i,aH w' i=(aH w i&& !decide (i=(l.getD k 0).toNat)))(i:Nat):aH w' i=(aH s i&& !decide ((i:Int)∈l.take (k+1))):=by
 rw[N,h,bx U (d:=0),Bool.and_assoc];congr 1;rw[a0s];simp only[a0a,a0F,decide_eq_false_iff_not,a09,a0b];constructor
 ·rintro⟨E,T⟩ (A|A)
  ·exact E A
  omega
 intro E;exact⟨fun A=>E (.inl A),fun A=>E (.inr M)⟩
theorem add_step{s w w':List U64}{l:List Int}{k:Nat}(N:k<l.length)(h: ∀i,aH w i=(aH s i||decide ((i:Int)∈l.take k)))(h0:0<=l.getD k 0)(E: ∀i,aH w' i=(aH w i||decide (i=(l.getD k 0).toNat)))(i:Nat):aH w' i=(aH s i||decide ((i:Int)∈l.take (k+1))):=by
 rw[E,h,bx N (d:=0),Bool.or_assoc];congr 1;rw[a0s];simp only[a0C,decide_eq_true_eq,a09,a0b];constructor
 ·rintro(A|A)
  ·exact .inl A
  exact .inr M
 rintro(A|A)
 ·exact .inl A
 exact .inr M
theorem dm{l:List Int}{m:Int}(h: ∀x∈l,0<=x/\x<m){k:Nat}(A:k<l.length):0<=l.getD k 0/\l.getD k 0<m:=by rw[a03,a06 A];exact h _ (a0T A)
theorem dM{v}:(ah v).length<=1:=by unfold ah;split<;>simp
theorem eD{v}:(aE v).length<=3+v.args.length:=by
 unfold aE;split
 ·refine a0e eC ?_;unfold eE;simp only[a02,a07];have A:=de (a:=v.i.a) (p:=(aI v.i.op).ra=true);have E:=de (a:=v.i.b) (p:=(aI v.i.op).rb=true);have N:=de (a:=v.i.c) (p:=v.i.op=11\/v.i.op=12);have T:(if v.i.op=6 then v.args else []).length<=v.args.length:=by split<;>first|exact a0d _|exact a0r _
  omega
 exact a0r _
theorem tr_done{s w v' N}(A: ∀i,aH w i=(aH s i&& !decide ((i:Int)∈ah N)))(E: ∀i,aH v' i=(aH w i||decide ((i:Int)∈aE N)))(i:Nat):aH v' i=((aH s i&& !decide ((i:Int)∈ah N))||decide ((i:Int)∈aE N)):=by rw[E,A]
theorem empty_c(n:Int)(hs:Hb H F H [] R)(hn:in64 n)(hT:TB 37 tabC F)(hn:0<=n/\n<=1000000):kKt ex 116 [n] H fun v H'=> ∃ar,∃(kr:Nat) (r:List U64),∃p F',F.le F'/\Hb H F' H' [p] R/\v=sL ar r.length kr/\OZ F' ar r kr p/\r=List.replicate (Int.tdiv (n+63) 64).toNat (⟨0⟩:U64):=by
 have hq:Int.tdiv (n+63) 64=(n+63)/64:=a1a M;refine aB Tryz.func116 V V (am 1 V (wT 2 [] 2 2 [] [(2,N_)] V fun _=>ab ?_));have a_:in64 (n+63)->in64 (Int.tdiv (n+63) 64):=fun h=>vq h e_
 refine wRo 3 0 [] 3 5 [] [(5,(Int.tdiv (n+63) 64))] (vA (vi (n:=n+63)) (vA (vA (show(64:Int)≠0 from by decide) (vq (a:=n+63) (b:=64) M e_)) trivial)) V fun _=>aT (cS (⟨0⟩:U64) hs V V V V V V V V V ⟨V,by decide⟩ M M) V V ?_
 rintro _ Z U ⟨A,T,rfl,E,N,_⟩;refine za (sL A (List.replicate (Int.tdiv (n+63) 64).toNat (⟨0⟩:U64)).length T) (ae 1 V (ak ⟨.inr V,_,V,A,T,List.replicate (Int.tdiv (n+63) 64).toNat (⟨0⟩:U64),U,_,fR,(HS.only N (i:=0) V),V,E,m_⟩))
theorem add_c{aa ag ad ai}(z:List U64)(n:Int)(hs:HS (.of H (ai.map Prod.fst)) F H [ai] R)(hz:OS F (sL aa ag ad) z ai)(hn:in64 n)(hT:TB 37 tabC F)(hn:0<=n/\n<64 *(z.length:Int))(ar:z.length<=100000):kKt ex 119 [(sL aa ag ad),n] H fun v H'=> ∃(z':List U64),∃pm F',F.le F'/\HS (.of H (ai.map Prod.fst)) F' H' [pm] R/\v= .tuple #[]/\OS F' (sL aa ag ad) z' pm/\(z'.length=z.length)/\(∀i,aH z' i=(aH z i||decide (i=n.toNat))):=by
 have aq:=OS.len' hz;have hq:=n64 hn;refine aB Tryz.func119 V V (ab ?_);have Z:in64 n->in64 (Int.tdiv n 64):=fun h=>vq h e_
 obtain⟨a_,E⟩:=Sv.view (OS.sv hz hs (i:=0) V);have g3:=fU (E (Int.tdiv n 64).toNat);refine bK 11 0 4 14 [] [(13,(.int .u64 (aJ .or .u64 (z.getD (Int.tdiv n 64).toNat v_).n (IntKind.u64.wrap (1 *2^(Nat.min (Int.tmod n 64).toNat 64)))))),(14,(.pointer (some ⟨sB (sL aa ag ad),sO (sL aa ag ad)+(Int.tdiv n 64).toNat *Rp.sz U64,none⟩)))] (Ha_ (vA (show(64:Int)≠0 from by decide) (vq (a:=n) (b:=64) M e_)) (Ha_ (Sv.ix (j:=Int.tdiv n 64) (OS.sv hz hs (i:=0) V)) (Hl_ 4 (ql 161 0 (vU (E (Int.tdiv n 64).toNat)) V V) (Ha_ (show(64:Int)≠0 from by decide) (Ha_ (vu (n:=Int.tmod n 64) M) (Ha_ (show(0:Int)<=Int.tmod n 64 from by omega) (Ha_ (Sv.ix (j:=Int.tdiv n 64) (OS.sv hz hs (i:=0) V)) Hn_))))))) K_ V fun _=>cL (bW (α:=U64) (j:=(Int.tdiv n 64).toNat) (off:=0) (q:=0) ⟨aJ .or .u64 (z.getD (Int.tdiv n 64).toNat v_).n (IntKind.u64.wrap (1 *2^(Nat.min (Int.tmod n 64).toNat 64)))⟩ hz hs V V V V V V V V (aO (x:=v_) M) V (by rintro cs ⟨rfl,_⟩;exact⟨a08 V,V,by(dsimp only;exact fO _ _ _)⟩)) V ?_
 rintro _ H7 U ⟨A,N,_⟩;have T:=OS.len' A;refine ae 0 V (aM ⟨.inl V,_,V,z.set (Int.tdiv n 64).toNat ⟨aJ .or .u64 (z.getD (Int.tdiv n 64).toNat v_).n (IntKind.u64.wrap (1 *2^(Nat.min (Int.tmod n 64).toNat 64)))⟩,U,_,fR,(HS.first N),V,A,(a0f),(fun i=>add_ok hn X i)⟩)
theorem rem_c{aa ag ad ai}(z:List U64)(n:Int)(hs:HS (.of H (ai.map Prod.fst)) F H [ai] R)(hz:OS F (sL aa ag ad) z ai)(hn:in64 n)(hT:TB 37 tabC F)(hn:0<=n/\n<64 *(z.length:Int))(ar:z.length<=100000):kKt ex 118 [(sL aa ag ad),n] H fun v H'=> ∃(z':List U64),∃pm F',F.le F'/\HS (.of H (ai.map Prod.fst)) F' H' [pm] R/\v= .tuple #[]/\OS F' (sL aa ag ad) z' pm/\(z'.length=z.length)/\(∀i,aH z' i=(aH z i&& !decide (i=n.toNat))):=by
 have aq:=OS.len' hz;have hq:=n64 hn;refine aB Tryz.func118 V V (ab ?_);have Z:in64 n->in64 (Int.tdiv n 64):=fun h=>vq h e_
 obtain⟨a_,E⟩:=Sv.view (OS.sv hz hs (i:=0) V);have g3:=fU (E (Int.tdiv n 64).toNat);refine bK 11 0 4 14 [] [(13,(.int .u64 (aJ .andNot .u64 (z.getD (Int.tdiv n 64).toNat v_).n (IntKind.u64.wrap (1 *2^(Nat.min (Int.tmod n 64).toNat 64)))))),(14,(.pointer (some ⟨sB (sL aa ag ad),sO (sL aa ag ad)+(Int.tdiv n 64).toNat *Rp.sz U64,none⟩)))] (Ha_ (vA (show(64:Int)≠0 from by decide) (vq (a:=n) (b:=64) M e_)) (Ha_ (Sv.ix (j:=Int.tdiv n 64) (OS.sv hz hs (i:=0) V)) (Hl_ 4 (ql 161 0 (vU (E (Int.tdiv n 64).toNat)) V V) (Ha_ (show(64:Int)≠0 from by decide) (Ha_ (vu (n:=Int.tmod n 64) M) (Ha_ (show(0:Int)<=Int.tmod n 64 from by omega) (Ha_ (Sv.ix (j:=Int.tdiv n 64) (OS.sv hz hs (i:=0) V)) Hn_))))))) K_ V fun _=>cL (bW (α:=U64) (j:=(Int.tdiv n 64).toNat) (off:=0) (q:=0) ⟨aJ .andNot .u64 (z.getD (Int.tdiv n 64).toNat v_).n (IntKind.u64.wrap (1 *2^(Nat.min (Int.tmod n 64).toNat 64)))⟩ hz hs V V V V V V V V (aO (x:=v_) M) V (by rintro cs ⟨rfl,_⟩;exact⟨a08 V,V,by(dsimp only;exact fO _ _ _)⟩)) V ?_
 rintro _ H7 U ⟨A,N,_⟩;have T:=OS.len' A;refine ae 0 V (aM ⟨.inl V,_,V,z.set (Int.tdiv n 64).toNat ⟨aJ .andNot .u64 (z.getD (Int.tdiv n 64).toNat v_).n (IntKind.u64.wrap (1 *2^(Nat.min (Int.tmod n 64).toNat 64)))⟩,U,_,fR,(HS.first N),V,A,(a0f),(fun i=>rem_ok hn X i)⟩)
theorem ft{ai ad al ao}(z:List U64){a6 b0 a7}(t:List U64)(hs:HS (.of H (ao.map Prod.fst)) F H [ao] R)(hz:OS F (sL ai ad al) z ao)(ht:SR F (sL a6 b0 a7) t)(hT:TB 37 tabC F)(hl:t.length=z.length)(co:z.length<=100000):kKt ex 120 [(sL ai ad al),(sL a6 b0 a7)] H fun v H'=> ∃(r:Bool) (z':List U64),∃pm F',F.le F'/\HS (.of H (ao.map Prod.fst)) F' H' [pm] R/\v= .bool r/\OS F' (sL ai ad al) z' pm/\(z'.length=z.length)/\(∀i,aH z' i=(aH z i||aH t i))/\(r=false->z'=z)/\(r=true->∃i,aH t i=true/\aH z i=false):=by
 have ci:=SR.len' ht;have b8:=OS.len' hz;refine aB Tryz.func120 V V (am 1 V (wT 2 [] 4 4 [] [(4,false)] V fun _=>wT 3 [] 1 0 [5] [(5,false)] V fun _=>wT 2 [] 7 9 [] [(8,(ad:Int)),(9,(iI 0))] V fun _=>aj (fun(mm:Nat) f H'=> ∃(w:List U64) (k:Nat) (m:Bool),∃N F',F.le F'/\HS (Base.of H (ao.map Prod.fst)) F' H' [N] R/\OS F' (sL ai ad al) w N/\aA f [(0,(sL ai ad al)),(1,(sL a6 b0 a7)),(5,m),(8,(ad:Int)),(9,(k:Int))]/\mm=z.length-k/\(uniB z t k w)/\(k<=z.length)/\(m=false->w=z)/\(m=true->∃i,aH t i=true/\aH z i=false)) _ ⟨z,0,false,ao,_,fR,hs,hz,f_,V,(uniB_zero),M,(fun _=>rfl),(by intro h;cases h)⟩ ?_));rintro b1 f4 H4 ⟨w,k,m,N,F4,a_,E,A,ap,rfl,hu,hk,a2,a3⟩ ar;refine au _ ap (fun _=>?_);clear ap;replace ht:=ht.mono a_;have ax:=OS.len' A;have cv:=hu.1;refine am 1 V (wT 2 [] 10 10 [] [(10,(decide ((k:Int)<(ad:Int))))] V fun _=>zd 4 5 (fun c6=>?_) fun c6=>?_)
 ·refine wT 2 [] 11 11 [6] [(6,(k:Int))] V fun _=>?_
  obtain⟨bk,aq⟩:=Sv.view (SR.sv ht E);have g9:=fU (aq k);obtain⟨a8,Z⟩:=Sv.view (OS.sv A E (i:=0) V);have bl:=fU (Z k);refine wrDp 1 12 21 [] [(21,(aJ .andNot .u64 (t.getD k v_).n (w.getD k v_).n !=0))] (Ha_ (Sv.ix (j:=(k:Int)) (SR.sv ht E)) (Hl_ 3 (ql 161 0 (hc0 (vU (aq k))) V V) (Ha_ (Sv.ix (j:=(k:Int)) (OS.sv A E (i:=0) V)) (Hl_ 7 (ql 161 0 (hc0 (vU (Z k))) V V) Hn_)))) V K_ V fun _=>zI 1 2 (fun a1=>?_) fun a1=>?_
  ·refine wT 1 [] 1 0 [5] [(5,true)] V fun _=>aC V ?_
   obtain⟨a9,aa⟩:=Sv.view (OS.sv A E (i:=0) V);have bt:=fU (aa k);obtain⟨bb,ag⟩:=Sv.view (SR.sv ht E);have bz:=fU (ag k);refine cN 10 22 31 [] [(30,(.int .u64 (aJ .or .u64 (w.getD k v_).n (t.getD k v_).n))),(31,(.pointer (some ⟨sB (sL ai ad al),sO (sL ai ad al)+k *Rp.sz U64,none⟩)))] (Ha_ (Sv.ix (j:=(k:Int)) (OS.sv A E (i:=0) V)) (Hl_ 3 (ql 161 0 (hc0 (vU (aa k))) V V) (Ha_ (Sv.ix (j:=(k:Int)) (SR.sv ht E)) (Hl_ 7 (ql 161 0 (hc0 (vU (ag k))) V V) (Ha_ (Sv.ix (j:=(k:Int)) (OS.sv A E (i:=0) V)) Hn_))))) E V V fun _=>gc (id:= .x (N.map Prod.fst)) (bW (α:=U64) (j:=k) (off:=0) (q:=0) ⟨aJ .or .u64 (w.getD k v_).n (t.getD k v_).n⟩ A E.log0 V V V V V V V V (aO (x:=v_) M) V (by rintro cs ⟨rfl,_⟩;exact⟨a08 V,V,by(dsimp only;exact fO _ _ _)⟩)) V (by rintro _ _ av ⟨U,_,hwr⟩;exact dh V V (Wr.did hwr)) (kb V) ?_
   rintro _ ay av ⟨U,T,_⟩ aw an;replace T:=HS.lg T E an;generalize ({ay with log:=aw}:Heap)=a5 at T⊢;have a4:=OS.len' U;refine aW 2 V (wU 1 [] 9 9 [32] [(9,(iI ((k:Int)+1)))] (vi (n:=(k:Int)+1)) V fun _=>?_);refine ar _ _ _ ?_ ⟨w.set k ⟨aJ .or .u64 (w.getD k v_).n (t.getD k v_).n⟩,k+1,true,av,_,(a_),T,U,f_,V,(uniB_or hu M X X),M,(by(intro h;cases h;done)),(by(intro _;exact uniB_new hu X X X))⟩;omega
  refine wU 1 [] 9 9 [32] [(9,(iI ((k:Int)+1)))] (vi (n:=(k:Int)+1)) V fun _=>?_
  refine ar _ _ _ ?_ ⟨w,k+1,m,N,_,(a_),E,A,f_,V,(uniB_same hu X X X),M,X,X⟩;omega
 refine wT 1 [] 4 4 [33] [(4,m)] V fun _=>ak ⟨.inr V,_,V,m,w,N,_,(a_),(HS.first E),V,A,(hu.1),(uniB_all hu M hl),(a2),(a3)⟩
theorem list_c{al ad ao}(z:List U64)(hs:Hb H F H [] R)(hz:SR F (sL al ad ao) z)(hT:TB 37 tabC F)(ez:z.length<=100000):kKt ex 113 [(sL al ad ao)] H fun v H'=> ∃ar,∃(kr:Nat) (r:List Int),∃p F',F.le F'/\Hb H F' H' [p] R/\v=sL ar r.length kr/\OZ F' ar r kr p/\r=jV z:=by
 have em:=SR.len' hz;refine aB Tryz.func113 V V (am 1 V (wT 2 [] 2 2 [] [(2,N_)] V fun _=>wT 3 [] 1 0 [3] [(3,N_)] V fun _=>wT 2 [] 6 8 [] [(7,(ad:Int)),(8,(iI 0))] V fun _=>?_));have bt:=HS.snoc hs;refine aj (fun(mm:Nat) f H'=> ∃(o:List Int) (k:Nat),∃T,∃(U:Nat),∃Z F',F.le F'/\Hb H F' H' [Z] R/\OZ F' T o U Z/\aA f [(0,(sL al ad ao)),(3,(S_ T o U)),(7,(ad:Int)),(8,(k:Int))]/\mm=z.length-k/\(o=mC z (64 *k))/\(k<=z.length)) _ ⟨([]:List Int),0,none,0,[],_,fR,bt,(OS.nil:OS _ N_ ([]:List Int) []),f_,V,m_,M⟩ ?_;rintro c9 f4 H4 ⟨o,k,T,U,Z,F4,av,a7,aq,a5,rfl,ho,hk⟩ bz;refine au _ a5 (fun _=>?_);clear a5;replace hz:=hz.mono av;refine am 1 V (wT 2 [] 9 9 [] [(9,(decide ((k:Int)<(ad:Int))))] V fun _=>zd 4 5 (fun c7=>?_) fun c7=>?_)
 ·refine wT 2 [] 10 10 [4] [(4,(k:Int))] V fun _=>wT 2 [] 1 0 [5] [(5,(iI 0))] V fun _=>aj (fun(mm:Nat) f H'=> ∃(o2:List Int) (b:Nat),∃A,∃(E:Nat),∃N F',F4.le F'/\Hb H F' H' [N] R/\OZ F' A o2 E N/\aA f [(0,(sL al ad ao)),(3,(S_ A o2 E)),(4,(k:Int)),(5,(b:Int)),(7,(ad:Int)),(8,(k:Int))]/\mm=64-b/\(o2=mC z (64 *k+b))/\(b<=64)) _ ⟨o,0,T,U,Z,_,fR,a7,aq,f_,V,(ho),M⟩ ?_
  rintro b7 co b9 ⟨o2,b,A,E,N,b8,an,a_,aa,aw,rfl,ap,hb⟩ a2;refine au _ aw (fun _=>?_);clear aw;replace hz:=hz.mono an;have et:o2.length<=64 *k+b:=by rw[ap];exact lstK_len
  refine am 2 V ?_;obtain⟨b4,ay⟩:=Sv.view (SR.sv hz a_);have c5:=fU (ay k);refine wrp 1 11 18 [] [(18,(Int.fdiv (z.getD k v_).n (2^(Nat.min b 64)) !=0))] (Ha_ (Sv.ix (j:=(k:Int)) (SR.sv hz a_)) (Hl_ 3 (ql 161 0 (vU (ay k)) V V) (Ha_ (vu (n:=(b:Int)) M) (Ha_ (show(0:Int)<=(b:Int) from by omega) Hn_)))) K_ V fun _=>zI 4 5 (fun a4=>?_) fun a4=>?_
  ·have b6:=list_lt X hb a4;obtain⟨b5,a1⟩:=Sv.view (SR.sv hz a_);have c6:=fU (a1 k);refine wrp 1 21 29 [] [(29,(aJ .and .u64 (Int.fdiv (z.getD k v_).n (2^(Nat.min b 64))) 1==1))] (Ha_ (Sv.ix (j:=(k:Int)) (SR.sv hz a_)) (Hl_ 3 (ql 161 0 (vU (a1 k)) V V) (Ha_ (vu (n:=(b:Int)) M) (Ha_ (show(0:Int)<=(b:Int) from by omega) Hn_)))) K_ V fun _=>zI 0 2 (fun bl=>?_) fun bl=>?_
   ·refine ab (wRo 5 0 [] 30 34 [] [(30,(S_ A o2 E)),(34,(iI ((64 *(k:Int))+(b:Int))))] (vA (vi (n:=64 *(k:Int))) (vA (vi (n:=(64 *(k:Int))+(b:Int))) trivial)) V fun _=>zlo ([(64 *(k:Int))+(b:Int)]:List Int) a_ V (RL.cs ⟨V,M⟩ RL.nl) V fun ci c8 dd cc a9 ax=>zao 0 aa ax (OS.sv a9 ax (i:=1) V) V V V M fun a3 a8 b1 ch bb bk=>za (sL a3 (o2++([(64 *(k:Int))+(b:Int)]:List Int)).length a8) (ae 2 V ?_));refine wU 1 [] 19 20 [5] [(5,(iI ((b:Int)+1)))] (vi (n:=(b:Int)+1)) V fun _=>?_
    refine a2 _ _ _ ?_ ⟨o2++([(64 *(k:Int))+(b:Int)]:List Int),b+1,a3,a8,b1,_,(an),(HS.sub bk (a01 _ _)),bb,f_,V,(lst_step1 ap ((km X M).1 X)),M⟩;omega
   refine wU 1 [] 19 20 [5] [(5,(iI ((b:Int)+1)))] (vi (n:=(b:Int)+1)) V fun _=>?_
   refine a2 _ _ _ ?_ ⟨o2,b+1,A,E,N,_,(an),a_,aa,f_,V,(lst_step0 ap (fun hh=>absurd ((km X M).2 hh) X)),M⟩;omega
  refine wU 1 [] 8 8 [37] [(8,(iI ((k:Int)+1)))] (vi (n:=(k:Int)+1)) V fun _=>?_
  refine bz _ _ _ ?_ ⟨o2,k+1,A,E,N,_,(fT (av) an),a_,aa,f_,V,(by rw[ap];exact list_stop X hb X),M⟩;omega
 refine wT 1 [] 2 2 [38] [(2,(S_ T o U))] V fun _=>ak ⟨.inr V,_,V,T,U,o,Z,_,(av),(HS.only a7 (i:=0) V),V,aq,(by rw[ho];unfold jV;congr 1;omega)⟩
theorem addT_c{ai ao al ad}(z:List U64){E T}(b:BlkT)(hs:HS (.of H (ad.map Prod.fst)) F H [ad] R)(hz:OS F (sL ai ao al) z ad)(ag:Sr F E b.v T)(an:in64 b.f)(ap:in64 b.r)(aq:in64 b.t)(ar:in64 b.e)(hT:TB 37 tabC F)(hb:(b.f=2\/b.f=3)->0<=b.r/\b.r<64 *(z.length:Int))(a6:z.length<=100000):kKt ex 117 [(sL ai ao al),(aG [(S_ E b.v T),b.f,b.r,b.t,b.e])] H fun v H'=> ∃(z':List U64),∃pm F',F.le F'/\HS (.of H (ad.map Prod.fst)) F' H' [pm] R/\v= .tuple #[]/\OS F' (sL ai ao al) z' pm/\(z'.length=z.length)/\(∀i,aH z' i=(aH z i||decide ((i:Int)∈d7 b))):=by
 have a3:=OS.len' hz;refine aB Tryz.func117 V V (am 1 V (ab (aT (aN hs V V) V V ?_)));rintro _ H2 _ ⟨b1,rfl,A,_⟩;refine ae 2 V (aU 1 4 11 [] [(11,((b.f==2)||(b.f==3)))] (Hr_ 1 1 (bp 5 (fun _=>(ql 3 1 (i_ A V) V V)) Hn_)) A V V fun _=>zI 0 0 (fun c4=>?_) fun c4=>?_)
 ·have ax:=hb M;refine ab (aS 3 0 12 14 [] [(12,(sL ai ao al)),(14,b.r)] (Hr_ 2 1 Hn_) A V V fun _=>zc (add_c ex z b.r (g_ A V) hz M hT M M) ?_);rintro _ H6 ⟨aa,Z,F6,a_,N,rfl,U,av,aw⟩;replace N:=A.bO N;have ay:=OS.len' U;refine ae 0 V (aM ⟨.inl V,_,V,aa,Z,_,(a_),(HS.first N),V,U,X,(end_ok (.inl ⟨M,M,by assumption⟩))⟩)
 refine aM ⟨.inl V,_,V,z,ad,_,fR,(HS.first A),V,hz,m_,(end_ok (.inr ⟨M,V⟩))⟩
theorem mu{ai ao al a0}(z:List U64){N a_}(iv:VInT)(hs:HS (.of H (a0.map Prod.fst)) F H [a0] R)(hz:OS F (sL ai ao al) z a0)(dn:in64 iv.i.op)(ds:in64 iv.i.a)(dt:in64 iv.i.b)(dv:in64 iv.i.c)(d1:in64 iv.i.n)(T:Sr F N iv.args a_)(hT:TB 37 tabC F)(hr: ∀x∈aE iv,0<=x/\x<64 *(z.length:Int))(hw: ∀x∈ah iv,0<=x/\x<64 *(z.length:Int))(fz:iv.args.length<=1048576)(gt:z.length<=100000):kKt ex 121 [(sL ai ao al),(aG [iv.i.op,iv.i.a,iv.i.b,iv.i.c,iv.i.n,(sL N iv.args.length a_)])] H fun v H'=> ∃(z':List U64),∃pm F',F.le F'/\HS (.of H (a0.map Prod.fst)) F' H' [pm] R/\v= .tuple #[]/\OS F' (sL ai ao al) z' pm/\(z'.length=z.length)/\(∀i,aH z' i=((aH z i&& !decide ((i:Int)∈ah iv))||decide ((i:Int)∈aE iv))):=by
 have dl:=OS.len' hz;have g7:=dM (v:=iv);have gs:=eD (v:=iv);refine aB Tryz.func121 V V (am 1 V (ab (aT (aN hs V V) V V ?_)));rintro _ H2 _ ⟨b1,rfl,a5,_⟩;let bk:Value:=(aG [iv.i.op,iv.i.a,iv.i.b,iv.i.c,iv.i.n,(sL N iv.args.length a_)])
 refine ae 3 V (ab (aS 1 0 8 8 [] [(8,bk)] (Hr_ 0 1 Hn_) a5 V V fun _=>zc (ma.iy ex iv (HS.call a5) M M M M M T hT) ?_));rintro _ H4 ⟨ci,dd,r4,p4,F4,a1,a7,rfl,aq,rfl⟩;replace a7:=HS.back a5 V a7;replace hz:=hz.mono a1;let bl:Fp:=(fP b1 [iv.i.op,iv.i.a,iv.i.b,iv.i.c,iv.i.n,(sL N iv.args.length a_)])
 refine bK 2 2 10 11 [] [(10,((ah iv).length:Int)),(11,(iI 0))] Hn_ K_ V fun _=>ae 2 V (aj (fun(mm:Nat) f H'=> ∃(w:List U64) (k:Nat),∃Z F',F4.le F'/\HS (Base.of H (a0.map Prod.fst)) F' H' [Z,bl,p4] R/\OS F' (sL ai ao al) w Z/\aA f [(0,(sL ai ao al)),(3,(pT b1 0)),(9,(sL ci (ah iv).length dd)),(10,((ah iv).length:Int)),(11,(k:Int))]/\mm=(ah iv).length-k/\(w.length=z.length)/\(∀i,aH w i=(aH z i&& !decide ((i:Int)∈(ah iv).take k)))/\(k<=(ah iv).length)) _ ⟨z,0,a0,_,fR,a7,hz,f_,V,m_,(by intro i;simp),M⟩ ?_)
 rintro f8 f6 H6 ⟨w,k,Z,F6,ar,ag,A,a9,rfl,g1,g2,g3⟩ c9;refine au _ a9 (fun _=>?_);clear a9;replace hT:=(hT.mono a1).mono ar;replace T:=(T.mono a1).mono ar;replace aq:=aq.mono ar;have cc:=OS.len' A;refine am 1 V (wT 2 [] 12 12 [] [(12,(decide ((k:Int)<((ah iv).length:Int))))] V fun _=>zd 4 5 (fun c8=>?_) fun c8=>?_)
 ·have go:=dm hw (by omega:k<(ah iv).length);obtain⟨f3,bb⟩:=Sv.view (OS.sv aq ag (i:=2) V);have f5:=fI (bb k);refine wrp 1 13 14 [5] [(5,((ah iv).getD k 0))] (Ha_ (Sv.ix (j:=(k:Int)) (OS.sv aq ag (i:=2) V)) (Hl_ 1 (ql 3 0 (vI (bb k)) V V) Hn_)) K_ V fun _=>ab (wTo 2 0 [] 15 16 [] [(15,(sL ai ao al)),(16,((ah iv).getD k 0))] V fun _=>zc (rem_c ex w ((ah iv).getD k 0) (g_ ag V) A M hT M M) ?_)
  rintro _ fj ⟨b8,b6,e6,bz,aw,rfl,a3,ez,e1⟩;replace aw:=ag.bO aw;have e3:=OS.len' a3;refine ae 2 V (wU 1 [] 11 11 [18] [(11,(iI ((k:Int)+1)))] (vi (n:=(k:Int)+1)) V fun _=>?_);refine c9 _ _ _ ?_ ⟨b8,k+1,b6,_,(fT (ar) bz),aw,a3,f_,V,M,(rem_step M g2 (dm hw M).1 X),M⟩;omega
 refine ab (aS 1 0 19 19 [] [(19,bk)] (Hr_ 0 1 Hn_) ag V V fun _=>zc (ma.np ex iv (HS.call ag) M M M M M T hT M) ?_);rintro _ f0 ⟨bt,b4,f9,dk,ch,av,ax,rfl,U,rfl⟩;replace ax:=HS.back ag V ax;replace A:=A.mono av;refine bK 2 2 21 22 [] [(21,((aE iv).length:Int)),(22,(iI 0))] Hn_ K_ V fun _=>ae 2 V (aj (fun(mm:Nat) f H'=> ∃(u:List U64) (q:Nat),∃E F',ch.le F'/\HS (Base.of H (a0.map Prod.fst)) F' H' [E,bl,p4,dk] R/\OS F' (sL ai ao al) u E/\aA f [(0,(sL ai ao al)),(20,(sL bt (aE iv).length b4)),(21,((aE iv).length:Int)),(22,(q:Int))]/\mm=(aE iv).length-q/\(u.length=z.length)/\(∀i,aH u i=(aH w i||decide ((i:Int)∈(aE iv).take q)))/\(q<=(aE iv).length)) _ ⟨w,0,Z,_,fR,ax,A,f_,V,M,(by intro i;simp),M⟩ ?_)
 rintro e5 f4 f1 ⟨u,q,E,fd,ap,aa,an,a2,rfl,g4,g5,g6⟩ b3;refine au _ a2 (fun _=>?_);clear a2;replace hT:=(hT.mono av).mono ap;replace U:=U.mono ap;have b5:=OS.len' an;refine am 1 V (wT 2 [] 23 23 [] [(23,(decide ((q:Int)<((aE iv).length:Int))))] V fun _=>zd 4 3 (fun c5=>?_) fun c5=>?_)
 ·have gb:=dm hr (by omega:q<(aE iv).length);obtain⟨et,a8⟩:=Sv.view (OS.sv U aa (i:=3) V);have f7:=fI (a8 q);refine wrp 1 24 25 [7] [(7,((aE iv).getD q 0))] (Ha_ (Sv.ix (j:=(q:Int)) (OS.sv U aa (i:=3) V)) (Hl_ 1 (ql 3 0 (vI (a8 q)) V V) Hn_)) K_ V fun _=>ab (wTo 2 0 [] 26 27 [] [(26,(sL ai ao al)),(27,((aE iv).getD q 0))] V fun _=>zc (add_c ex u ((aE iv).getD q 0) (g_ aa V) an M hT M M) ?_)
  rintro _ f2 ⟨b9,b7,fi,b2,ay,rfl,a4,e0,e2⟩;replace ay:=aa.bO ay;have e4:=OS.len' a4;refine ae 2 V (wU 1 [] 22 22 [29] [(22,(iI ((q:Int)+1)))] (vi (n:=(q:Int)+1)) V fun _=>?_);refine b3 _ _ _ ?_ ⟨b9,q+1,b7,_,(fT (ap) b2),ay,a4,f_,V,M,(add_step M g5 (dm hr M).1 X),M⟩;omega
 refine aM ⟨.inl V,_,V,u,E,_,(fT (fT (fT (a1) ar) av) ap),(HS.first aa),V,an,M,(tr_done (fun i=>by rw[g2 i,a0h M]) (fun i=>by rw[g5 i,a0h M]))⟩
end mb
open mb
namespace mc
variable (ex:FuncId) {F:Fz} {H:Heap} {R:List Fp}
theorem zset{l:List (List U64)}{k:Nat}{z:List U64}(h: ∀j,j<k->l.getD j v_=z)(E:k<l.length): ∀j,j<k+1->(l.set k z).getD j v_=z:=fun j A=>by
 rw[ee];split
 ·rfl
 rename_i N;exact h j M
theorem jJ{l:List Int}{q:Nat}(h:q<l.length):l.getD q 0∈l:=by rw[a03,a06 h];exact a0T h
theorem succ_step{I O:List (List U64)}{k q:Nat}{s:List U64}{l:List Int}(U:q<l.length)(T:k<O.length)(h: ∀t∈l.take q,∀r,bI I t.toNat r->bI O k r)(N: ∀i,aH s i=(aH (O.getD k v_) i||aH (I.getD (l.getD q 0).toNat v_) i)): ∀t∈l.take (q+1),∀r,bI I t.toNat r->bI (O.set k s) k r:=by
 intro t A r E;unfold bI;rw[ee,if_pos ⟨V,T⟩,N,a0C];rw[bx U (d:=0),a09,a0b]at A;rcases A with A|rfl
 ·exact .inl (h t A r E)
 exact .inr E
theorem tr_start{b S s z n}(A:b.v.length<=n)(hs: ∀r,aH s r=true↔S r)(h: ∀i,aH z i=(aH s i||decide ((i:Int)∈d7 b)))(r:Nat):aH z r=true↔tr (b.v.drop n) (endS b S) r:=by rw[List.drop_of_length_le A,h,a0C,hs,decide_eq_true_eq];exact Iff.rfl
theorem cl_step{c:VFnT}{I O A:List (List U64)}{s z:List U64}{k:Nat}(hk:k<c.u.length)(ad: ∀b:Nat,(k:Int)<(b:Int)->b<c.u.length->Cl1 c I O b)(ho: ∀j,j≠k->A.getD j v_=O.getD j v_)(hs: ∀t∈bu (bH c k),∀r,bI I t.toNat r->bI A k r)
  (ht: ∀r,aH s r=true↔inS (bH c k) (bI A k) r) (hz:z=I.getD k v_) (hb: ∀i,aH z i=(aH (I.getD k v_) i||aH s i)): ∀b:Nat,(k:Int)-1<(b:Int)->b<c.u.length->Cl1 c (I.set k z) A b:=by
 intro b U T
 rw[hz,eM]
 by_cases e:b=k
 ·subst e;refine⟨hs,fun r Z=>?_⟩;have:=hb r;rw[hz]at this;unfold bI;rw[this,(ht r).2 Z,Bool.or_true]
 have N:=ad b M T
 have E:bI A b=bI O b:=by unfold bI;rw[ho b e]
 exact⟨fun t ht r Z=>by rw[E];exact N.1 t ht r Z,fun r Z=>N.2 r (by rw[E]at Z;exact Z)⟩
theorem cnt_t{m2 A B D}(h0:m2=false->B=A)(E:m2=true->nS A<nS B)(h:nS B<nS D):nS A<nS D:=by
 cases m2 with
 |false=>rw[h0 rfl]at h;exact h
 |true=>have:=E V;omega
theorem keep0{m2 r:Bool}{A B:List (List U64)}{k:Nat}{z:List U64}(E:r=false->z=B.getD k v_)(N:r=false)(h0:m2=false->B=A):m2=false->B.set k z=A:=fun h=>by rw[E N,eM];exact h0 h
theorem keep1{m2 r A B k z}(N:r=false->z=B.getD k v_)(T:r=false)(E:m2=true->nS A<nS B):m2=true->nS A<nS (B.set k z):=fun h=>by rw[N T,eM];exact E h
theorem use3{α:Prop}{r:Bool}(h:r=false->α)(A:r=false):α:=h A
theorem use4{α:Prop}{r:Bool}(h:r=true->α)(A:r=true):α:=h A
theorem succ_len{b}:(bu b).length<=2:=by
 unfold bu;split
 ·simp
 split
 ·exact ins_len
 simp
theorem wd_le{c}(h:0<=c.r/\c.r<=3000):c.r<=64 *((wds c:Nat):Int)/\wds c<=48:=by unfold wds;rw[a1a M];omega
theorem analyze_c{hJ h5}(c:VFnT)(hs:Hb H F H [] R)(q5:in64 c.m)(q6:in64 c.r)(b7:Sr F hJ c.u h5)(hT:TB 37 tabC F)(so:cb c=true)(si: ∀j,(c.u.getD j v_).v.length<=1099511627776):kKt ex 112 [(aG [c.m,c.r,(sL hJ c.u.length h5)])] H fun v H'=> ∃m0,∃(nd:Nat) (il:List (List U64)),∃aol,∃(kol:Nat) (ol:List (List U64)),∃F',F.le F'/\Hb H F' H' [] R/\v= .tuple ⟨[sL m0 il.length nd,sL aol ol.length kol]⟩/\Sr F' m0 il nd/\Sr F' aol ol kol/\(AnF c il ol):=by
 have vF:=e9 so;have t8:=vF.nb;have sE:=vF.r;have ub:=wd_le sE;refine aB Tryz.func112 V V (am 1 V (ab (aT (aN hs V V) V V ?_)));rintro _ H2 _ ⟨b1,rfl,kk,_⟩;refine wTo 2 1 [] 1 0 [2,3] [(2,N_),(3,N_)] V fun _=>ae 2 V (aU 2 13 15 [4] [(4,(c.u.length:Int))] (Hr_ 1 0 Hn_) kk V V fun _=>aC V (zfm (iI (c.u.length:Int)) (eU (id:= .x []) (cS (v_:Hd) kk.log0 V V V V V V V V V V M M) V V (by rintro _ _ p5 ⟨a5,k5,rfl,h6,_,hwr⟩;exact dh V V (Wr.did hwr)) (kb V) ?_)))
 rintro _ H6 p5 ⟨a5,k5,rfl,h6,h8,_⟩ p3 oV;replace h8:=HS.lg h8 kk oV;generalize ({H6 with log:=p3}:Heap)=rY at h8⊢;have h6:OS F (sL a5 (List.replicate c.u.length (v_:Hd)).length k5) (List.replicate c.u.length (v_:Hd)) p5:=h6;have oa:=HS.snoc h8;have n4:SF F (List.replicate c.u.length (v_:Hd)) (List.replicate c.u.length ([]:List U64)) []:=SF.rep _;have sc:=FAM.len n4;refine zfm (iI (c.u.length:Int)) (eU (id:= .x []) (cS (v_:Hd) oa.log0 V V V V V V V V V V M M) V V (by rintro _ _ p8 ⟨a8,k8,rfl,h7,_,hwr⟩;exact dh V V (Wr.did hwr)) (⟨.inl V,.inr ⟨trivial,trivial⟩,q_⟩) ?_);rintro _ H9 p8 ⟨a8,k8,rfl,h7,h9,_⟩ p4 oW;replace h9:=HS.lg h9 oa oW;generalize ({H9 with log:=p4}:Heap)=r5 at h9⊢;have h7:OS F (sL a8 (List.replicate c.u.length (v_:Hd)).length k8) (List.replicate c.u.length (v_:Hd)) p8:=h7;have o0:=HS.snoc h9;have i3:SF F (List.replicate c.u.length (v_:Hd)) (List.replicate c.u.length ([]:List U64)) []:=SF.rep _;have qD:=FAM.len i3;let hI:Fp:=(fP b1 [c.m,c.r,(sL hJ c.u.length h5)])
 refine fa (sL a5 (List.replicate c.u.length (v_:Hd)).length k5) V V V (fa (sL a8 (List.replicate c.u.length (v_:Hd)).length k8) V V V (gM (am 3 V (wT 2 [] 20 22 [] [(21,((List.replicate c.u.length (v_:Hd)).length:Int)),(22,(iI 0))] V fun _=>aj (fun(mm:Nat) f H'=> ∃(oh:List Hd) (ol:List (List U64)) (ih:List Hd) (il:List (List U64)) (k:Nat),∃ag,∃(ar:Nat),∃c7 an,∃(av:Nat),∃c8 e2 e3 F',F.le F'/\Hb H F' H' [hI,c7,e2,c8,e3] R/\OZ F' ag ih ar c7/\OZ F' an oh av c8/\SF F' ih il e2/\SF F' oh ol e3/\aA f [(1,(pT b1 0)),(2,(sL ag ih.length ar)),(3,(sL an oh.length av)),(4,(c.u.length:Int)),(21,((List.replicate c.u.length (v_:Hd)).length:Int)),(22,(k:Int))]/\mm=c.u.length-k/\(il.length=c.u.length)/\(ol.length=c.u.length)/\(∀j,j<k->il.getD j v_=List.replicate (wds c) ⟨0⟩)/\(∀j,j<k->ol.getD j v_=List.replicate (wds c) ⟨0⟩)/\(k<=c.u.length)) _ ⟨List.replicate c.u.length (v_:Hd),List.replicate c.u.length ([]:List U64),List.replicate c.u.length (v_:Hd),List.replicate c.u.length ([]:List U64),0,a5,k5,p5,a8,k8,p8,[],[],_,fR,o0,h6,h7,n4,i3,f_,V,o_,o_,(by intro j hj;omega),(by intro j hj;omega),M⟩ ?_))));rintro rx r7 rO ⟨oh,ol,ih,il,k,ag,ar,c7,an,av,c8,e2,e3,pN,hh,f6,co,c5,a1,a2,i4,rfl,li,lo,zi,zo,hk⟩ pi;refine au _ i4 (fun _=>?_);clear i4;replace hT:=hT.mono hh;replace b7:=b7.mono hh;have pF:=FAM.len a1;have pG:=FAM.len a2;have t9:(List.replicate c.u.length (v_:Hd)).length=c.u.length:=a0K;refine am 1 V (wT 2 [] 23 23 [] [(23,(decide ((k:Int)<((List.replicate c.u.length (v_:Hd)).length:Int))))] V fun _=>zd 4 6 (fun pX=>?_) fun pX=>?_)
 ·refine wT 1 [] 24 24 [5] [(5,(k:Int))] V fun _=>aC V (cN 6 25 30 [] [(25,(sL ag ih.length ar)),(26,(k:Int)),(27,(sL an oh.length av)),(28,(k:Int)),(30,c.r)] (Hr_ 5 0 Hn_) f6 V V fun _=>aQ (W:=[]) (aP V V V) V V V (mb.empty_c ex c.r (HS.call f6.log0) M hT M) (kb V) ?_)
  rintro _ pS ⟨g9,hE,sn,sf,rF,fd,bb,rfl,hA,rfl⟩;refine⟨Wr.did bb.log,fun pu lz=>?_⟩;replace bb:=HS.back f6.log0 V bb;replace bb:=HS.lg bb f6 lz;generalize ({pS with log:=pu}:Heap)=qr at bb⊢;replace hT:=hT.mono fd;replace a1:=SF.mono fd a1;replace a2:=SF.mono fd a2;refine bj (v:=(pT b1 1)) (id:= .v) (ap_fa V V) V V (did_v V) (jg _) (bj (v:=(iI c.r)) (id:= .l b1) (fp (i:=1) V V (HS.hc bb.log0 (i:=0) V) V V) V V (gf V) (⟨.inl V,.inr a0g,q_⟩) (aQ (W:=[]) (aP V V V) V V V (mb.empty_c ex c.r (HS.call bb.log0) M hT M) (kb V) ?_));rintro _ pU ⟨ha,hF,sp,sg,n2,fi,b8,rfl,l9,rfl⟩;refine⟨Wr.did b8.log,fun pw l0=>?_⟩;replace b8:=HS.back bb.log0 V b8;replace b8:=HS.lg b8 bb l0;generalize ({pU with log:=pw}:Heap)=qs at b8⊢;replace hA:=hA.mono fi;replace co:=(co.mono fd).mono fi;replace c5:=(c5.mono fd).mono fi;replace a1:=SF.mono fi a1;replace a2:=SF.mono fi a2;refine zx Hd k (OS.sv co b8.log0 (i:=1) V) ?_;obtain⟨qL,oy,o1,hP,oM⟩:=SF.open a1 b8 (q:=2) (i:=k) V M;have hP:OS n2 (sL (ih.getD k v_).a (ih.getD k v_).n (ih.getD k v_).k) (il.getD k v_) oy:=hP;have rk:=OS.nlen hP;obtain⟨oG,kl,i5⟩:=SF.shutN (⟨g9,(List.replicate (Int.tdiv (c.r+63) 64).toNat (⟨0⟩:U64)).length,hE⟩:Hd) oM fR o1 (q:=2) (m:=5) e_ V V hA;have qE:=FAM.len i5;refine gc (id:= .x (c7.map Prod.fst)) (bW (α:=Hd) (j:=k) (off:=0) (q:=1) (⟨g9,(List.replicate (Int.tdiv (c.r+63) 64).toNat (⟨0⟩:U64)).length,hE⟩:Hd) co kl.log0 V V V V V V V V (aO (x:=v_) M) V (by rintro cs rfl;exact⟨a08 V,V⟩)) V (by rintro _ _ ob ⟨hu,_,hwr⟩;exact dh V V (Wr.did hwr)) (kb V) ?_;rintro _ pV ob ⟨hu,f7,_⟩ px l1;replace f7:=HS.lg f7 kl l1;generalize ({pV with log:=px}:Heap)=qt at f7⊢;have qi:=OS.len' hu;refine zx Hd k (OS.sv c5 f7.log0 (i:=3) V) ?_;obtain⟨qM,oz,o2,hQ,oO⟩:=SF.open a2 f7 (q:=4) (i:=k) V M;have hQ:OS n2 (sL (oh.getD k v_).a (oh.getD k v_).n (oh.getD k v_).k) (ol.getD k v_) oz:=hQ;have rl:=OS.nlen hQ;obtain⟨oH,kn,jb⟩:=SF.shutN (⟨ha,(List.replicate (Int.tdiv (c.r+63) 64).toNat (⟨0⟩:U64)).length,hF⟩:Hd) oO fR o2 (q:=4) (m:=6) e_ V V l9;have qF:=FAM.len jb;refine gc (id:= .x (c8.map Prod.fst)) (bW (α:=Hd) (j:=k) (off:=0) (q:=3) (⟨ha,(List.replicate (Int.tdiv (c.r+63) 64).toNat (⟨0⟩:U64)).length,hF⟩:Hd) c5 kn.log0 V V V V V V V V (aO (x:=v_) M) V (by rintro cs rfl;exact⟨a08 V,V⟩)) V (by rintro _ _ oc ⟨hv,_,hwr⟩;exact dh V V (Wr.did hwr)) (kb V) ?_;rintro _ pW oc ⟨hv,hB,_⟩ py l2;replace hB:=HS.lg hB kn l2;generalize ({pW with log:=py}:Heap)=qu at hB⊢;have qj:=OS.len' hv;refine aW 2 V (wU 1 [] 22 22 [37] [(22,(iI ((k:Int)+1)))] (vi (n:=(k:Int)+1)) V fun _=>?_);refine pi _ _ _ ?_ ⟨oh.set k (⟨ha,(List.replicate (Int.tdiv (c.r+63) 64).toNat (⟨0⟩:U64)).length,hF⟩:Hd),ol.set k (List.replicate (Int.tdiv (c.r+63) 64).toNat (⟨0⟩:U64)),ih.set k (⟨g9,(List.replicate (Int.tdiv (c.r+63) 64).toNat (⟨0⟩:U64)).length,hE⟩:Hd),il.set k (List.replicate (Int.tdiv (c.r+63) 64).toNat (⟨0⟩:U64)),k+1,ag,ar,ob,an,av,oc,oG,oH,_,(fT (fT (hh) fd) fi),(HS.sub hB (a01 _ _)),(OS.norm hu),(OS.norm hv),i5,jb,(agC V (agC (show Value.slice ag ih.length ar=Value.slice ag (ih.set k (⟨g9,(List.replicate (Int.tdiv (c.r+63) 64).toNat (⟨0⟩:U64)).length,hE⟩:Hd)).length ar by rw[OS.len' hu]) (agC (show Value.slice an oh.length av=Value.slice an (oh.set k (⟨ha,(List.replicate (Int.tdiv (c.r+63) 64).toNat (⟨0⟩:U64)).length,hF⟩:Hd)).length av by rw[OS.len' hv]) f_))),V,(by rw[a0f];exact li),(by rw[a0f];exact lo),(zset zi M),(zset zo M),M⟩;omega
 refine wT 2 [] 1 0 [6] [(6,true)] V fun _=>aj (fun(mm:Nat) f H'=> ∃(g2:List Hd) (g8:List (List U64)) (go:List Hd) (d1:List (List U64)) (mo:Bool),∃bk,∃(bt:Nat),∃e0 bl,∃(bz:Nat),∃e1 e4 e5 F',pN.le F'/\Hb H F' H' [hI,e0,e4,e1,e5] R/\OZ F' bk go bt e0/\OZ F' bl g2 bz e1/\SF F' go d1 e4/\SF F' g2 g8 e5/\aA f [(1,(pT b1 0)),(2,(sL bk go.length bt)),(3,(sL bl g2.length bz)),(4,(c.u.length:Int)),(6,mo)]/\mm=mea mo (c.u.length *(64 *wds c)) (nS d1)/\(Snd c d1 g8)/\(mo=false->∀b,b<c.u.length->Cl1 c d1 g8 b)) _ ⟨oh,ol,ih,il,true,ag,ar,c7,an,av,c8,e2,e3,_,fR,f6,co,c5,a1,a2,f_,V,(snd_start li lo (fun j hj=>zi j M) (fun j hj=>zo j M)),(by intro h;cases h)⟩ ?_
 rintro ry r8 rP ⟨g2,g8,go,d1,mo,bk,bt,e0,bl,bz,e1,e4,e5,pO,hl,ko,em,et,d2,aq,jq,rfl,snd,cl⟩ pj;refine au _ jq (fun _=>?_);clear jq;replace hT:=hT.mono hl;replace b7:=b7.mono hl;have pH:=FAM.len d2;have pI:=FAM.len aq;have t6:=snd.li;have t7:=snd.lo;refine am 2 V (wT 1 [] 38 38 [] [(38,mo)] V fun _=>wk_if 3 5 (v:=mo) V V V V (fun ik=>?_) (fun ik=>?_))
 ·try simp only[BS]at ik
  have sD:=ik;refine wT 2 [] 1 0 [6] [(6,false)] V fun _=>wU 2 [] 39 40 [7] [(7,(iI ((c.u.length:Int)-1)))] (vi (n:=(c.u.length:Int)-1)) V fun _=>aj (fun(mm:Nat) f H'=> ∃(g3:List Hd) (g4:List (List U64)) (E:List Hd) (aa:List (List U64)) (kz:Int) (m2:Bool),∃ap,∃(aw:Nat),∃ax cc,∃(c6:Nat),∃c9 dd dk F',pO.le F'/\Hb H F' H' [hI,ax,dd,c9,dk] R/\OZ F' ap E aw ax/\OZ F' cc g3 c6 c9/\SF F' E aa dd/\SF F' g3 g4 dk/\aA f [(1,(pT b1 0)),(2,(sL ap E.length aw)),(3,(sL cc g3.length c6)),(4,(c.u.length:Int)),(6,m2),(7,kz)]/\mm=(kz+1).toNat/\(Snd c aa g4)/\(-1<=kz/\kz<(c.u.length:Int))/\(m2=false->aa=d1)/\(m2=true->nS d1<nS aa)/\(m2=false->∀b:Nat,kz<(b:Int)->b<c.u.length->Cl1 c aa g4 b)) _ ⟨g2,g8,go,d1,(c.u.length:Int)-1,false,bk,bt,e0,bl,bz,e1,e4,e5,_,fR,ko,em,et,d2,aq,f_,V,(snd),M,(fun _=>rfl),(by intro h;cases h),(by intro _ b h1 h2;omega)⟩ ?_
  rintro rz r9 rQ ⟨g3,g4,E,aa,kz,m2,ap,aw,ax,cc,c6,c9,dd,dk,rG,f3,f8,A,ez,ch,ci,jw,rfl,f1,hkz,n5,ki,hcl⟩ k4;refine au _ jw (fun _=>?_);clear jw;replace hT:=hT.mono f3;replace b7:=b7.mono f3;have pJ:=FAM.len ch;have pK:=FAM.len ci;have q7:=f1.li;have q8:=f1.lo;refine am 2 V (wT 1 [] 41 42 [] [(42,(decide ((0:Int)<=kz)))] V fun _=>zd 4 5 (fun pY=>?_) fun pY=>?_)
  ·have ao:kz.toNat<c.u.length:=M
   have t4:=si kz.toNat;have t5:((c.u.getD kz.toNat v_).f=2\/(c.u.getD kz.toNat v_).f=3)->0<=(c.u.getD kz.toNat v_).r/\(c.u.getD kz.toNat v_).r<c.r:=vF.f kz.toNat ao;have sC: ∀{Q:Nat->Prop},(∀b:Nat,((kz.toNat:Nat):Int)-1<(b:Int)->Q b)->∀b:Nat,kz-1<(b:Int)->Q b:=fun h b hb=>h b M
   refine ab ?_;obtain⟨he,ky⟩:=Sv.view (SR.sv b7 f8);obtain⟨p9,qa,qb,qc,a9⟩:=BlkT.fx (ky kz.toNat);let lf:Value:=(aG [(sL (cA (he kz.toNat) 0) (c.u.getD kz.toNat v_).v.length (cK (he kz.toNat) 0)),(c.u.getD kz.toNat v_).f,(c.u.getD kz.toNat v_).r,(c.u.getD kz.toNat v_).t,(c.u.getD kz.toNat v_).e])
   refine aS 5 0 45 49 [] [(49,lf)] (Hr_ 1 0 (Ha_ (Sv.ix (j:=kz) (SR.sv b7 f8)) (Hl_ 4 (qn 82 0 5 (BlkT.vw (ky kz.toNat)) V V V V) Hn_))) f8 V V fun _=>zn f8 V fun ii rR o3=>sgo 1 6 1 0 [] [] (Hr_ 6 5 Hn_) o3 V V fun qR rS hS=>ae 3 V (ab (aS 1 0 50 50 [] [(50,lf)] (Hr_ 0 5 Hn_) hS V V fun _=>zc (ma.vsucc_c ex (c.u.getD kz.toNat v_) (HS.call hS) a9 M M M M hT) ?_))
   rintro _ rU ⟨ox,pq,sq,oo,pP,b6,hV,rfl,f2,rfl⟩;replace hV:=HS.back hS V hV;replace ez:=ez.mono b6;replace ch:=SF.mono b6 ch;replace ci:=SF.mono b6 ci;let ow:Fp:=(fP ii [(sL (cA (he kz.toNat) 0) (c.u.getD kz.toNat v_).v.length (cK (he kz.toNat) 0)),(c.u.getD kz.toNat v_).f,(c.u.getD kz.toNat v_).r,(c.u.getD kz.toNat v_).t,(c.u.getD kz.toNat v_).e])
   refine bK 2 2 52 53 [] [(52,((bu (c.u.getD kz.toNat v_)).length:Int)),(53,(iI 0))] Hn_ K_ V fun _=>ae 2 V (aj (fun(mm:Nat) f H'=> ∃(T:List Hd) (Z:List (List U64)) (q:Nat),∃ay,∃(a4:Nat),∃a7 g1 e6 F',pP.le F'/\Hb H F' H' [hI,ax,e6,a7,g1,ow,oo] R/\OZ F' ay T a4 a7/\SF F' T Z g1/\SF F' E aa e6/\aA f [(1,(pT b1 0)),(2,(sL ap E.length aw)),(3,(sL ay T.length a4)),(4,(c.u.length:Int)),(6,m2),(7,kz),(8,(pT ii 0)),(51,(sL ox (bu (c.u.getD kz.toNat v_)).length pq)),(52,((bu (c.u.getD kz.toNat v_)).length:Int)),(53,(q:Int))]/\mm=(bu (c.u.getD kz.toNat v_)).length-q/\(Snd c aa Z)/\(q<=(bu (c.u.getD kz.toNat v_)).length)/\(∀j,j≠kz.toNat->Z.getD j v_=g4.getD j v_)/\(∀t∈(bu (c.u.getD kz.toNat v_)).take q,∀r,bI aa t.toNat r->bI Z kz.toNat r)) _ ⟨g3,g4,0,cc,c6,c9,dk,dd,_,fR,hV,ez,ci,ch,f_,V,(f1),M,(fun _ _=>rfl),(by intro t ht;cases ht)⟩ ?_)
   rintro rA sa rV ⟨T,Z,q,ay,a4,a7,g1,e6,hG,dl,dt,N,gt,a3,j1,rfl,dv,hq,n6,n7⟩ pm;refine au _ j1 (fun _=>?_);clear j1;replace hT:=(hT.mono b6).mono dl;replace f2:=f2.mono dl;replace A:=(A.mono b6).mono dl;replace a9:=(a9.mono b6).mono dl;have pM:=FAM.len gt;have pL:=FAM.len a3;have rf:=succ_len (b:=(c.u.getD kz.toNat v_));have q9:=dv.lo;have rj:=dv.wo kz.toNat ao;refine am 1 V (wT 2 [] 54 54 [] [(54,(decide ((q:Int)<((bu (c.u.getD kz.toNat v_)).length:Int))))] V fun _=>zd 4 5 (fun pZ=>?_) fun pZ=>?_)
   ·have js:=jJ (l:=bu (c.u.getD kz.toNat v_)) (q:=q) M;have ua:=vF.succ kz.toNat ao _ js;have rh:=dv.wi ((bu (c.u.getD kz.toNat v_)).getD q 0).toNat M;obtain⟨qy,k0⟩:=Sv.view (OS.sv f2 dt (i:=6) V);have sd:=fI (k0 q);refine wrp 1 55 56 [10] [(10,((bu (c.u.getD kz.toNat v_)).getD q 0))] (Ha_ (Sv.ix (j:=(q:Int)) (OS.sv f2 dt (i:=6) V)) (Hl_ 1 (ql 3 0 (vI (k0 q)) V V) Hn_)) K_ V fun _=>aC V ?_
    obtain⟨qz,pe⟩:=Sv.view (OS.sv N dt (i:=3) V);obtain⟨qN,iv,hW,hw,oP⟩:=SF.open gt dt (q:=4) (i:=kz.toNat) V M;have hw:OS hG (sL (T.getD kz.toNat v_).a (T.getD kz.toNat v_).n (T.getD kz.toNat v_).k) (Z.getD kz.toNat v_) iv:=hw;have rm:=OS.nlen hw;obtain⟨qA,pf⟩:=Sv.view (OS.sv A hW (i:=1) V);obtain⟨qO,oD,kp,f4,oQ⟩:=SF.open a3 hW (q:=2) (i:=((bu (c.u.getD kz.toNat v_)).getD q 0).toNat) V M;have f4:OS hG (sL (E.getD ((bu (c.u.getD kz.toNat v_)).getD q 0).toNat v_).a (E.getD ((bu (c.u.getD kz.toNat v_)).getD q 0).toNat v_).n (E.getD ((bu (c.u.getD kz.toNat v_)).getD q 0).toNat v_).k) (aa.getD ((bu (c.u.getD kz.toNat v_)).getD q 0).toNat v_) oD:=f4;have rn:=OS.nlen f4;refine cN 8 57 64 [] [(60,(sL (T.getD kz.toNat v_).a (T.getD kz.toNat v_).n (T.getD kz.toNat v_).k)),(64,(sL (E.getD ((bu (c.u.getD kz.toNat v_)).getD q 0).toNat v_).a (E.getD ((bu (c.u.getD kz.toNat v_)).getD q 0).toNat v_).n (E.getD ((bu (c.u.getD kz.toNat v_)).getD q 0).toNat v_).k))] (Ha_ (Sv.ix (j:=kz) (OS.sv N dt (i:=3) V)) (Hl_ 3 (ql 185 0 (hc0 (vH (pe kz.toNat))) V V) (Ha_ (Sv.ix (j:=((bu (c.u.getD kz.toNat v_)).getD q 0)) (OS.sv A hW (i:=1) V)) (Hl_ 7 (ql 185 0 (hc0 (vH (pf ((bu (c.u.getD kz.toNat v_)).getD q 0).toNat))) V V) Hn_)))) dt V V fun _=>?_
    obtain⟨qq,hp,ib,mk,l3⟩:=OS.frz f4 kp (i:=8) V;refine wcD (iv.map Prod.fst) (j:=7) ib V V (mb.ft ex (Z.getD kz.toNat v_) (aa.getD ((bu (c.u.getD kz.toNat v_)).getD q 0).toNat v_) (HS.callOwn ib.log0 (i:=7) V) (OS.mono hp hw) mk (hT.mono hp) M M) V V (kb V) ?_;rintro _ rW ⟨ss,pE,rD,rH,i2,f9,rfl,hr,qT,qX,q1,q3⟩;refine⟨_,_,_,f9,fun qw f9=>?_⟩;replace f9:=HS.thawL kp (i:=8) V (fT hp i2) (fun b o hb=>i2 _ _ (l3 b o hb)) (i':=8) V f9;replace hr:=OS.ind (F':=hG) hr;have rp:=OS.len' hr;refine aW 2 V (wU 1 [] 53 53 [66] [(53,(iI ((q:Int)+1)))] (vi (n:=(q:Int)+1)) V fun _=>?_);obtain⟨oI,o4,j2⟩:=SF.shut0 oQ fR f9 (q:=2) (m:=8) e_ V V f4;have qG:=FAM.len j2;obtain⟨oJ,o5,ka⟩:=SF.shut oP fR o4 (q:=4) (m:=7) e_ V V hr;have qH:=FAM.len ka;refine pm _ _ _ ?_ ⟨T,Z.set kz.toNat pE,q+1,ay,a4,a7,oJ,oI,_,(dl),(HS.sub o5 (a01 _ _)),N,ka,j2,f_,V,(snd_out dv ao js X X),M,(by exact fun j hj=>by rw[ee,if_neg (fun e=>hj e.1.symm)];exact n6 j hj),(succ_step M M n7 X)⟩;omega
   have ly: ∀t∈bu (c.u.getD kz.toNat v_),∀r,bI aa t.toNat r->bI Z kz.toNat r:=fun t ht=>n7 t (by rw[a0h M];exact ht)
   have ri:=dv.wi kz.toNat ao;refine ab (zlo ([]:List U64) dt V RL.nl V fun r6 se sk rX oX hX=>?_);obtain⟨qB,pg⟩:=Sv.view (OS.sv N hX (i:=3) V);obtain⟨qP,oE,kr,ds,oR⟩:=SF.open gt hX (q:=4) (i:=kz.toNat) V M;have ds:OS hG (sL (T.getD kz.toNat v_).a (T.getD kz.toNat v_).n (T.getD kz.toNat v_).k) (Z.getD kz.toNat v_) oE:=ds;have rq:=OS.nlen ds;refine bK 4 1 68 71 [] [(71,(sL (T.getD kz.toNat v_).a (T.getD kz.toNat v_).n (T.getD kz.toNat v_).k))] (Ha_ (Sv.ix (j:=kz) (OS.sv N hX (i:=3) V)) (Hl_ 4 (ql 185 0 (vH (pg kz.toNat)) V V) Hn_)) K_ V fun _=>zao 7 oX kr (OS.sv ds kr (i:=8) V) V V V M fun g5 g6 p6 r0 hR hY=>?_
   have hR:OS hG (sL g5 (Z.getD kz.toNat v_).length g6) (Z.getD kz.toNat v_) p6:=hR;refine za (sL g5 (Z.getD kz.toNat v_).length g6) (ae 2 V (ab (aS 2 0 73 74 [] [(73,(sL g5 (Z.getD kz.toNat v_).length g6)),(74,lf)] (Hr_ 1 5 Hn_) hY V V fun _=>zc (mb.addT_c ex (Z.getD kz.toNat v_) (c.u.getD kz.toNat v_) (HS.callOwn hY (i:=7) V) hR a9 M M M M hT M M) ?_)));rintro _ r1 ⟨k6,pC,pQ,b2,hC,rfl,hL,qU,qY⟩;replace hC:=hY.bO hC;replace ds:=ds.mono b2;replace a3:=SF.mono b2 a3;have rr:=OS.len' hL;refine ae 3 V (aU 2 76 79 [12] [(12,(iI (((c.u.getD kz.toNat v_).v.length:Int)-1)))] (Hr_ 1 5 (Ha_ (vi (n:=((c.u.getD kz.toNat v_).v.length:Int)-1)) Hn_)) hC V V fun _=>?_);obtain⟨hK,o6,b5⟩:=SF.shut0 oR (b2) hC (q:=4) (m:=8) e_ V V ds;have qI:=FAM.len b5;refine aj (fun(mm:Nat) f H'=> ∃(sw:List U64) (iz:Int),∃U,∃(a_:Nat),∃f0 F',pQ.le F'/\Hb H F' H' [hI,ax,e6,a7,hK,ow,oo,f0,[]] R/\OZ F' U sw a_ f0/\aA f [(1,(pT b1 0)),(2,(sL ap E.length aw)),(3,(sL ay T.length a4)),(4,(c.u.length:Int)),(6,m2),(7,kz),(8,(pT ii 0)),(11,(sL U sw.length a_)),(12,iz)]/\mm=(iz+1).toNat/\(sw.length=wds c)/\(∀r,aH sw r=true↔tr ((c.u.getD kz.toNat v_).v.drop (iz+1).toNat) (endS (c.u.getD kz.toNat v_) (bI Z kz.toNat)) r)/\(-1<=iz/\iz<((c.u.getD kz.toNat v_).v.length:Int))) _ ⟨k6,((c.u.getD kz.toNat v_).v.length:Int)-1,g5,g6,pC,_,fR,o6,(OS.norm hL),(agC V (agC V (agC V (agC V (agC V (agC V (agC V (agC (show Value.slice g5 (Z.getD kz.toNat v_).length g6=Value.slice g5 k6.length g6 by rw[OS.len' hL]) f_)))))))),V,M,(tr_start M (fun r=>Iff.rfl) X),M⟩ ?_;rintro rB sb r2 ⟨sw,iz,U,a_,f0,pR,b3,b9,g7,kc,rfl,hsw,htr,hiz⟩ pn;refine au _ kc (fun _=>?_);clear kc;replace hT:=(hT.mono b2).mono b3;replace A:=(A.mono b2).mono b3;replace N:=(N.mono b2).mono b3;replace a9:=(a9.mono b2).mono b3;replace a3:=SF.mono b3 a3;replace b5:=SF.mono b3 b5;refine am 2 V (wT 1 [] 80 81 [] [(81,(decide ((0:Int)<=iz)))] V fun _=>zd 3 5 (fun p0=>?_) fun p0=>?_)
   ·have a0:(∀x∈aE ((c.u.getD kz.toNat v_).v.getD iz.toNat v_),0<=x/\x<c.r)/\(∀x∈ah ((c.u.getD kz.toNat v_).v.getD iz.toNat v_),0<=x/\x<c.r)/\((c.u.getD kz.toNat v_).v.getD iz.toNat v_).args.length<=6:=bD (vF.v kz.toNat ao iz.toNat (show iz.toNat<(c.u.getD kz.toNat v_).v.length by omega));have rg:=a0.2.2;refine ab ?_;obtain⟨it,k3⟩:=Sv.view (SR.sv a9 b9);obtain⟨qd,qe,qf,qg,qh,n1⟩:=VInT.fx (k3 iz.toNat);refine aS 6 0 84 89 [] [(84,(sL U sw.length a_)),(89,(aG [((c.u.getD kz.toNat v_).v.getD iz.toNat v_).i.op,((c.u.getD kz.toNat v_).v.getD iz.toNat v_).i.a,((c.u.getD kz.toNat v_).v.getD iz.toNat v_).i.b,((c.u.getD kz.toNat v_).v.getD iz.toNat v_).i.c,((c.u.getD kz.toNat v_).v.getD iz.toNat v_).i.n,(sL (cA (it iz.toNat) 5) ((c.u.getD kz.toNat v_).v.getD iz.toNat v_).args.length (cK (it iz.toNat) 5))]))] (Hr_ 2 5 (Ha_ (Sv.ix (j:=iz) (SR.sv a9 b9)) (Hl_ 5 (qn 88 0 6 (VInT.vw (k3 iz.toNat)) V V V V) Hn_))) b9 V V fun _=>zc (mb.mu ex sw ((c.u.getD kz.toNat v_).v.getD iz.toNat v_) (HS.callOwn b9 (i:=7) V) g7 M M M M M n1 hT (by first|omega|exact fun x hx=>by have:=a0.1 x hx;omega|exact fun x hx=>by have:=a0.2.1 x hx;omega) (by first|omega|exact fun x hx=>by have:=a0.1 x hx;omega|exact fun x hx=>by have:=a0.2.1 x hx;omega) (by first|omega|exact fun x hx=>by have:=a0.1 x hx;omega|exact fun x hx=>by have:=a0.2.1 x hx;omega) (by first|omega|exact fun x hx=>by have:=a0.1 x hx;omega|exact fun x hx=>by have:=a0.2.1 x hx;omega)) ?_
    rintro _ r3 ⟨k7,pD,rI,oT,h3,rfl,hM,qV,qZ⟩;replace h3:=b9.bO h3;have rt:=OS.len' hM;refine ae 2 V (wU 1 [] 82 83 [12] [(12,(iI (iz-1)))] (vi (n:=iz-1)) V fun _=>?_);refine pn _ _ _ ?_ ⟨k7,iz-1,U,a_,pD,_,(fT (b3) oT),h3,(OS.norm hM),(agC V (agC V (agC V (agC V (agC V (agC V (agC V (agC (show Value.slice U sw.length a_=Value.slice U k7.length a_ by rw[OS.len' hM]) f_)))))))),V,M,(by rw[show(iz-1+1).toNat=iz.toNat by omega];exact tr_next M (by rw[show iz.toNat+1=(iz+1).toNat by omega];exact htr) X),M⟩;omega
   have h4: ∀r,aH sw r=true↔inS (c.u.getD kz.toNat v_) (bI Z kz.toNat) r:=fun r=>by have:=htr r;rwa [show(iz+1).toNat=0 by omega,a17]at this
   refine ab ?_;obtain⟨qC,ph⟩:=Sv.view (OS.sv A b9 (i:=1) V);obtain⟨qQ,oF,o7,fj,i1⟩:=SF.open a3 b9 (q:=2) (i:=kz.toNat) V M;have fj:OS pR (sL (E.getD kz.toNat v_).a (E.getD kz.toNat v_).n (E.getD kz.toNat v_).k) (aa.getD kz.toNat v_) oF:=fj;have ru:=OS.nlen fj;refine bK 5 0 91 95 [] [(94,(sL (E.getD kz.toNat v_).a (E.getD kz.toNat v_).n (E.getD kz.toNat v_).k)),(95,(sL U sw.length a_))] (Ha_ (Sv.ix (j:=kz) (OS.sv A b9 (i:=1) V)) (Hl_ 3 (ql 185 0 (vH (ph kz.toNat)) V V) Hn_)) K_ V fun _=>?_
   obtain⟨rK,b4,kx,oY,rc⟩:=OS.frz g7 o7 (i:=7) V;replace hT:=hT.mono b4;replace fj:=fj.mono b4;replace b5:=SF.mono b4 b5;refine kH (aP V V V) V V (mb.ft ex (aa.getD kz.toNat v_) sw (HS.callOwn kx (i:=9) V) fj oY hT M M) ?_;rintro _ r4 ⟨p7,k9,rE,rJ,dn,hD,rfl,hO,qW,q0,q2,q4⟩;replace hD:=kx.bO hD;replace A:=(A.mono b4).mono dn;replace N:=(N.mono b4).mono dn;replace b5:=SF.mono dn b5;have rv:=OS.len' hO;refine ae 1 V (wk_if 0 2 (v:=p7) V V V V (fun n3=>?_) (fun n3=>?_))
   ·try simp only[BS]at n3
    refine wT 2 [] 1 0 [6] [(6,true)] V fun _=>wU 1 [] 43 44 [7] [(7,(iI (kz-1)))] (vi (n:=kz-1)) V fun _=>?_
    obtain⟨oK,o8,kd⟩:=SF.shut i1 (fT (b4) dn) hD (q:=2) (m:=9) e_ V V hO;have qJ:=FAM.len kd;refine k4 _ _ _ ?_ ⟨T,Z,E,aa.set kz.toNat k9,kz-1,true,ap,aw,ax,ay,a4,a7,oK,hK,_,(fT (fT (fT (fT (fT (fT (f3) b6) dl) b2) b3) b4) dn),(HS.sub o8 (a01 _ _)),A,N,kd,b5,f_,V,(snd_in dv ao X X h4),M,(by(intro h;cases h;done)),(fun _=>cnt_t n5 ki (cnt_more M X X (use4 X X))),(by(intro h;cases h;done))⟩;omega
   refine wU 1 [] 43 44 [7] [(7,(iI (kz-1)))] (vi (n:=kz-1)) V fun _=>?_
   obtain⟨oL,o9,kg⟩:=SF.shut i1 (fT (b4) dn) hD (q:=2) (m:=9) e_ V V hO;have qK:=FAM.len kg;refine k4 _ _ _ ?_ ⟨T,Z,E,aa.set kz.toNat k9,kz-1,m2,ap,aw,ax,ay,a4,a7,oL,hK,_,(fT (fT (fT (fT (fT (fT (f3) b6) dl) b2) b3) b4) dn),(HS.sub o9 (a01 _ _)),A,N,kg,b5,f_,V,(snd_in dv ao X X h4),M,(keep0 X X n5),(keep1 X X ki),(by(intro h;exact sC (cl_step ao (fun b h1=>hcl h b M) n6 ly h4 (use3 X X) X)))⟩;omega
  refine pj _ _ _ ?_ ⟨g3,g4,E,aa,m2,ap,aw,ax,cc,c6,c9,dd,dk,_,(fT (hl) f3),f8,A,ez,ch,ci,f_,V,(f1),(fun h b hb=>hcl h b M hb)⟩;rw[sD];exact mea_lt ki (cnt_le f1.li f1.wi)
 refine wT 1 [] 97 98 [2,3] [(2,(sL bk go.length bt)),(3,(sL bl g2.length bz))] V fun _=>?_
 obtain⟨rL,hm,pc,oU⟩:=SF.freeze d2 ko (q:=2) V;replace em:=em.mono hm;replace aq:=SF.mono hm aq;obtain⟨rM,hn,pd,oZ,re⟩:=OS.frz em pc (i:=1) V;replace aq:=SF.mono hn aq;have f5:=SR.rows oZ (FAM.len d2) (fun i hi=>SR.mono hn (oU i hi));have pz:=SR.len' f5;have qm:=SR.norm f5;obtain⟨qo,hf,mx,lv⟩:=SF.freeze aq pd (q:=4) V;replace et:=((et.mono hm).mono hn).mono hf;obtain⟨qp,hg,mI,l4,qk⟩:=OS.frz et mx (i:=3) V;replace f5:=(f5.mono hf).mono hg;have hz:=SR.rows l4 (FAM.len aq) (fun i hi=>SR.mono hg (lv i hi));have nx:=SR.len' hz;have p2:=SR.norm hz;refine ak ⟨.inr V,_,V,bk,bt,d1,bl,bz,g8,_,(fT (fT (fT (fT (fT (hh) hl) hm) hn) hf) hg),(HS.forget mI),(by simp only[pz,nx];rfl),(SR.norm f5),(SR.norm hz),(anF_of snd (cl X))⟩
end mc
open mc
namespace md
variable (ex:FuncId) {F:Fz} {H:Heap} {R:List Fp}
structure Lst(l:List Int)(S:Nat->Prop):Prop where
 asc:Asc l
 mem: ∀x,x∈l↔0<=x/\S x.toNat
theorem lst_of{s S}(h: ∀r,aH s r=true↔S r):Lst (jV s) S:=⟨lst_asc,fun x=>by rw[lst_mem,h]⟩
structure BkF(c:VFnT)(x y:List (List Int)):Prop where
 lx:x.length=c.u.length
 ly:y.length=c.u.length
 hx: ∀b,b<c.u.length->Lst (x.getD b v_) (LIn c b)
 hy: ∀b,b<c.u.length->Lst (y.getD b v_) (nh c b)
def ptS(c:VFnT)(b i:Nat):Nat->Prop:=tr ((bH c b).v.drop i) (endS (bH c b) (nh c b))
structure PtF(c:VFnT)(b:Nat)(l:List (List Int)):Prop where
 len:l.length=(bH c b).v.length+1
 pt: ∀i,i<=(bH c b).v.length->Lst (l.getD i v_) (ptS c b i)
def acI(c:VFnT)(b i r:Nat):Prop:=((bH c b).v.getD i v_).i.op=6/\((ptS c b (i+1) r/\(r:Int)≠((bH c b).v.getD i v_).i.a)\/(r:Int)∈((bH c b).v.getD i v_).args)
def acS(c:VFnT)(r:Nat):Prop:= ∃b i,b<c.u.length/\i<(bH c b).v.length/\acI c b i r
theorem nZ{α:Type}{d:α}{l:List α}{x:α}{j:Nat}:(l++[x]).getD j d=if j=l.length then x else l.getD j d:=by
 rw[a03,a03,a2h];by_cases h:j<l.length
 ·rw[if_pos h,if_neg M]
 rw[if_neg h];by_cases A:j=l.length
 ·subst A;rw[if_pos V,a1R];rfl
 rw[if_neg A,a0J l_,a0J M]
theorem lst_snoc{l:List (List Int)}{S:Nat->Nat->Prop}{k:Nat}{x:List Int}(A:l.length=k)(h: ∀b,b<k->Lst (l.getD b v_) (S b))(E:Lst x (S k)): ∀b,b<k+1->Lst ((l++[x]).getD b v_) (S b):=fun b N=>by
 rw[nZ];split
 ·rename_i e;rw[A]at e;subst e;exact E
 exact h b M
theorem pt_start{c b n s z}(A:(bH c b).v.length<=n)(hs: ∀r,aH s r=true↔nh c b r)(h: ∀i,aH z i=(aH s i||decide ((i:Int)∈d7 (bH c b))))(r:Nat):aH z r=true↔ptS c b n r:=tr_start A hs h r
theorem blocks_c{bb bl}(c:VFnT)(hs:Hb H F H [] R)(hz:in64 c.m)(hA:in64 c.r)(bk:Sr F bb c.u bl)(hT:TB 37 tabC F)(al: ∀j,(c.u.getD j v_).v.length<=1073741824):kKt ex 67 [(aG [c.m,c.r,(sL bb c.u.length bl)])] H fun v H'=> ∃ax,∃(kx:Nat) (x:List (List Int)),∃ay,∃(ky:Nat) (y:List (List Int)),∃F',F.le F'/\Hb H F' H' [] R/\v= .tuple ⟨[sL ax x.length kx,sL ay y.length ky]⟩/\Sr F' ax x kx/\Sr F' ay y ky/\(cb c=true->BkF c x y)/\(cb c=false->x=[]/\y=[]):=by
 refine aB Tryz.func67 V V ?_;refine am 1 V ?_;refine ab ?_;refine aT (aN hs V V) V V ?_;rintro _ H2 _ ⟨b1,rfl,c8,_⟩;refine wTo 2 1 [] 2 3 [] [(2,N_),(3,N_)] V fun _=>?_
 refine ae 3 V ?_;refine ab ?_;let e6:Value:=(aG [c.m,c.r,(sL bb c.u.length bl)])
 refine aS 1 0 9 9 [] [(9,e6)] (Hr_ 0 0 Hn_) c8 V V fun _=>?_
 refine kH (aP V V V) V V (m3.kM ex c (HS.call c8) M M bk hT (by exact fun j=>a0e (al j) M)) ?_;rintro _ H5 ⟨r5,F5,b7,a9,rfl,rfl⟩;replace a9:=HS.back c8 V a9;replace hT:=hT.mono b7;replace bk:=bk.mono b7;refine bK 1 2 11 11 [] [(11,(!(cb c)))] Hn_ K_ V fun _=>?_
 refine ae 1 V ?_;refine wk_if 1 2 (v:=(!(cb c))) V V V V (fun c7=>?_) (fun c7=>?_)
 ·try simp only[BS]at c7
  have hv:=c7;refine wT 1 [] 2 3 [] [(2,N_),(3,N_)] V fun _=>?_
  refine ak ⟨.inr V,_,V,none,0,([]:List (List Int)),none,0,([]:List (List Int)),_,(b7),(HS.forget a9),V,(SR.nil:SR F5 N_ ([]:List (List Int))),(SR.nil:SR F5 N_ ([]:List (List Int))),(by first|exact fun h=>absurd (h.symm.trans hv) e_|exact fun _=>⟨M,M,fun b hb=>e4 b M,fun b hb=>e5 b M⟩),(by first|exact fun _=>⟨V,V⟩|exact fun h=>absurd (hv.symm.trans h) e_)⟩
 try simp only[BS]at c7
 have hv:=c7;have vF:=e9 hv;have kk:=vF.nb;refine ab ?_;refine aS 1 0 13 13 [] [(13,e6)] (Hr_ 0 0 Hn_) a9 V V fun _=>?_
 refine kH (aP V V V) V V (mc.analyze_c ex c (HS.call a9) M M bk hT (by first|assumption|exact fun j=>a0e (al j) M) (by first|assumption|exact fun j=>a0e (al j) M)) ?_;rintro _ hO ⟨b6,b8,N,ar,aw,A,g9,ci,b4,rfl,av,E,hV⟩;replace b4:=HS.back a9 V b4;refine bK 5 2 15 16 [4,5,12] [(4,(sL b6 N.length b8)),(5,(sL ar A.length aw))] Hn_ K_ V fun _=>?_
 refine ae 2 V ?_;have an:=(by assumption:AnF c _ _)
 have kg:=an.li;have ki:=an.lo;refine wT 3 [] 1 0 [6,7] [(6,N_),(7,N_)] V fun _=>?_
 refine wT 2 [] 17 19 [] [(18,(N.length:Int)),(19,(iI 0))] V fun _=>?_
 have f9:=HS.snoc b4;have go:=HS.snoc f9;refine aj (fun(mm:Nat) f H'=> ∃(xs:List (List Int)) (ys:List (List Int)) (k:Nat),∃T,∃(Z:Nat),∃a7 U,∃(aa:Nat),∃a8 F',g9.le F'/\Hb H F' H' [(fP b1 [c.m,c.r,(sL bb c.u.length bl)]),a7,a8] R/\OZ F' T xs Z a7/\OZ F' U ys aa a8/\aA f [(4,(sL b6 N.length b8)),(5,(sL ar A.length aw)),(6,(sL T xs.length Z)),(7,(sL U ys.length aa)),(18,(N.length:Int)),(19,(k:Int))]/\mm=c.u.length-k/\(xs.length=k)/\(ys.length=k)/\(k<=c.u.length)/\(∀b,b<k->Lst (xs.getD b v_) (LIn c b))/\(∀b,b<k->Lst (ys.getD b v_) (nh c b))) _ ⟨([]:List (List Int)),([]:List (List Int)),0,none,0,[],none,0,[],_,fR,go,(OS.nil:OS _ N_ ([]:List (List Int)) []),(OS.nil:OS _ N_ ([]:List (List Int)) []),f_,V,m_,m_,r_,(by intro b hb;omega),(by intro b hb;omega)⟩ ?_;rintro hF hS hP ⟨xs,ys,k,T,Z,a7,U,aa,a8,hG,a3,ag,a1,a_,c6,rfl,e1,e2,e3,e4,e5⟩ g4;refine au _ c6 (fun _=>?_);clear c6;replace hT:=(hT.mono ci).mono a3;replace av:=av.mono a3;replace E:=E.mono a3;refine am 1 V ?_;refine wT 2 [] 20 20 [] [(20,(decide ((k:Int)<(N.length:Int))))] V fun _=>?_
 refine wk_if 4 5 (v:=(decide ((k:Int)<(N.length:Int)))) V V V V (fun b9=>?_) (fun b9=>?_)
 ·try simp only[BS]at b9
  refine wT 1 [] 21 21 [8] [(8,(k:Int))] V fun _=>?_
  refine aC V ?_;obtain⟨ch,dk⟩:=Sv.view (SR.sv av ag);have hj:=fL (dk k);refine cN 5 22 26 [] [(22,(sL T xs.length Z)),(26,(sL (cA (ch k) 0) (N.getD k v_).length (cK (ch k) 0)))] (Ha_ (Sv.ix (j:=(k:Int)) (SR.sv av ag) M M) (Hl_ 4 (ql 185 0 (hc0 (vL (dk k) M)) V V) Hn_)) ag V V fun _=>?_
  refine aQ (W:=[]) (aP V V V) V V V (mb.list_c ex (N.getD k v_) (HS.call ag.log0) hj hT (by first|(rw[an.wi k M];have:=wd_le vF.r;omega)|(rw[an.wo k M];have:=wd_le vF.r;omega))) q_ ?_;rintro _ he ⟨fd,g5,h4,hY,hH,a4,ap,rfl,dt,rfl⟩;refine⟨Wr.did ap.log,fun g7 dn=>?_⟩;replace ap:=HS.back ag.log0 V ap;replace ap:=HS.lg ap ag dn;generalize ({he with log:=g7}:Heap)=hk at ap⊢;obtain⟨hI,a5,gt,f5,hB⟩:=OS.frz dt ap (i:=3) V;replace hT:=(hT.mono a4).mono a5;replace E:=(E.mono a4).mono a5;replace a1:=(a1.mono a4).mono a5;refine zld [jV (N.getD k v_)] gt V (RL.cs ⟨fd,g5,V,f5⟩ RL.nl) V fun hQ hW h1 hl f2 b5=>?_
  refine zad 1 a1 b5 (OS.sv f2 b5 (i:=4) V) V V V (by first|omega|(simp only[a02,a04,a07];omega)) q_ fun em ez hg hm b2 a2=>?_
  refine cN 4 30 33 [] [(30,(sL U ys.length aa)),(33,(.pointer (some ⟨sB (sL ar A.length aw),sO (sL ar A.length aw)+k *Rp.sz (List U64),none⟩)))] (Ha_ (Sv.ix (j:=(k:Int)) (SR.sv E a2) M M) Hn_) a2 V V fun _=>?_
  obtain⟨ht,f6,f1⟩:=Sv.at (SR.sv E a2.log0) (aO (x:=v_) (show k<A.length from by omega));obtain⟨dl,d1,rfl,d2⟩:=f6;refine bj (v:=(sL dl (A.getD k v_).length d1)) (id:= .l (sB (sL ar A.length aw))) (fp (i:=0) V V f1 V V) V V (gf V) (⟨.inl V,.inl V,.inl V,.inr trivial,.inr (SR.nin E b5 (i:=1) V (show k<A.length from by omega)),.inr trivial,.inr a0g,q_⟩) ?_;refine aQ (W:=[]) (aP V V V) V V V (mb.list_c ex (A.getD k v_) (HS.call a2.log0) d2 hT (by first|(rw[an.wi k M];have:=wd_le vF.r;omega)|(rw[an.wo k M];have:=wd_le vF.r;omega))) q_ ?_;rintro _ hf ⟨fi,g6,h5,h2,hJ,bt,aq,rfl,dv,rfl⟩;refine⟨Wr.did aq.log,fun g8 ds=>?_⟩;replace aq:=HS.back a2.log0 V aq;replace aq:=HS.lg aq a2 ds;generalize ({hf with log:=g8}:Heap)=hn at aq⊢;obtain⟨hK,bz,g1,f7,hC⟩:=OS.frz dv aq (i:=5) V;replace b2:=(b2.mono bt).mono bz;replace a_:=(((a_.mono a4).mono a5).mono bt).mono bz;refine zld [jV (A.getD k v_)] g1 V (RL.cs ⟨fi,g6,V,f7⟩ RL.nl) V fun hR hX h3 hp f3 c9=>?_
  refine zad 2 a_ c9 (OS.sv f3 c9 (i:=6) V) V V V (by first|omega|(simp only[a02,a04,a07];omega)) q_ fun et e0 hh hq f4 dd=>?_
  refine cN 2 1 0 [6,7] [(6,(sL em (xs++[jV (N.getD k v_)]).length ez)),(7,(sL et (ys++[jV (A.getD k v_)]).length e0))] Hn_ dd V V fun _=>?_
  refine aW 2 V ?_;refine wU 1 [] 19 19 [38] [(19,(iI ((k:Int)+1)))] (vi (n:=(k:Int)+1) M) V fun _=>?_
  refine g4 _ _ _ ?_ ⟨xs++[jV (N.getD k v_)],ys++[jV (A.getD k v_)],k+1,em,ez,hg,et,e0,hh,_,(fT (fT (fT (fT (a3) a4) a5) bt) bz),(HS.sub dd (a01 _ _)),b2,f4,f_,V,l_,l_,r_,(by exact lst_snoc e1 e4 (lst_of (an.hi k))),(by exact lst_snoc e2 e5 (lst_of (an.ho k M)))⟩;omega
 try simp only[BS]at b9
 refine wT 1 [] 2 3 [39,40] [(2,(sL T xs.length Z)),(3,(sL U ys.length aa))] V fun _=>?_
 obtain⟨hL,co,g2,b3,hD⟩:=OS.frz a1 ag (i:=1) V;replace a_:=a_.mono co;obtain⟨hM,c5,g3,f8,hE⟩:=OS.frz a_ g2 (i:=2) V;replace b3:=b3.mono c5;refine ak ⟨.inr V,_,V,T,Z,xs,U,aa,ys,_,(fT (fT (fT (fT (b7) ci) a3) co) c5),(HS.forget g3),V,b3,f8,(by first|exact fun h=>absurd (h.symm.trans hv) e_|exact fun _=>⟨M,M,fun b hb=>e4 b M,fun b hb=>e5 b M⟩),(by first|exact fun _=>⟨V,V⟩|exact fun h=>absurd (hv.symm.trans h) e_)⟩
end md
open md
namespace mf
theorem lin_lt{c}(v:VF c){b r}(h:LIn c b r):(r:Int)<c.r:=by
 refine h (fun _ r=>(r:Int)<c.r) fun b T r E=>?_
 have U: ∀(l:List VInT),(∀w∈l,eV c.m c.r w=true)->∀r,tr l (endS (bH c b) (outS c (fun _ r=>(r:Int)<c.r) b)) r->(r:Int)<c.r:=by
  intro l;induction l with
  |nil=>
   intro _ r E
   rcases E with⟨t,_,A⟩|A
   ·exact A
   unfold d7 at A
   split at A
   ·rename_i Z;rw[a0b]at A;have:=v.f b T Z;omega
   cases A
  |cons w l ih=>
   intro N r E
   rcases E with E|E
   ·exact((bD (N w (a0q ..))).1 _ E).2
   exact ih (fun x hx=>N x (a0i _ hx)) r E.1
 refine U _ (fun w N=>?_) r E;obtain⟨i,hi,rfl⟩:=a0x.1 N;have:=v.v b T i hi;rwa [a03,a06 hi]at this
theorem jj{c}(v:VF c){b r}(h:nh c b r):(r:Int)<c.r:=by obtain⟨t,_,A⟩:=h;exact lin_lt v A
theorem tr_lt{c}(v:VF c){b}(N:b<c.u.length): ∀(l:List VInT),(∀w∈l,w∈(bH c b).v)->∀r,tr l (endS (bH c b) (nh c b)) r->(r:Int)<c.r:=by
 intro l;induction l with
 |nil=>
  intro _ r E
  rcases E with A|A
  ·exact jj v A
  unfold d7 at A
  split at A
  ·rename_i Z;rw[a0b]at A;have:=v.f b N Z;omega
  cases A
 |cons w l ih=>
  intro T r E
  rcases E with E|E
  ·obtain⟨i,hi,U⟩:=a0x.1 (T w (a0q ..));have:=v.v b N i hi;rw[a03,a06 hi,a0O,U]at this;exact((bD this).1 _ E).2
  exact ih (fun x hx=>T x (a0i _ hx)) r E.1
theorem iH{c}(v:VF c){b i r}(A:b<c.u.length)(h:ptS c b i r):(r:Int)<c.r:=tr_lt v A _ (fun w E=>a2l E) r h
theorem lQ{m:Int}: ∀{l:List Int} (lo:Int),lo<=m->Asc l->(∀x∈l,lo<=x/\x<m)->(l.length:Int)<=m-lo
 | [],lo,h,_,_=>by simp;omega
 |x::l,lo,_,ha,hb=>by
  have A:=List.pairwise_cons.1 ha;have E:=hb x (a0q ..);have:=lQ (l:=l) (x+1) M A.2 fun y N=>⟨by have:=A.1 y N;omega,(hb y (a0i _ N)).2⟩
  rw[a04];omega
theorem Lst.len{l S}{m:Int}(h:Lst l S)(T:0<=m)(N: ∀r,S r->(r:Int)<m):(l.length:Int)<=m:=by
 have:=lQ 0 T h.asc fun x U=>by obtain⟨A,E⟩:=(h.mem x).1 U;have:=N _ E;exact⟨A,M⟩
 omega
theorem Lst.nil{S}(h: ∀r,¬S r):Lst [] S:=⟨List.Pairwise.nil,fun x=>⟨fun A=>(by cases A),fun A=>absurd A.2 (h _)⟩⟩
theorem Lst.addL{a l S}(h:Lst a S)(N: ∀x∈l,0<=x):Lst (cY a l) (fun r=>S r\/(r:Int)∈l):=⟨uni_asc h.asc,fun x=>by
 rw[nt,h.mem];constructor
 ·rintro(A|A)
  ·exact⟨A.1,.inl A.2⟩
  have:=N x A;exact⟨this,.inr (by rw[show((x.toNat:Nat):Int)=x by omega];exact A)⟩
 rintro⟨A,E|E⟩
 ·exact .inl ⟨A,E⟩
 exact .inr (by rwa [show((x.toNat:Nat):Int)=x by omega]at E)⟩
theorem Lst.union{a l S S'}(h:Lst a S)(k:Lst l S'):Lst (cY a l) (fun r=>S r\/S' r):=by
 have N:=Lst.addL (l:=l) h fun x T=>((k.mem x).1 T).1
 refine⟨N.asc,fun x=>?_⟩;rw[N.mem];constructor
 ·rintro⟨E,A|A⟩
  ·exact⟨E,.inl A⟩
  exact⟨E,.inr (((k.mem _).1 A).2)⟩
 rintro⟨E,A|A⟩
 ·exact⟨E,.inl A⟩
 exact⟨E,.inr ((k.mem _).2 ⟨M,A⟩)⟩
theorem ij{l}{n:Int}:im l n=true↔n∈l:=by
 unfold im;rw[List.any_eq_true];constructor
 ·rintro⟨x,A,E⟩;have:=of_decide_eq_true E;subst this;exact A
 exact fun h=>⟨n,h,decide_eq_true V⟩
theorem Lst.minus{a w S}(h:Lst a S):Lst (gN a w) (fun r=>S r/\(r:Int)∉w):=⟨h.asc.sublist List.filter_sublist,fun x=>by
 unfold gN;rw[a22,h.mem];simp only[a0F,a1n,ne_eq,ij];constructor
 ·rintro⟨⟨A,E⟩,N⟩;exact⟨A,E,by rw[show((x.toNat:Nat):Int)=x by omega];exact N⟩
 rintro⟨A,E,N⟩;exact⟨⟨A,E⟩,by rwa [show((x.toNat:Nat):Int)=x by omega]at N⟩⟩
theorem pt_in{c b}(A:b<c.u.length)(r:Nat):ptS c b 0 r↔LIn c b r:=by rw[LIn_iff A];exact Iff.rfl
end mf
end Go.Proofs.YtgdggmlghemecaaGreatDoor
