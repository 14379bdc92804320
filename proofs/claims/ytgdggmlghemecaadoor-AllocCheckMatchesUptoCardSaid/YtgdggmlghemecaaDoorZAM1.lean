/-
Instructions of virtual code: the table, their description, which are allowed; the program and the reference. No condition but that the table lies as laid.
-/
import Derived.Test.YtgdggmlghemecaaDoorZARD
import Derived.Test.YtgdggmlghemecaaDoorChecked
noncomputable section
namespace Go.Proofs.YtgdggmlghemecaaDoor.m1
open Go.R
set_option maxRecDepth 10000
set_option linter.unusedVariables false
set_option linter.unusedSimpArgs false
variable (ex:FuncId) {F:Fz} {H:Heap} {R:List Fp}
theorem ql{H:Heap}{b o:Nat}{cs:List Value}{w:Value}(t:TypeId)(i:Nat)(hc:HC H.get b o cs)(z:aggOf Tryd.prog t=some false)(A:cs[i]?=some w):LDv Tryd.prog H t (.pointer (some ⟨b,o+i,none⟩)) w:=ld1 hc z A
theorem qn{H:Heap}{b o:Nat}{cs l:List Value}(t:TypeId)(i n:Nat)(hc:HC H.get b o cs)(z:aggOf Tryd.prog t=some true)(hs:cY Tryd.prog t=some n)(E:Nat.ble (i+n) cs.length=true)(A:d6 (ed cs i) n=l):LDv Tryd.prog H t (.pointer (some ⟨b,o+i,none⟩)) (.agg ⟨l⟩):=ldN hc z hs E A
structure InfT where
 name:Str
 form:Int
 ra:Bool
 wa:Bool
 rb:Bool
 mt:Bool
 words:Int
 deriving Inhabited
instance :Rp InfT where
 sz:=7
 rep F cs x:=cs=[tX x.name.b,iI x.form,.bool x.ra,.bool x.wa,.bool x.rb,.bool x.mt,iI x.words]/\in64 x.form/\in64 x.words
 len:=by rintro F cs x ⟨rfl,_⟩;rfl
 one:=by rintro F cs x ⟨rfl,_⟩;rfl
 mono:=by intro F F' cs x _ h;exact h
theorem InfT.vw{F:Fz}{get:Nat->Option AObj}{v:Value}{cf:Nat->List Value}{j:Nat}{l:List InfT}(h:VW F get v l cf j)(z:j<l.length:=by first|(dsimp only;omega)|omega):HC get (sB v) (sO v+j *Rp.sz InfT) [tX (l.getD j default).name.b,iI (l.getD j default).form,.bool (l.getD j default).ra,.bool (l.getD j default).wa,.bool (l.getD j default).rb,.bool (l.getD j default).mt,iI (l.getD j default).words]:=by obtain⟨⟨E,_⟩,A⟩:=h.1 default z;rw[show cf j=_ from E]at A;exact A
theorem InfT.fx{F:Fz}{get:Nat->Option AObj}{v:Value}{cf:Nat->List Value}{j:Nat}{l:List InfT}(h:VW F get v l cf j):in64 (l.getD j default).form/\in64 (l.getD j default).words:=by
 rcases a0j j l.length with hj|hj
 ·obtain⟨⟨N,A,E⟩,_⟩:=h.1 default hj;exact⟨A,E⟩
 rw[cV hj];exact⟨by decide,by decide⟩
theorem jl{B:Base}{F:Fz}{L R:List Fp}{H:Heap}(hs:HS B F H L R){b:Nat}{cs:List Value}{w:Value}(t:TypeId)(i j:Nat)(z:aggOf Tryd.prog t=some false)(h:L[j]?=some [(b,.cells cs none false)])(A:cs[i]?=some w): ∀H,JJ B F L R H->LDv Tryd.prog H t (pT b i) w:=jl0 hs t i j z h A
theorem jn{B:Base}{F:Fz}{L R:List Fp}{H:Heap}(hs:HS B F H L R){b:Nat}{cs l:List Value}(t:TypeId)(i n j:Nat)(z:aggOf Tryd.prog t=some true)(N:cY Tryd.prog t=some n)(h:L[j]?=some [(b,.cells cs none false)])(E:Nat.ble (i+n) cs.length=true)(A:d6 (ed cs i) n=l): ∀H,JJ B F L R H->LDv Tryd.prog H t (pT b i) (.agg ⟨l⟩):=jn0 hs t i n j z N h E A
structure InsT where
 op:Int
 a:Int
 b:Int
 c:Int
 n:Int
 deriving Inhabited,DecidableEq
instance :Rp InsT where
 sz:=5
 rep F cs x:=cs=[iI x.op,iI x.a,iI x.b,iI x.c,iI x.n]/\in64 x.op/\in64 x.a/\in64 x.b/\in64 x.c/\in64 x.n
 len:=by rintro F cs x ⟨rfl,_⟩;rfl
 one:=by rintro F cs x ⟨rfl,_⟩;rfl
 mono:=by intro F F' cs x _ h;exact h
structure VInT where
 i:InsT
 args:(List Int)
 deriving Inhabited,DecidableEq
instance :Rp VInT where
 sz:=6
 rep F cs x:= ∃a5 k5,cs=[iI x.i.op,iI x.i.a,iI x.i.b,iI x.i.c,iI x.i.n,sL a5 x.args.length k5]/\in64 x.i.op/\in64 x.i.a/\in64 x.i.b/\in64 x.i.c/\in64 x.i.n/\SR F (sL a5 x.args.length k5) x.args
 len:=by rintro F cs x ⟨a5,k5,rfl,_⟩;rfl
 one:=by rintro F cs x ⟨a5,k5,rfl,_⟩;rfl
 mono:=by rintro F F' cs x hF ⟨a5,k5,rfl,h0,h1,h2,h3,h4,h5⟩;exact⟨a5,k5,V,h0,h1,h2,h3,h4,h5.mono hF⟩
theorem VInT.vw{F:Fz}{get:Nat->Option AObj}{v:Value}{cf:Nat->List Value}{j:Nat}{l:List VInT}(h:VW F get v l cf j)(z:j<l.length:=by first|(dsimp only;omega)|omega):HC get (sB v) (sO v+j *Rp.sz VInT) [iI (l.getD j default).i.op,iI (l.getD j default).i.a,iI (l.getD j default).i.b,iI (l.getD j default).i.c,iI (l.getD j default).i.n,sL (cA (cf j) 5) (l.getD j default).args.length (cK (cf j) 5)]:=by obtain⟨⟨N,T,E,_⟩,A⟩:=h.1 default z;rw[show cf j=_ from E]at A⊢;exact A
theorem VInT.fx{F:Fz}{get:Nat->Option AObj}{v:Value}{cf:Nat->List Value}{j:Nat}{l:List VInT}(h:VW F get v l cf j):in64 (l.getD j default).i.op/\in64 (l.getD j default).i.a/\in64 (l.getD j default).i.b/\in64 (l.getD j default).i.c/\in64 (l.getD j default).i.n/\SR F (sL (cA (cf j) 5) (l.getD j default).args.length (cK (cf j) 5)) (l.getD j default).args:=by
 rcases a0j j l.length with hj|hj
 ·obtain⟨⟨z,k5,A,E,N,T,U,a_,Z⟩,_⟩:=h.1 default hj;rw[show cf j=_ from A];exact⟨E,N,T,U,a_,Z⟩
 rw[cV hj,h.2 hj];exact⟨by decide,by decide,by decide,by decide,by decide,SR.nil⟩
structure BlkT where
 ins:(List VInT)
 fin:Int
 reg:Int
 tgt:Int
 els:Int
 deriving Inhabited,DecidableEq
instance :Rp BlkT where
 sz:=5
 rep F cs x:= ∃a0 k0,cs=[sL a0 x.ins.length k0,iI x.fin,iI x.reg,iI x.tgt,iI x.els]/\in64 x.fin/\in64 x.reg/\in64 x.tgt/\in64 x.els/\SR F (sL a0 x.ins.length k0) x.ins
 len:=by rintro F cs x ⟨a0,k0,rfl,_⟩;rfl
 one:=by rintro F cs x ⟨a0,k0,rfl,_⟩;rfl
 mono:=by rintro F F' cs x hF ⟨a0,k0,rfl,h0,h1,h2,h3,h4⟩;exact⟨a0,k0,V,h0,h1,h2,h3,h4.mono hF⟩
theorem BlkT.vw{F:Fz}{get:Nat->Option AObj}{v:Value}{cf:Nat->List Value}{j:Nat}{l:List BlkT}(h:VW F get v l cf j)(z:j<l.length:=by first|(dsimp only;omega)|omega):HC get (sB v) (sO v+j *Rp.sz BlkT) [sL (cA (cf j) 0) (l.getD j default).ins.length (cK (cf j) 0),iI (l.getD j default).fin,iI (l.getD j default).reg,iI (l.getD j default).tgt,iI (l.getD j default).els]:=by obtain⟨⟨N,T,E,_⟩,A⟩:=h.1 default z;rw[show cf j=_ from E]at A⊢;exact A
theorem BlkT.fx{F:Fz}{get:Nat->Option AObj}{v:Value}{cf:Nat->List Value}{j:Nat}{l:List BlkT}(h:VW F get v l cf j):in64 (l.getD j default).fin/\in64 (l.getD j default).reg/\in64 (l.getD j default).tgt/\in64 (l.getD j default).els/\SR F (sL (cA (cf j) 0) (l.getD j default).ins.length (cK (cf j) 0)) (l.getD j default).ins:=by
 rcases a0j j l.length with hj|hj
 ·obtain⟨⟨Z,z,A,E,N,T,U,a_⟩,_⟩:=h.1 default hj;rw[show cf j=_ from A];exact⟨E,N,T,U,a_⟩
 rw[cV hj,h.2 hj];exact⟨by decide,by decide,by decide,by decide,SR.nil⟩
structure VFnT where
 params:Int
 regs:Int
 blocks:(List BlkT)
 deriving Inhabited,DecidableEq
instance :Rp VFnT where
 sz:=3
 rep F cs x:= ∃a2 k2,cs=[iI x.params,iI x.regs,sL a2 x.blocks.length k2]/\in64 x.params/\in64 x.regs/\SR F (sL a2 x.blocks.length k2) x.blocks
 len:=by rintro F cs x ⟨a2,k2,rfl,_⟩;rfl
 one:=by rintro F cs x ⟨a2,k2,rfl,_⟩;rfl
 mono:=by rintro F F' cs x hF ⟨a2,k2,rfl,h0,h1,h2⟩;exact⟨a2,k2,V,h0,h1,h2.mono hF⟩
structure DigT where
 n:Int
 deriving Inhabited,DecidableEq
instance :Rp DigT where
 sz:=1
 rep F cs x:=cs=[iI x.n]/\in64 x.n
 len:=by rintro F cs x ⟨rfl,_⟩;rfl
 one:=by rintro F cs x ⟨rfl,_⟩;rfl
 mono:=by intro F F' cs x _ h;exact h
def au(n m:Int):Int:=bif decide (Int.tmod n m<0) then Int.tmod n m+m else Int.tmod n m
theorem pick_rng{n m:Int}(z:0<m):0<=au n m/\au n m<m:=by
 have A: -m<n.tmod m:=Int.lt_tmod_of_pos n z;have E:n.tmod m<m:=Int.tmod_lt_of_pos n z;unfold au;by_cases hc:n.tmod m<0
 ·simp only[decide_eq_true hc,cond_true];omega
 simp only[decide_eq_false hc,cond_false];omega
theorem cm(n m:Int):0<m->0<=au n m/\au n m<m:=pick_rng
def tabL:List InfT:=[⟨⟨[110,111,112]⟩,1,false,false,false,false,1⟩,⟨⟨[114,101,116]⟩,1,false,false,false,false,1⟩,⟨⟨[116,105,99,107]⟩,1,false,false,false,false,1⟩,⟨⟨[116,114,97,112]⟩,8,false,false,false,true,1⟩,⟨⟨[106,109,112]⟩,8,false,false,false,false,1⟩,⟨⟨[99,97,108,108]⟩,5,false,false,false,false,1⟩,⟨⟨[106,122]⟩,5,true,false,false,false,1⟩,⟨⟨[106,110,122]⟩,5,true,false,false,false,1⟩,⟨⟨[111,117,116]⟩,2,true,false,false,false,1⟩,⟨⟨[109,111,118]⟩,3,false,true,true,false,1⟩,⟨⟨[99,109,111,118,122]⟩,4,true,true,true,false,1⟩,⟨⟨[99,109,111,118,110,122]⟩,4,true,true,true,false,1⟩,⟨⟨[108,100,105]⟩,5,false,true,false,false,1⟩,⟨⟨[108,100,99]⟩,6,false,true,false,false,3⟩,⟨⟨[110,101,103]⟩,2,true,true,false,false,1⟩,⟨⟨[110,111,116]⟩,2,true,true,false,false,1⟩,⟨⟨[97,100,100]⟩,3,true,true,true,false,1⟩,⟨⟨[115,117,98]⟩,3,true,true,true,false,1⟩,⟨⟨[109,117,108]⟩,3,true,true,true,false,1⟩,⟨⟨[100,105,118]⟩,3,true,true,true,true,1⟩,⟨⟨[114,101,109]⟩,3,true,true,true,true,1⟩,⟨⟨[97,110,100]⟩,3,true,true,true,false,1⟩,⟨⟨[111,114]⟩,3,true,true,true,false,1⟩,⟨⟨[120,111,114]⟩,3,true,true,true,false,1⟩,⟨⟨[115,104,108]⟩,3,true,true,true,false,1⟩,⟨⟨[115,104,114]⟩,3,true,true,true,false,1⟩,⟨⟨[115,97,114]⟩,3,true,true,true,false,1⟩,⟨⟨[101,113]⟩,3,true,true,true,false,1⟩,⟨⟨[110,101]⟩,3,true,true,true,false,1⟩,⟨⟨[108,116]⟩,3,true,true,true,false,1⟩,⟨⟨[108,101]⟩,3,true,true,true,false,1⟩,⟨⟨[108,116,117]⟩,3,true,true,true,false,1⟩,⟨⟨[97,100,100,105]⟩,5,true,true,false,false,1⟩,⟨⟨[108,100]⟩,7,false,true,true,true,1⟩,⟨⟨[115,116]⟩,7,true,false,true,true,1⟩,⟨⟨[108,100,115]⟩,5,false,true,false,false,1⟩,⟨⟨[115,116,115]⟩,5,true,false,false,false,1⟩]
def infC(x:InfT):List Value:=[tX x.name.b,iI x.form,.bool x.ra,.bool x.wa,.bool x.rb,.bool x.mt,iI x.words]
def tabC:List Value:=tabL.flatMap infC
abbrev kKt(e:FuncId):=C Tryd.prog 1 (KT 60 e 37 tabC)
theorem rl_of{α:Type} [Rp α]{F:Fz}{c:α->List Value}: ∀(l:List α),(∀x∈l,Rp.rep F (c x) x)->RL F (l.flatMap c) l
 | [],_=>rfl
 |x::l,h=>⟨c x,l.flatMap c,V,h x (a0G ..),rl_of l fun y z=>h y (a0i _ z)⟩
theorem tab_rng: ∀x∈tabL,in64 x.form/\in64 x.words:=by decide
theorem tab_sr{F:Fz}(h:TB 37 tabC F):SR F (sL (some ⟨1,0,none⟩) tabL.length 37) tabL:=h.sr V (rl_of tabL fun x z=>⟨V,tab_rng x z⟩)
def aW(op:Int):InfT:=if 1<=op/\op<=37 then tabL.getD (op-1).toNat default else default
def infO(op:Int):Bool:=decide (1<=op/\op<=37)
def cI(op:Int):Int:=if op=1\/op=2\/op=3 then 1 else if op=9\/op=15\/op=16 then 2 else if op=10\/(17<=op/\op<=32) then 3 else if op=11\/op=12 then 4 else if op=6\/op=7\/op=8\/op=13\/op=33\/op=36\/op=37 then 5 else if op=14 then 6 else if op=34\/op=35 then 7 else if op=4\/op=5 then 8 else 0
def alV(op:Int):Bool:=decide (op=3\/op=6\/(9<=op/\op<=13)\/(15<=op/\op<=35)\/op=38)
def namesL:List Str:=[⟨[]⟩,⟨[110,111,112]⟩,⟨[114,101,116]⟩,⟨[116,105,99,107]⟩,⟨[116,114,97,112]⟩,⟨[106,109,112]⟩,⟨[99,97,108,108]⟩,⟨[106,122]⟩,⟨[106,110,122]⟩,⟨[111,117,116]⟩,⟨[109,111,118]⟩,⟨[99,109,111,118,122]⟩,⟨[99,109,111,118,110,122]⟩,⟨[108,100,105]⟩,⟨[108,100,99]⟩,⟨[110,101,103]⟩,⟨[110,111,116]⟩,⟨[97,100,100]⟩,⟨[115,117,98]⟩,⟨[109,117,108]⟩,⟨[100,105,118]⟩,⟨[114,101,109]⟩,⟨[97,110,100]⟩,⟨[111,114]⟩,⟨[120,111,114]⟩,⟨[115,104,108]⟩,⟨[115,104,114]⟩,⟨[115,97,114]⟩,⟨[101,113]⟩,⟨[110,101]⟩,⟨[108,116]⟩,⟨[108,101]⟩,⟨[108,116,117]⟩,⟨[97,100,100,105]⟩,⟨[108,100]⟩,⟨[115,116]⟩,⟨[108,100,115]⟩,⟨[115,116,115]⟩]
theorem ms{op:Int}(h: ¬(1<=op/\op<=37)):(⟨⟨[]⟩,0,false,false,false,false,0⟩:InfT)=aW op:=by unfold aW;rw[if_neg h];rfl
theorem infV_at{op:Int}(h:1<=op/\op<=37):tabL.getD (op-1).toNat default=aW op:=by unfold aW;rw[if_pos h]
theorem mu{op:Int}(h: ¬(1<=op/\op<=37)):infO op=false:=decide_eq_false h
theorem mw{op:Int}(h:1<=op/\op<=37):infO op=true:=decide_eq_true h
theorem form_imp(op:Int):(cI op=0/\¬(1<=op/\op<=37))\/(1<=cI op/\cI op<=8/\1<=op/\op<=37):=by unfold cI;(repeat' split)<;>omega
instance :DecidableEq Str:=fun a b=>decidable_of_iff (a.b=b.b) ⟨fun h=>by cases a;cases b;simp_all,fun h=>by rw[h]⟩
instance :DecidableEq InfT:=fun a b=>decidable_of_iff ((a.name=b.name/\a.form=b.form/\a.ra=b.ra)/\(a.wa=b.wa/\a.rb=b.rb/\a.mt=b.mt/\a.words=b.words)) ⟨fun h=>by cases a;cases b;simp_all,fun h=>by rw[h];simp⟩
theorem ex37{op:Int}(z:1<=op/\op<=37): ∃k:Fin 37,op=(k.val:Int)+1:=⟨⟨(op-1).toNat,by omega⟩,by show op=((op-1).toNat:Int)+1;omega⟩
theorem bJ{op k r:Int}(h:op=k)(A:r=cI k):r=cI op:=by rw[h];exact A
theorem cM{op:Int}{b:Bool}(h:b=true↔(op=3\/op=6\/(9<=op/\op<=13)\/(15<=op/\op<=35)\/op=38)):b=alV op:=by unfold alV;cases b<;>simp_all
theorem pick_c(n:Int)(m:Int)(H:Heap)(z:0<m/\m<9223372036854775808):kKt ex 5 [(iI n),(iI m)] H fun v H'=> ∃(r:Int),H'=H/\v=iI r/\r=au n m:=by
 have N: -m<n.tmod m:=Int.lt_tmod_of_pos n z.1;have T:n.tmod m<m:=Int.tmod_lt_of_pos n z.1;refine aC Tryd.func5 V V ?_;refine aj 1 V ?_;refine wT 2 [] 4 4 [] [(4,(iI 0))] V fun _=>?_
 refine wU 3 [] 5 7 [0] [(0,(iI (Int.tmod n m)))] (show m≠0 from by omega) V fun _=>?_
 refine wT 1 [] 8 9 [] [(9,(.bool (decide (Int.tmod n m<0))))] V fun _=>?_
 refine az 0 2 (v:=(decide (Int.tmod n m<0))) V V V V (fun A=>?_) (fun A=>?_)
 ·have E:=A;try simp only[BS]at E
  refine wU 2 [] 10 12 [0] [(0,(iI ((Int.tmod n m)+m)))] (vi (n:=(Int.tmod n m)+m) M) V fun _=>?_
  refine wT 1 [] 4 4 [13] [(4,(iI ((Int.tmod n m)+m)))] V fun _=>?_
  refine am ⟨.inr V,_,V,(Int.tmod n m)+m,V,V,(by simp only[au,A,cond_true,cond_false])⟩
 have E:=A;try simp only[BS]at E
 refine wT 1 [] 4 4 [13] [(4,(iI (Int.tmod n m)))] V fun _=>?_
 refine am ⟨.inr V,_,V,Int.tmod n m,V,V,(by simp only[au,A,cond_true,cond_false])⟩
theorem cw(n:Int)(m:Int)(H:Heap)(z:0<m/\m<9223372036854775808):kKt ex 5 [(iI n),(iI m)] H fun v H'=>v=(iI (au n m))/\H'=H:=
 cq (pick_c ex n m H z) (by rintro _ _ ⟨_,rfl,rfl,rfl⟩;exact⟨V,V⟩)
theorem mInfo_c(op:Int)(hs:HS (.of H []) F H [] R)(ai:in64 op)(z:TB 37 tabC F):kKt ex 83 [(iI op)] H fun v H'=> ∃(x:InfT) (o:Bool) (F':Fz),Fz.le F F'/\HS (.of H []) F' H' [] R/\v= .tuple ⟨[.agg ⟨[tX x.name.b,iI x.form,.bool x.ra,.bool x.wa,.bool x.rb,.bool x.mt,iI x.words]⟩,.bool o]⟩/\in64 x.form/\in64 x.words/\x=aW op/\o=infO op:=by
 have tl:tabL.length=37:=rfl;refine aC Tryd.func83 V V ?_;refine aj 1 V ?_;refine aa ?_;refine zn hs V fun b1 H2 A=>?_
 refine wa (.bool false) V V V ?_;refine ae 3 V ?_;refine wT 1 [] 4 9 [] [(9,(.bool ((decide (op<1))||(decide ((37:Int)<op)))))] V fun _=>?_
 refine az 1 2 (v:=((decide (op<1))||(decide ((37:Int)<op)))) V V V V (fun U=>?_) (fun U=>?_)
 ·try simp only[BS]at U
  refine sgr 1 3 3 [10] [(3,(.bool false))] (Hr_ 1 0 Hn_) A V V fun ag H5 E=>?_
  refine am ⟨.inr V,_,(rC V (ldVN V V (g_ E V) V) (rT V rN)),(⟨⟨[]⟩,0,false,false,false,false,0⟩:InfT),false,_,fR,(HS.forget E),V,M,M,(by first|exact ms (op:=op) M|exact infV_at (op:=op) M),(by first|exact(mu (op:=op) M).symm|exact(mw (op:=op) M).symm)⟩
 try simp only[BS]at U
 obtain⟨ad,T⟩:=Sv.view (SR.sv (tab_sr z) A);obtain⟨a_,Z⟩:=InfT.fx (T (op-1).toNat);refine sgr 1 11 15 [3] [(3,(.bool true))] (Hl_ 0 (ql 123 0 (TB.hc (z.heap A)) V V) (Ha_ (vi (n:=op-1) M) (Ha_ (Sv.ix (j:=op-1) (SR.sv (tab_sr z) A) M M) (Hl_ 4 (qn 79 0 7 (InfT.vw (T (op-1).toNat) M) V V V V) (Hr_ 5 0 Hn_))))) A V V fun al H8 N=>?_
 refine am ⟨.inr V,_,(rC V (ldVN V V (g_ N V) V) (rT V rN)),(⟨⟨(tabL.getD (op-1).toNat default).name.b⟩,(tabL.getD (op-1).toNat default).form,(tabL.getD (op-1).toNat default).ra,(tabL.getD (op-1).toNat default).wa,(tabL.getD (op-1).toNat default).rb,(tabL.getD (op-1).toNat default).mt,(tabL.getD (op-1).toNat default).words⟩:InfT),true,_,fR,(HS.forget N),V,M,M,(by first|exact ms (op:=op) M|exact infV_at (op:=op) M),(by first|exact(mu (op:=op) M).symm|exact(mw (op:=op) M).symm)⟩
theorem isBin_c(op:Int)(H:Heap):kKt ex 71 [(iI op)] H fun v H'=> ∃(r:Bool),H'=H/\v= .bool r/\r=decide (17<=op/\op<=32):=by
 refine aC Tryd.func71 V V ?_;refine aj 1 V ?_;refine wT 2 [] 2 2 [] [(2,(.bool false))] V fun _=>?_
 refine wT 1 [] 2 8 [] [(2,(.bool ((decide ((17:Int)<=op))&&(decide (op<=32)))))] V fun _=>?_
 refine am ⟨.inr V,_,V,((decide ((17:Int)<=op))&&(decide (op<=32))),V,V,(by rw[a0o];simp)⟩
theorem ic(op:Int)(H:Heap):kKt ex 71 [(iI op)] H fun v H'=>v=(.bool (decide (17<=op/\op<=32)))/\H'=H:=
 cq (isBin_c ex op H) (by rintro _ _ ⟨_,rfl,rfl,rfl⟩;exact⟨V,V⟩)
theorem form_c(op:Int)(H:Heap):kKt ex 69 [(iI op)] H fun v H'=> ∃(r:Int),H'=H/\v=iI r/\r=cI op:=by
 refine aC Tryd.func69 V V ?_;refine aj 1 V ?_;refine wT 3 [] 2 2 [] [(2,(iI 0))] V fun _=>?_
 refine wT 4 [] 3 3 [] [(3,(iI op))] V fun _=>?_
 refine wT 1 [] 4 5 [] [(4,(.bool (op==1)))] V fun _=>?_
 refine az 1 1 (v:=(op==1)) V V V V (fun ar=>?_) (fun ar=>?_)
 ·have c4:=ar;try simp only[BS]at c4
  refine bm 1 (v:=(op==1)) V ar V V ?_;refine wT 1 [] 2 2 [] [(2,(iI 1))] V fun _=>?_
  refine am ⟨.inr V,_,V,1,V,V,(by first|exact bJ X e_|(unfold cI;(repeat' split)<;>omega))⟩
 have c4:=ar;try simp only[BS]at c4
 refine wT 1 [] 4 6 [] [(4,(.bool (op==2)))] V fun _=>?_
 refine az 1 0 (v:=(op==2)) V V V V (fun av=>?_) (fun av=>?_)
 ·have c7:=av;try simp only[BS]at c7
  refine bm 1 (v:=(op==2)) V av V V ?_;refine wT 1 [] 2 2 [] [(2,(iI 1))] V fun _=>?_
  refine am ⟨.inr V,_,V,1,V,V,(by first|exact bJ X e_|(unfold cI;(repeat' split)<;>omega))⟩
 have c7:=av;try simp only[BS]at c7
 refine wT 1 [] 4 7 [] [(4,(.bool (op==3)))] V fun _=>?_
 refine az 1 2 (v:=(op==3)) V V V V (fun aw=>?_) (fun aw=>?_)
 ·try simp only[BS]at aw
  refine wT 1 [] 2 2 [] [(2,(iI 1))] V fun _=>?_
  refine am ⟨.inr V,_,V,1,V,V,(by first|exact bJ X e_|(unfold cI;(repeat' split)<;>omega))⟩
 try simp only[BS]at aw
 refine wT 1 [] 8 9 [] [(8,(.bool (op==4)))] V fun _=>?_
 refine az 1 0 (v:=(op==4)) V V V V (fun A=>?_) (fun A=>?_)
 ·have ax:=A;try simp only[BS]at ax
  refine bm 1 (v:=(op==4)) V A V V ?_;refine wT 1 [] 2 2 [] [(2,(iI 8))] V fun _=>?_
  refine am ⟨.inr V,_,V,8,V,V,(by first|exact bJ X e_|(unfold cI;(repeat' split)<;>omega))⟩
 have ax:=A;try simp only[BS]at ax
 refine wT 1 [] 8 10 [] [(8,(.bool (op==5)))] V fun _=>?_
 refine az 1 2 (v:=(op==5)) V V V V (fun ay=>?_) (fun ay=>?_)
 ·try simp only[BS]at ay
  refine wT 1 [] 2 2 [] [(2,(iI 8))] V fun _=>?_
  refine am ⟨.inr V,_,V,8,V,V,(by first|exact bJ X e_|(unfold cI;(repeat' split)<;>omega))⟩
 try simp only[BS]at ay
 refine wT 1 [] 11 12 [] [(11,(.bool (op==6)))] V fun _=>?_
 refine az 1 1 (v:=(op==6)) V V V V (fun E=>?_) (fun E=>?_)
 ·have a0:=E;try simp only[BS]at a0
  refine bm 1 (v:=(op==6)) V E V V ?_;refine wT 1 [] 2 2 [] [(2,(iI 5))] V fun _=>?_
  refine am ⟨.inr V,_,V,5,V,V,(by first|exact bJ X e_|(unfold cI;(repeat' split)<;>omega))⟩
 have a0:=E;try simp only[BS]at a0
 refine wT 1 [] 11 13 [] [(11,(.bool (op==7)))] V fun _=>?_
 refine az 1 1 (v:=(op==7)) V V V V (fun N=>?_) (fun N=>?_)
 ·have a1:=N;try simp only[BS]at a1
  refine bm 1 (v:=(op==7)) V N V V ?_;refine wT 1 [] 2 2 [] [(2,(iI 5))] V fun _=>?_
  refine am ⟨.inr V,_,V,5,V,V,(by first|exact bJ X e_|(unfold cI;(repeat' split)<;>omega))⟩
 have a1:=N;try simp only[BS]at a1
 refine wT 1 [] 11 14 [] [(11,(.bool (op==8)))] V fun _=>?_
 refine az 1 1 (v:=(op==8)) V V V V (fun T=>?_) (fun T=>?_)
 ·have a2:=T;try simp only[BS]at a2
  refine bm 1 (v:=(op==8)) V T V V ?_;refine wT 1 [] 2 2 [] [(2,(iI 5))] V fun _=>?_
  refine am ⟨.inr V,_,V,5,V,V,(by first|exact bJ X e_|(unfold cI;(repeat' split)<;>omega))⟩
 have a2:=T;try simp only[BS]at a2
 refine wT 1 [] 11 15 [] [(11,(.bool (op==13)))] V fun _=>?_
 refine az 1 1 (v:=(op==13)) V V V V (fun U=>?_) (fun U=>?_)
 ·have a3:=U;try simp only[BS]at a3
  refine bm 1 (v:=(op==13)) V U V V ?_;refine wT 1 [] 2 2 [] [(2,(iI 5))] V fun _=>?_
  refine am ⟨.inr V,_,V,5,V,V,(by first|exact bJ X e_|(unfold cI;(repeat' split)<;>omega))⟩
 have a3:=U;try simp only[BS]at a3
 refine wT 1 [] 11 16 [] [(11,(.bool (op==33)))] V fun _=>?_
 refine az 1 1 (v:=(op==33)) V V V V (fun a_=>?_) (fun a_=>?_)
 ·have a4:=a_;try simp only[BS]at a4
  refine bm 1 (v:=(op==33)) V a_ V V ?_;refine wT 1 [] 2 2 [] [(2,(iI 5))] V fun _=>?_
  refine am ⟨.inr V,_,V,5,V,V,(by first|exact bJ X e_|(unfold cI;(repeat' split)<;>omega))⟩
 have a4:=a_;try simp only[BS]at a4
 refine wT 1 [] 11 17 [] [(11,(.bool (op==36)))] V fun _=>?_
 refine az 1 0 (v:=(op==36)) V V V V (fun Z=>?_) (fun Z=>?_)
 ·have a5:=Z;try simp only[BS]at a5
  refine bm 1 (v:=(op==36)) V Z V V ?_;refine wT 1 [] 2 2 [] [(2,(iI 5))] V fun _=>?_
  refine am ⟨.inr V,_,V,5,V,V,(by first|exact bJ X e_|(unfold cI;(repeat' split)<;>omega))⟩
 have a5:=Z;try simp only[BS]at a5
 refine wT 1 [] 11 18 [] [(11,(.bool (op==37)))] V fun _=>?_
 refine az 1 2 (v:=(op==37)) V V V V (fun a6=>?_) (fun a6=>?_)
 ·try simp only[BS]at a6
  refine wT 1 [] 2 2 [] [(2,(iI 5))] V fun _=>?_
  refine am ⟨.inr V,_,V,5,V,V,(by first|exact bJ X e_|(unfold cI;(repeat' split)<;>omega))⟩
 try simp only[BS]at a6
 refine wT 1 [] 19 20 [] [(19,(.bool (op==9)))] V fun _=>?_
 refine az 1 1 (v:=(op==9)) V V V V (fun z=>?_) (fun z=>?_)
 ·have a7:=z;try simp only[BS]at a7
  refine bm 1 (v:=(op==9)) V z V V ?_;refine wT 1 [] 2 2 [] [(2,(iI 2))] V fun _=>?_
  refine am ⟨.inr V,_,V,2,V,V,(by first|exact bJ X e_|(unfold cI;(repeat' split)<;>omega))⟩
 have a7:=z;try simp only[BS]at a7
 refine wT 1 [] 19 21 [] [(19,(.bool (op==15)))] V fun _=>?_
 refine az 1 0 (v:=(op==15)) V V V V (fun ag=>?_) (fun ag=>?_)
 ·have a8:=ag;try simp only[BS]at a8
  refine bm 1 (v:=(op==15)) V ag V V ?_;refine wT 1 [] 2 2 [] [(2,(iI 2))] V fun _=>?_
  refine am ⟨.inr V,_,V,2,V,V,(by first|exact bJ X e_|(unfold cI;(repeat' split)<;>omega))⟩
 have a8:=ag;try simp only[BS]at a8
 refine wT 1 [] 19 22 [] [(19,(.bool (op==16)))] V fun _=>?_
 refine az 1 2 (v:=(op==16)) V V V V (fun a9=>?_) (fun a9=>?_)
 ·try simp only[BS]at a9
  refine wT 1 [] 2 2 [] [(2,(iI 2))] V fun _=>?_
  refine am ⟨.inr V,_,V,2,V,V,(by first|exact bJ X e_|(unfold cI;(repeat' split)<;>omega))⟩
 try simp only[BS]at a9
 refine wT 1 [] 23 24 [] [(23,(.bool (op==11)))] V fun _=>?_
 refine az 1 0 (v:=(op==11)) V V V V (fun al=>?_) (fun al=>?_)
 ·have bb:=al;try simp only[BS]at bb
  refine bm 1 (v:=(op==11)) V al V V ?_;refine wT 1 [] 2 2 [] [(2,(iI 4))] V fun _=>?_
  refine am ⟨.inr V,_,V,4,V,V,(by first|exact bJ X e_|(unfold cI;(repeat' split)<;>omega))⟩
 have bb:=al;try simp only[BS]at bb
 refine wT 1 [] 23 25 [] [(23,(.bool (op==12)))] V fun _=>?_
 refine az 1 1 (v:=(op==12)) V V V V (fun bk=>?_) (fun bk=>?_)
 ·try simp only[BS]at bk
  refine wT 1 [] 2 2 [] [(2,(iI 4))] V fun _=>?_
  refine am ⟨.inr V,_,V,4,V,V,(by first|exact bJ X e_|(unfold cI;(repeat' split)<;>omega))⟩
 try simp only[BS]at bk
 refine wT 1 [] 26 27 [] [(26,(.bool (op==14)))] V fun _=>?_
 refine az 1 2 (v:=(op==14)) V V V V (fun bl=>?_) (fun bl=>?_)
 ·try simp only[BS]at bl
  refine wT 1 [] 2 2 [] [(2,(iI 6))] V fun _=>?_
  refine am ⟨.inr V,_,V,6,V,V,(by first|exact bJ X e_|(unfold cI;(repeat' split)<;>omega))⟩
 try simp only[BS]at bl
 refine wT 1 [] 28 29 [] [(28,(.bool (op==34)))] V fun _=>?_
 refine az 1 0 (v:=(op==34)) V V V V (fun an=>?_) (fun an=>?_)
 ·have bz:=an;try simp only[BS]at bz
  refine bm 1 (v:=(op==34)) V an V V ?_;refine wT 1 [] 2 2 [] [(2,(iI 7))] V fun _=>?_
  refine am ⟨.inr V,_,V,7,V,V,(by first|exact bJ X e_|(unfold cI;(repeat' split)<;>omega))⟩
 have bz:=an;try simp only[BS]at bz
 refine wT 1 [] 28 30 [] [(28,(.bool (op==35)))] V fun _=>?_
 refine az 1 4 (v:=(op==35)) V V V V (fun b2=>?_) (fun b2=>?_)
 ·try simp only[BS]at b2
  refine wT 1 [] 2 2 [] [(2,(iI 7))] V fun _=>?_
  refine am ⟨.inr V,_,V,7,V,V,(by first|exact bJ X e_|(unfold cI;(repeat' split)<;>omega))⟩
 try simp only[BS]at b2
 refine wU 1 [(4,.o (.bool (decide (17<=op/\op<=32))))] 31 36 [] [(36,(.bool ((op==10)||decide (17<=op/\op<=32))))] (fun(g1:(op==10)=false)=>(ic ex op H)) V fun _=>?_
 refine az 1 2 (v:=((op==10)||decide (17<=op/\op<=32))) V V V V (fun b3=>?_) (fun b3=>?_)
 ·try simp only[BS]at b3
  refine wT 1 [] 2 2 [] [(2,(iI 3))] V fun _=>?_
  refine am ⟨.inr V,_,V,3,V,V,(by first|exact bJ X e_|(unfold cI;(repeat' split)<;>omega))⟩
 try simp only[BS]at b3
 refine wT 1 [] 2 2 [] [(2,(iI 0))] V fun _=>?_
 refine am ⟨.inr V,_,V,0,V,V,(by first|exact bJ X e_|(unfold cI;(repeat' split)<;>omega))⟩
theorem form_c_q(op:Int)(H:Heap):kKt ex 69 [(iI op)] H fun v H'=>v=(iI (cI op))/\H'=H:=
 cq (form_c ex op H) (by rintro _ _ ⟨_,rfl,rfl,rfl⟩;exact⟨V,V⟩)
theorem names_c(hs:HS (.of H []) F H [] R)(hT:TB 37 tabC F):kKt ex 70 [] H fun v H'=> ∃(z:Option Addr) (Z:Nat) (r:List Str) (p:Fp) (F':Fz),Fz.le F F'/\HS (.of H []) F' H' [p] R/\v=sL z r.length Z/\OS F' (sL z r.length Z) r p/\r=namesL:=by
 refine aC Tryd.func70 V V ?_;refine aj 1 V ?_;refine wT 2 [] 0 0 [] [(0,(sL none 0 0))] V fun _=>?_
 refine aa ?_;refine zlo ([⟨[]⟩,⟨[110,111,112]⟩,⟨[114,101,116]⟩,⟨[116,105,99,107]⟩,⟨[116,114,97,112]⟩,⟨[106,109,112]⟩,⟨[99,97,108,108]⟩,⟨[106,122]⟩,⟨[106,110,122]⟩,⟨[111,117,116]⟩,⟨[109,111,118]⟩,⟨[99,109,111,118,122]⟩,⟨[99,109,111,118,110,122]⟩,⟨[108,100,105]⟩,⟨[108,100,99]⟩,⟨[110,101,103]⟩,⟨[110,111,116]⟩,⟨[97,100,100]⟩,⟨[115,117,98]⟩,⟨[109,117,108]⟩,⟨[100,105,118]⟩,⟨[114,101,109]⟩,⟨[97,110,100]⟩,⟨[111,114]⟩,⟨[120,111,114]⟩,⟨[115,104,108]⟩,⟨[115,104,114]⟩,⟨[115,97,114]⟩,⟨[101,113]⟩,⟨[110,101]⟩,⟨[108,116]⟩,⟨[108,101]⟩,⟨[108,116,117]⟩,⟨[97,100,100,105]⟩,⟨[108,100]⟩,⟨[115,116]⟩,⟨[108,100,115]⟩,⟨[115,116,115]⟩]:List Str) hs V j_ V fun A k2 T U E N=>?_
 refine wa (sL A ([⟨[]⟩,⟨[110,111,112]⟩,⟨[114,101,116]⟩,⟨[116,105,99,107]⟩,⟨[116,114,97,112]⟩,⟨[106,109,112]⟩,⟨[99,97,108,108]⟩,⟨[106,122]⟩,⟨[106,110,122]⟩,⟨[111,117,116]⟩,⟨[109,111,118]⟩,⟨[99,109,111,118,122]⟩,⟨[99,109,111,118,110,122]⟩,⟨[108,100,105]⟩,⟨[108,100,99]⟩,⟨[110,101,103]⟩,⟨[110,111,116]⟩,⟨[97,100,100]⟩,⟨[115,117,98]⟩,⟨[109,117,108]⟩,⟨[100,105,118]⟩,⟨[114,101,109]⟩,⟨[97,110,100]⟩,⟨[111,114]⟩,⟨[120,111,114]⟩,⟨[115,104,108]⟩,⟨[115,104,114]⟩,⟨[115,97,114]⟩,⟨[101,113]⟩,⟨[110,101]⟩,⟨[108,116]⟩,⟨[108,101]⟩,⟨[108,116,117]⟩,⟨[97,100,100,105]⟩,⟨[108,100]⟩,⟨[115,116]⟩,⟨[108,100,115]⟩,⟨[115,116,115]⟩]:List Str).length k2) V V V ?_;refine ae 1 V ?_;refine am ⟨.inr V,_,V,A,k2,([⟨[]⟩,⟨[110,111,112]⟩,⟨[114,101,116]⟩,⟨[116,105,99,107]⟩,⟨[116,114,97,112]⟩,⟨[106,109,112]⟩,⟨[99,97,108,108]⟩,⟨[106,122]⟩,⟨[106,110,122]⟩,⟨[111,117,116]⟩,⟨[109,111,118]⟩,⟨[99,109,111,118,122]⟩,⟨[99,109,111,118,110,122]⟩,⟨[108,100,105]⟩,⟨[108,100,99]⟩,⟨[110,101,103]⟩,⟨[110,111,116]⟩,⟨[97,100,100]⟩,⟨[115,117,98]⟩,⟨[109,117,108]⟩,⟨[100,105,118]⟩,⟨[114,101,109]⟩,⟨[97,110,100]⟩,⟨[111,114]⟩,⟨[120,111,114]⟩,⟨[115,104,108]⟩,⟨[115,104,114]⟩,⟨[115,97,114]⟩,⟨[101,113]⟩,⟨[110,101]⟩,⟨[108,116]⟩,⟨[108,101]⟩,⟨[108,116,117]⟩,⟨[97,100,100,105]⟩,⟨[108,100]⟩,⟨[115,116]⟩,⟨[108,100,115]⟩,⟨[115,116,115]⟩]:List Str),T,_,fR,(HS.only N (i:=0) V),V,E,(by first|rfl|omega|simp_all)⟩
theorem rInfo_c(op:Int)(hs:HS (.of H []) F H [] R)(dv:in64 op)(hT:TB 37 tabC F):kKt ex 35 [(iI op)] H fun v H'=> ∃(x:InfT) (o:Bool) (F':Fz),Fz.le F F'/\HS (.of H []) F' H' [] R/\v= .tuple ⟨[.agg ⟨[tX x.name.b,iI x.form,.bool x.ra,.bool x.wa,.bool x.rb,.bool x.mt,iI x.words]⟩,.bool o]⟩/\in64 x.form/\in64 x.words/\x=aW op/\o=infO op:=by
 have nl:namesL.length=38:=rfl;refine aC Tryd.func35 V V ?_;refine aj 1 V ?_;refine aa ?_;refine zn hs V fun b1 H2 a_=>?_
 refine wa (.bool false) V V V ?_;refine ae 2 V ?_;have c5:=form_imp op;refine wU 3 [(1,.o (iI (cI op)))] 8 9 [4] [(4,(iI (cI op)))] (form_c_q ex op H2) V fun _=>?_
 refine wT 1 [] 10 11 [] [(11,(.bool (cI op==0)))] V fun _=>?_
 refine az 1 2 (v:=(cI op==0)) V V V V (fun c6=>?_) (fun c6=>?_)
 ·try simp only[BS]at c6
  refine sgr 1 3 3 [12] [(3,(.bool false))] (Hr_ 1 0 Hn_) a_ V V fun c7 H7 an=>?_
  refine am ⟨.inr V,_,(rC V (ldVN V V (g_ an V) V) (rT V rN)),(⟨⟨[]⟩,0,false,false,false,false,0⟩:InfT),false,_,fR,(HS.forget an),V,M,M,(by first|exact ms (op:=op) M|(rw[hw];obtain⟨k,z⟩:=ex37 (op:=op) ⟨by omega,by omega⟩;rw[z];clear z;revert k;decide+kernel)),(by first|exact(mu (op:=op) M).symm|exact(mw (op:=op) M).symm)⟩
 try simp only[BS]at c6
 refine aa ?_;refine aH (aq V V V) V V (names_c ex (HS.call a_) hT) ?_;rintro _ H8 ⟨c0,c8,r8,p8,F8,a7,A,rfl,T,rfl⟩;replace A:=HS.back a_ V A;obtain⟨c3,a8⟩:=Sv.view (OS.sv T A (i:=1) V);refine cj 5 1 14 18 [] [(18,(aG [(tX (namesL.getD op.toNat default).b),(iI (cI op)),(.bool false),(.bool false),(.bool false),(.bool false),(iI 1)]))] (Ha_ (Sv.ix (j:=op) (OS.sv T A (i:=1) V) M M) (Hl_ 3 (ql 9 0 (vS (a8 op.toNat) M) V V) Hn_)) (by kernel_rfl) V fun _=>?_
 refine zn A V fun al b8 aw=>?_
 refine sgo 1 7 1 0 [] [] (Hr_ 7 2 Hn_) aw V V fun bk b9 U=>?_
 refine ae 3 V ?_;refine wT 1 [] 19 20 [] [(20,(.bool (op==14)))] V fun _=>?_
 refine bH (fun f H'=> ∃(w1:Int) (F':Fz),Fz.le F8 F'/\HS (Base.of H []) F' H' [(fP b1 [(tX []),(iI 0),(.bool false),(.bool false),(.bool false),(.bool false),(iI 0)]),p8,(fP al [(tX (namesL.getD op.toNat default).b),(iI (cI op)),(.bool false),(.bool false),(.bool false),(.bool false),(iI w1)])] R/\aA f [(0,(iI op)),(2,(pT b1 0)),(5,(pT al 0))]/\(w1=if op=14 then 3 else 1)/\(in64 w1)) (fun ad=>?_) ?_
 ·refine az 0 0 (v:=(op==14)) V V V V (fun E=>?_) (fun E=>?_)
  ·try simp only[BS]at E
   refine sgr 0 21 21 [] [] (Hr_ 1 2 Hn_) U V V fun bl cc ay=>?_
   exact ad _ _ ⟨3,_,fR,ay,(agC V (agC V (agC V agN))),(by first|(rw[if_pos M])|(rw[if_neg M])),(by first|assumption|omega|(simp at *;omega))⟩
  try simp only[BS]at E
  exact ad _ _ ⟨1,_,fR,U,(agC V (agC V (agC V agN))),(by first|(rw[if_pos M])|(rw[if_neg M])),(by first|assumption|omega|(simp at *;omega))⟩
 skip;rintro c4 a4 ⟨w1,b7,av,ax,N,hw,hwr⟩;refine ap _ N (fun _=>?_);clear N;refine aj 2 V ?_;refine wT 2 [] 22 27 [6] [(6,(.bool ((op==11)||(op==12))))] V fun _=>?_
 refine wT 2 [] 28 33 [7] [(7,(.bool ((op==15)||(op==16))))] V fun _=>?_
 refine sgr 2 34 66 [] [] (Hc1_ 6 (fun _=>(ic ex op a4)) (Hr_ 33 2 Hn_)) ax V V fun bz a5 a0=>?_
 refine sgr 2 67 99 [] [] (Hc1_ 6 (fun _=>(ic ex op a5)) (Hr_ 33 2 Hn_)) a0 V V fun b2 a6 a1=>?_
 refine sgr 2 100 117 [] [] (Hc1_ 3 (fun _=>(ic ex op a6)) (Hr_ 18 2 Hn_)) a1 V V fun b3 ch a2=>?_
 refine sgr 2 118 136 [] [] (Hr_ 19 2 Hn_) a2 V V fun b4 ci a3=>?_
 refine sgr 1 3 3 [137] [(3,(.bool true))] (Hr_ 0 2 (Hr_ 1 0 Hn_)) a3 V V fun b5 co Z=>?_
 refine am ⟨.inr V,_,(rC V (ldVN V V (g_ Z V) V) (rT V rN)),(⟨⟨(namesL.getD op.toNat default).b⟩,cI op,((((((((((op==11)||(op==12))||((op==15)||(op==16)))||decide (17<=op/\op<=32))||(op==7))||(op==8))||(op==9))||(op==33))||(op==35))||(op==37)),((((((((((op==11)||(op==12))||((op==15)||(op==16)))||decide (17<=op/\op<=32))||(op==10))||(op==13))||(op==14))||(op==33))||(op==34))||(op==36)),((((((op==11)||(op==12))||decide (17<=op/\op<=32))||(op==10))||(op==34))||(op==35)),(((((op==4)||(op==20))||(op==21))||(op==34))||(op==35)),w1⟩:InfT),true,_,(fT (a7) av),(HS.forget Z),V,M,M,(by first|exact ms (op:=op) M|(rw[hw];obtain⟨k,z⟩:=ex37 (op:=op) ⟨by omega,by omega⟩;rw[z];clear z;revert k;decide+kernel)),(by first|exact(mu (op:=op) M).symm|exact(mw (op:=op) M).symm)⟩
theorem valw_c(op:Int)(H:Heap):kKt ex 75 [(iI op)] H fun v H'=> ∃(r:Bool),H'=H/\v= .bool r/\r=alV op:=by
 refine aC Tryd.func75 V V ?_;refine aj 1 V ?_;refine wT 3 [] 2 2 [] [(2,(.bool false))] V fun _=>?_
 refine wT 4 [] 3 3 [] [(3,(iI op))] V fun _=>?_
 refine wT 1 [] 4 5 [] [(4,(.bool (op==3)))] V fun _=>?_
 refine az 1 1 (v:=(op==3)) V V V V (fun ag=>?_) (fun ag=>?_)
 ·have c4:=ag;try simp only[BS]at c4
  refine bm 1 (v:=(op==3)) V ag V V ?_;refine wT 1 [] 2 2 [] [(2,(.bool true))] V fun _=>?_
  refine am ⟨.inr V,_,V,true,V,V,(by exact cM m_)⟩
 have c4:=ag;try simp only[BS]at c4
 refine wT 1 [] 4 6 [] [(4,(.bool (op==6)))] V fun _=>?_
 refine az 1 1 (v:=(op==6)) V V V V (fun al=>?_) (fun al=>?_)
 ·have c7:=al;try simp only[BS]at c7
  refine bm 1 (v:=(op==6)) V al V V ?_;refine wT 1 [] 2 2 [] [(2,(.bool true))] V fun _=>?_
  refine am ⟨.inr V,_,V,true,V,V,(by exact cM m_)⟩
 have c7:=al;try simp only[BS]at c7
 refine wT 1 [] 4 7 [] [(4,(.bool (op==9)))] V fun _=>?_
 refine az 1 1 (v:=(op==9)) V V V V (fun A=>?_) (fun A=>?_)
 ·have an:=A;try simp only[BS]at an
  refine bm 1 (v:=(op==9)) V A V V ?_;refine wT 1 [] 2 2 [] [(2,(.bool true))] V fun _=>?_
  refine am ⟨.inr V,_,V,true,V,V,(by exact cM m_)⟩
 have an:=A;try simp only[BS]at an
 refine wT 1 [] 4 8 [] [(4,(.bool (op==10)))] V fun _=>?_
 refine az 1 1 (v:=(op==10)) V V V V (fun E=>?_) (fun E=>?_)
 ·have ar:=E;try simp only[BS]at ar
  refine bm 1 (v:=(op==10)) V E V V ?_;refine wT 1 [] 2 2 [] [(2,(.bool true))] V fun _=>?_
  refine am ⟨.inr V,_,V,true,V,V,(by exact cM m_)⟩
 have ar:=E;try simp only[BS]at ar
 refine wT 1 [] 4 9 [] [(4,(.bool (op==11)))] V fun _=>?_
 refine az 1 1 (v:=(op==11)) V V V V (fun N=>?_) (fun N=>?_)
 ·have av:=N;try simp only[BS]at av
  refine bm 1 (v:=(op==11)) V N V V ?_;refine wT 1 [] 2 2 [] [(2,(.bool true))] V fun _=>?_
  refine am ⟨.inr V,_,V,true,V,V,(by exact cM m_)⟩
 have av:=N;try simp only[BS]at av
 refine wT 1 [] 4 10 [] [(4,(.bool (op==12)))] V fun _=>?_
 refine az 1 1 (v:=(op==12)) V V V V (fun T=>?_) (fun T=>?_)
 ·have aw:=T;try simp only[BS]at aw
  refine bm 1 (v:=(op==12)) V T V V ?_;refine wT 1 [] 2 2 [] [(2,(.bool true))] V fun _=>?_
  refine am ⟨.inr V,_,V,true,V,V,(by exact cM m_)⟩
 have aw:=T;try simp only[BS]at aw
 refine wT 1 [] 4 11 [] [(4,(.bool (op==13)))] V fun _=>?_
 refine az 1 1 (v:=(op==13)) V V V V (fun U=>?_) (fun U=>?_)
 ·have ax:=U;try simp only[BS]at ax
  refine bm 1 (v:=(op==13)) V U V V ?_;refine wT 1 [] 2 2 [] [(2,(.bool true))] V fun _=>?_
  refine am ⟨.inr V,_,V,true,V,V,(by exact cM m_)⟩
 have ax:=U;try simp only[BS]at ax
 refine wT 1 [] 4 12 [] [(4,(.bool (op==33)))] V fun _=>?_
 refine az 1 1 (v:=(op==33)) V V V V (fun a_=>?_) (fun a_=>?_)
 ·have ay:=a_;try simp only[BS]at ay
  refine bm 1 (v:=(op==33)) V a_ V V ?_;refine wT 1 [] 2 2 [] [(2,(.bool true))] V fun _=>?_
  refine am ⟨.inr V,_,V,true,V,V,(by exact cM m_)⟩
 have ay:=a_;try simp only[BS]at ay
 refine wT 1 [] 4 13 [] [(4,(.bool (op==34)))] V fun _=>?_
 refine az 1 1 (v:=(op==34)) V V V V (fun Z=>?_) (fun Z=>?_)
 ·have a0:=Z;try simp only[BS]at a0
  refine bm 1 (v:=(op==34)) V Z V V ?_;refine wT 1 [] 2 2 [] [(2,(.bool true))] V fun _=>?_
  refine am ⟨.inr V,_,V,true,V,V,(by exact cM m_)⟩
 have a0:=Z;try simp only[BS]at a0
 refine wT 1 [] 4 14 [] [(4,(.bool (op==35)))] V fun _=>?_
 refine az 1 0 (v:=(op==35)) V V V V (fun z=>?_) (fun z=>?_)
 ·have a1:=z;try simp only[BS]at a1
  refine bm 1 (v:=(op==35)) V z V V ?_;refine wT 1 [] 2 2 [] [(2,(.bool true))] V fun _=>?_
  refine am ⟨.inr V,_,V,true,V,V,(by exact cM m_)⟩
 have a1:=z;try simp only[BS]at a1
 refine wT 1 [] 4 15 [] [(4,(.bool (op==38)))] V fun _=>?_
 refine az 1 3 (v:=(op==38)) V V V V (fun a2=>?_) (fun a2=>?_)
 ·try simp only[BS]at a2
  refine wT 1 [] 2 2 [] [(2,(.bool true))] V fun _=>?_
  refine am ⟨.inr V,_,V,true,V,V,(by exact cM m_)⟩
 try simp only[BS]at a2
 refine wT 1 [] 16 21 [2] [(2,(.bool ((decide ((15:Int)<=op))&&(decide (op<=32)))))] V fun _=>?_
 refine am ⟨.inr V,_,V,((decide ((15:Int)<=op))&&(decide (op<=32))),V,V,(by exact cM m_)⟩
theorem lV(op:Int)(H:Heap):kKt ex 75 [(iI op)] H fun v H'=>v=(.bool (alV op))/\H'=H:=
 cq (valw_c ex op H) (by rintro _ _ ⟨_,rfl,rfl,rfl⟩;exact⟨V,V⟩)
theorem ralw_c(op:Int)(H:Heap):kKt ex 72 [(iI op)] H fun v H'=> ∃(r:Bool),H'=H/\v= .bool r/\r=alV op:=by
 refine aC Tryd.func72 V V ?_;refine aj 1 V ?_;refine wT 3 [] 2 2 [] [(2,(.bool false))] V fun _=>?_
 refine wT 4 [] 3 3 [] [(3,(iI op))] V fun _=>?_
 refine wT 1 [] 4 5 [] [(4,(.bool (op==3)))] V fun _=>?_
 refine az 1 1 (v:=(op==3)) V V V V (fun ag=>?_) (fun ag=>?_)
 ·have c4:=ag;try simp only[BS]at c4
  refine bm 1 (v:=(op==3)) V ag V V ?_;refine wT 1 [] 2 2 [] [(2,(.bool true))] V fun _=>?_
  refine am ⟨.inr V,_,V,true,V,V,(by exact cM m_)⟩
 have c4:=ag;try simp only[BS]at c4
 refine wT 1 [] 4 6 [] [(4,(.bool (op==6)))] V fun _=>?_
 refine az 1 1 (v:=(op==6)) V V V V (fun al=>?_) (fun al=>?_)
 ·have c7:=al;try simp only[BS]at c7
  refine bm 1 (v:=(op==6)) V al V V ?_;refine wT 1 [] 2 2 [] [(2,(.bool true))] V fun _=>?_
  refine am ⟨.inr V,_,V,true,V,V,(by exact cM m_)⟩
 have c7:=al;try simp only[BS]at c7
 refine wT 1 [] 4 7 [] [(4,(.bool (op==9)))] V fun _=>?_
 refine az 1 1 (v:=(op==9)) V V V V (fun A=>?_) (fun A=>?_)
 ·have an:=A;try simp only[BS]at an
  refine bm 1 (v:=(op==9)) V A V V ?_;refine wT 1 [] 2 2 [] [(2,(.bool true))] V fun _=>?_
  refine am ⟨.inr V,_,V,true,V,V,(by exact cM m_)⟩
 have an:=A;try simp only[BS]at an
 refine wT 1 [] 4 8 [] [(4,(.bool (op==10)))] V fun _=>?_
 refine az 1 1 (v:=(op==10)) V V V V (fun E=>?_) (fun E=>?_)
 ·have ar:=E;try simp only[BS]at ar
  refine bm 1 (v:=(op==10)) V E V V ?_;refine wT 1 [] 2 2 [] [(2,(.bool true))] V fun _=>?_
  refine am ⟨.inr V,_,V,true,V,V,(by exact cM m_)⟩
 have ar:=E;try simp only[BS]at ar
 refine wT 1 [] 4 9 [] [(4,(.bool (op==11)))] V fun _=>?_
 refine az 1 1 (v:=(op==11)) V V V V (fun N=>?_) (fun N=>?_)
 ·have av:=N;try simp only[BS]at av
  refine bm 1 (v:=(op==11)) V N V V ?_;refine wT 1 [] 2 2 [] [(2,(.bool true))] V fun _=>?_
  refine am ⟨.inr V,_,V,true,V,V,(by exact cM m_)⟩
 have av:=N;try simp only[BS]at av
 refine wT 1 [] 4 10 [] [(4,(.bool (op==12)))] V fun _=>?_
 refine az 1 1 (v:=(op==12)) V V V V (fun T=>?_) (fun T=>?_)
 ·have aw:=T;try simp only[BS]at aw
  refine bm 1 (v:=(op==12)) V T V V ?_;refine wT 1 [] 2 2 [] [(2,(.bool true))] V fun _=>?_
  refine am ⟨.inr V,_,V,true,V,V,(by exact cM m_)⟩
 have aw:=T;try simp only[BS]at aw
 refine wT 1 [] 4 11 [] [(4,(.bool (op==13)))] V fun _=>?_
 refine az 1 1 (v:=(op==13)) V V V V (fun U=>?_) (fun U=>?_)
 ·have ax:=U;try simp only[BS]at ax
  refine bm 1 (v:=(op==13)) V U V V ?_;refine wT 1 [] 2 2 [] [(2,(.bool true))] V fun _=>?_
  refine am ⟨.inr V,_,V,true,V,V,(by exact cM m_)⟩
 have ax:=U;try simp only[BS]at ax
 refine wT 1 [] 4 12 [] [(4,(.bool (op==33)))] V fun _=>?_
 refine az 1 1 (v:=(op==33)) V V V V (fun a_=>?_) (fun a_=>?_)
 ·have ay:=a_;try simp only[BS]at ay
  refine bm 1 (v:=(op==33)) V a_ V V ?_;refine wT 1 [] 2 2 [] [(2,(.bool true))] V fun _=>?_
  refine am ⟨.inr V,_,V,true,V,V,(by exact cM m_)⟩
 have ay:=a_;try simp only[BS]at ay
 refine wT 1 [] 4 13 [] [(4,(.bool (op==34)))] V fun _=>?_
 refine az 1 1 (v:=(op==34)) V V V V (fun Z=>?_) (fun Z=>?_)
 ·have a0:=Z;try simp only[BS]at a0
  refine bm 1 (v:=(op==34)) V Z V V ?_;refine wT 1 [] 2 2 [] [(2,(.bool true))] V fun _=>?_
  refine am ⟨.inr V,_,V,true,V,V,(by exact cM m_)⟩
 have a0:=Z;try simp only[BS]at a0
 refine wT 1 [] 4 14 [] [(4,(.bool (op==35)))] V fun _=>?_
 refine az 1 0 (v:=(op==35)) V V V V (fun z=>?_) (fun z=>?_)
 ·have a1:=z;try simp only[BS]at a1
  refine bm 1 (v:=(op==35)) V z V V ?_;refine wT 1 [] 2 2 [] [(2,(.bool true))] V fun _=>?_
  refine am ⟨.inr V,_,V,true,V,V,(by exact cM m_)⟩
 have a1:=z;try simp only[BS]at a1
 refine wT 1 [] 4 15 [] [(4,(.bool (op==38)))] V fun _=>?_
 refine az 1 3 (v:=(op==38)) V V V V (fun a2=>?_) (fun a2=>?_)
 ·try simp only[BS]at a2
  refine wT 1 [] 2 2 [] [(2,(.bool true))] V fun _=>?_
  refine am ⟨.inr V,_,V,true,V,V,(by exact cM m_)⟩
 try simp only[BS]at a2
 refine wT 1 [] 16 21 [2] [(2,(.bool ((decide ((15:Int)<=op))&&(decide (op<=32)))))] V fun _=>?_
 refine am ⟨.inr V,_,V,((decide ((15:Int)<=op))&&(decide (op<=32))),V,V,(by exact cM m_)⟩
theorem ralw_c_q(op:Int)(H:Heap):kKt ex 72 [(iI op)] H fun v H'=>v=(.bool (alV op))/\H'=H:=
 cq (ralw_c ex op H) (by rintro _ _ ⟨_,rfl,rfl,rfl⟩;exact⟨V,V⟩)
end Go.Proofs.YtgdggmlghemecaaDoor.m1
