/-
Instructions of virtual code: the table, their description, which are allowed; the program and the reference. No condition but that the table lies as laid.
-/
import Derived.Test.YtknafdcgpaejlaaDoorZMRD
import Derived.Test.YtknafdcgpaejlaaDoorChecked
noncomputable section
namespace Go.Proofs.YtknafdcgpaejlaaDoor.m1
open Go.R
set_option maxRecDepth 10000
set_option linter.unusedVariables false
set_option linter.unusedSimpArgs false
variable (ex:FuncId) {F:Fz} {H:Heap} {R:List Fp}
theorem ql{H:Heap}{b o:Nat}{cs:List Value}{w:Value}(t:TypeId)(i:Nat)(hc:HC H.get b o cs)(A:aggOf Tryd.prog t=some false)(E:cs[i]?=some w):LDv Tryd.prog H t (.pointer (some ⟨b,o+i,none⟩)) w:=ld1 hc A E
theorem qn{H:Heap}{b o:Nat}{cs l:List Value}(t:TypeId)(i n:Nat)(hc:HC H.get b o cs)(A:aggOf Tryd.prog t=some true)(hs:cM Tryd.prog t=some n)(N:Nat.ble (i+n) cs.length=true)(E:gi (gC cs i) n=l):LDv Tryd.prog H t (.pointer (some ⟨b,o+i,none⟩)) (.agg ⟨l⟩):=ldN hc A hs N E
structure InfT where
 name:Str
 form:Int
 ra:Bool
 wa:Bool
 rb:Bool
 mt:Bool
 words:Int
 deriving Inhabited
instance :Rp InfT where
 sz:=7
 rep F cs x:=cs=[.string ⟨⟨x.name.b⟩⟩,.int .i64 x.form,.bool x.ra,.bool x.wa,.bool x.rb,.bool x.mt,.int .i64 x.words]/\in64 x.form/\in64 x.words
 len:=by rintro F cs x ⟨rfl,_⟩;rfl
 one:=by rintro F cs x ⟨rfl,_⟩;rfl
 mono:=by intro F F' cs x _ h;exact h
theorem InfT.vw{F:Fz}{get:Nat->Option AObj}{v:Value}{cf:Nat->List Value}{j:Nat}{l:List InfT}(h:VW F get v l cf j)(N:j<l.length:=by first|(dsimp only;omega)|omega):HC get (sB v) (sO v+j*Rp.sz InfT) [.string ⟨⟨(l.getD j default).name.b⟩⟩,.int .i64 (l.getD j default).form,.bool (l.getD j default).ra,.bool (l.getD j default).wa,.bool (l.getD j default).rb,.bool (l.getD j default).mt,.int .i64 (l.getD j default).words]:=by obtain⟨⟨E,_⟩,A⟩:=h.1 default N;rw[show cf j=_ from E]at A;exact A
theorem InfT.fx{F:Fz}{get:Nat->Option AObj}{v:Value}{cf:Nat->List Value}{j:Nat}{l:List InfT}(h:VW F get v l cf j):in64 (l.getD j default).form/\in64 (l.getD j default).words:=by
 rcases a0i j l.length with hj|hj
 ·obtain⟨⟨E,h0,A⟩,_⟩:=h.1 default hj;exact⟨h0,A⟩
 rw[cp hj];exact⟨by decide,by decide⟩
structure InsT where
 op:Int
 a:Int
 b:Int
 c:Int
 n:Int
 deriving Inhabited,DecidableEq
instance :Rp InsT where
 sz:=5
 rep F cs x:=cs=[.int .i64 x.op,.int .i64 x.a,.int .i64 x.b,.int .i64 x.c,.int .i64 x.n]/\in64 x.op/\in64 x.a/\in64 x.b/\in64 x.c/\in64 x.n
 len:=by rintro F cs x ⟨rfl,_⟩;rfl
 one:=by rintro F cs x ⟨rfl,_⟩;rfl
 mono:=by intro F F' cs x _ h;exact h
structure VInT where
 i:InsT
 args:(List Int)
 deriving Inhabited,DecidableEq
instance :Rp VInT where
 sz:=6
 rep F cs x:= ∃a5 k5,cs=[.int .i64 x.i.op,.int .i64 x.i.a,.int .i64 x.i.b,.int .i64 x.i.c,.int .i64 x.i.n,.slice a5 x.args.length k5]/\in64 x.i.op/\in64 x.i.a/\in64 x.i.b/\in64 x.i.c/\in64 x.i.n/\SR F (.slice a5 x.args.length k5) x.args
 len:=by rintro F cs x ⟨a5,k5,rfl,_⟩;rfl
 one:=by rintro F cs x ⟨a5,k5,rfl,_⟩;rfl
 mono:=by rintro F F' cs x hF ⟨a5,k5,rfl,h0,h1,h2,h3,h4,h5⟩;exact⟨a5,k5,rfl,h0,h1,h2,h3,h4,h5.mono hF⟩
theorem VInT.vw{F:Fz}{get:Nat->Option AObj}{v:Value}{cf:Nat->List Value}{j:Nat}{l:List VInT}(h:VW F get v l cf j)(U:j<l.length:=by first|(dsimp only;omega)|omega):HC get (sB v) (sO v+j*Rp.sz VInT) [.int .i64 (l.getD j default).i.op,.int .i64 (l.getD j default).i.a,.int .i64 (l.getD j default).i.b,.int .i64 (l.getD j default).i.c,.int .i64 (l.getD j default).i.n,sL (cA (cf j) 5) (l.getD j default).args.length (cK (cf j) 5)]:=by obtain⟨⟨N,T,E,_⟩,A⟩:=h.1 default U;rw[show cf j=_ from E]at A⊢;exact A
theorem VInT.fx{F:Fz}{get:Nat->Option AObj}{v:Value}{cf:Nat->List Value}{j:Nat}{l:List VInT}(h:VW F get v l cf j):in64 (l.getD j default).i.op/\in64 (l.getD j default).i.a/\in64 (l.getD j default).i.b/\in64 (l.getD j default).i.c/\in64 (l.getD j default).i.n/\SR F (sL (cA (cf j) 5) (l.getD j default).args.length (cK (cf j) 5)) (l.getD j default).args:=by
 rcases a0i j l.length with hj|hj
 ·obtain⟨⟨Z,k5,A,h0,E,N,T,U,V⟩,_⟩:=h.1 default hj;rw[show cf j=_ from A];exact⟨h0,E,N,T,U,V⟩
 rw[cp hj,h.2 hj];exact⟨by decide,by decide,by decide,by decide,by decide,SR.nil⟩
structure BlkT where
 ins:(List VInT)
 fin:Int
 reg:Int
 tgt:Int
 els:Int
 deriving Inhabited,DecidableEq
instance :Rp BlkT where
 sz:=5
 rep F cs x:= ∃a0 k0,cs=[.slice a0 x.ins.length k0,.int .i64 x.fin,.int .i64 x.reg,.int .i64 x.tgt,.int .i64 x.els]/\in64 x.fin/\in64 x.reg/\in64 x.tgt/\in64 x.els/\SR F (.slice a0 x.ins.length k0) x.ins
 len:=by rintro F cs x ⟨a0,k0,rfl,_⟩;rfl
 one:=by rintro F cs x ⟨a0,k0,rfl,_⟩;rfl
 mono:=by rintro F F' cs x hF ⟨a0,k0,rfl,h0,h1,h2,h3,h4⟩;exact⟨a0,k0,rfl,h0,h1,h2,h3,h4.mono hF⟩
theorem BlkT.vw{F:Fz}{get:Nat->Option AObj}{v:Value}{cf:Nat->List Value}{j:Nat}{l:List BlkT}(h:VW F get v l cf j)(U:j<l.length:=by first|(dsimp only;omega)|omega):HC get (sB v) (sO v+j*Rp.sz BlkT) [sL (cA (cf j) 0) (l.getD j default).ins.length (cK (cf j) 0),.int .i64 (l.getD j default).fin,.int .i64 (l.getD j default).reg,.int .i64 (l.getD j default).tgt,.int .i64 (l.getD j default).els]:=by obtain⟨⟨N,T,E,_⟩,A⟩:=h.1 default U;rw[show cf j=_ from E]at A⊢;exact A
theorem BlkT.fx{F:Fz}{get:Nat->Option AObj}{v:Value}{cf:Nat->List Value}{j:Nat}{l:List BlkT}(h:VW F get v l cf j):in64 (l.getD j default).fin/\in64 (l.getD j default).reg/\in64 (l.getD j default).tgt/\in64 (l.getD j default).els/\SR F (sL (cA (cf j) 0) (l.getD j default).ins.length (cK (cf j) 0)) (l.getD j default).ins:=by
 rcases a0i j l.length with hj|hj
 ·obtain⟨⟨V,Z,A,h0,E,N,T,U⟩,_⟩:=h.1 default hj;rw[show cf j=_ from A];exact⟨h0,E,N,T,U⟩
 rw[cp hj,h.2 hj];exact⟨by decide,by decide,by decide,by decide,SR.nil⟩
structure VFnT where
 params:Int
 regs:Int
 blocks:(List BlkT)
 deriving Inhabited,DecidableEq
instance :Rp VFnT where
 sz:=3
 rep F cs x:= ∃a2 k2,cs=[.int .i64 x.params,.int .i64 x.regs,.slice a2 x.blocks.length k2]/\in64 x.params/\in64 x.regs/\SR F (.slice a2 x.blocks.length k2) x.blocks
 len:=by rintro F cs x ⟨a2,k2,rfl,_⟩;rfl
 one:=by rintro F cs x ⟨a2,k2,rfl,_⟩;rfl
 mono:=by rintro F F' cs x hF ⟨a2,k2,rfl,h0,h1,h2⟩;exact⟨a2,k2,rfl,h0,h1,h2.mono hF⟩
theorem VFnT.vw{F:Fz}{get:Nat->Option AObj}{v:Value}{cf:Nat->List Value}{j:Nat}{l:List VFnT}(h:VW F get v l cf j)(T:j<l.length:=by first|(dsimp only;omega)|omega):HC get (sB v) (sO v+j*Rp.sz VFnT) [.int .i64 (l.getD j default).params,.int .i64 (l.getD j default).regs,sL (cA (cf j) 2) (l.getD j default).blocks.length (cK (cf j) 2)]:=by obtain⟨⟨N,k2,E,_⟩,A⟩:=h.1 default T;rw[show cf j=_ from E]at A⊢;exact A
theorem VFnT.fx{F:Fz}{get:Nat->Option AObj}{v:Value}{cf:Nat->List Value}{j:Nat}{l:List VFnT}(h:VW F get v l cf j):in64 (l.getD j default).params/\in64 (l.getD j default).regs/\SR F (sL (cA (cf j) 2) (l.getD j default).blocks.length (cK (cf j) 2)) (l.getD j default).blocks:=by
 rcases a0i j l.length with hj|hj
 ·obtain⟨⟨T,k2,A,h0,E,N⟩,_⟩:=h.1 default hj;rw[show cf j=_ from A];exact⟨h0,E,N⟩
 rw[cp hj,h.2 hj];exact⟨by decide,by decide,SR.nil⟩
structure DigT where
 n:Int
 deriving Inhabited,DecidableEq
instance :Rp DigT where
 sz:=1
 rep F cs x:=cs=[.int .i64 x.n]/\in64 x.n
 len:=by rintro F cs x ⟨rfl,_⟩;rfl
 one:=by rintro F cs x ⟨rfl,_⟩;rfl
 mono:=by intro F F' cs x _ h;exact h
def bQ(n m:Int):Int:=bif decide (Int.tmod n m<0) then Int.tmod n m+m else Int.tmod n m
theorem pick_rng{n m:Int}(N:0<m):0<=bQ n m/\bQ n m<m:=by
 have A: -m<n.tmod m:=Int.lt_tmod_of_pos n N;have E:n.tmod m<m:=Int.tmod_lt_of_pos n N;unfold bQ;by_cases hc:n.tmod m<0
 ·simp only[decide_eq_true hc,cond_true];omega
 simp only[decide_eq_false hc,cond_false];omega
theorem fp(n m:Int):0<m->0<=bQ n m/\bQ n m<m:=pick_rng
def eY:List InfT:=[⟨⟨[110,111,112]⟩,1,false,false,false,false,1⟩,⟨⟨[114,101,116]⟩,1,false,false,false,false,1⟩,⟨⟨[116,105,99,107]⟩,1,false,false,false,false,1⟩,⟨⟨[116,114,97,112]⟩,8,false,false,false,true,1⟩,⟨⟨[106,109,112]⟩,8,false,false,false,false,1⟩,⟨⟨[99,97,108,108]⟩,5,false,false,false,false,1⟩,⟨⟨[106,122]⟩,5,true,false,false,false,1⟩,⟨⟨[106,110,122]⟩,5,true,false,false,false,1⟩,⟨⟨[111,117,116]⟩,2,true,false,false,false,1⟩,⟨⟨[109,111,118]⟩,3,false,true,true,false,1⟩,⟨⟨[99,109,111,118,122]⟩,4,true,true,true,false,1⟩,⟨⟨[99,109,111,118,110,122]⟩,4,true,true,true,false,1⟩,⟨⟨[108,100,105]⟩,5,false,true,false,false,1⟩,⟨⟨[108,100,99]⟩,6,false,true,false,false,3⟩,⟨⟨[110,101,103]⟩,2,true,true,false,false,1⟩,⟨⟨[110,111,116]⟩,2,true,true,false,false,1⟩,⟨⟨[97,100,100]⟩,3,true,true,true,false,1⟩,⟨⟨[115,117,98]⟩,3,true,true,true,false,1⟩,⟨⟨[109,117,108]⟩,3,true,true,true,false,1⟩,⟨⟨[100,105,118]⟩,3,true,true,true,true,1⟩,⟨⟨[114,101,109]⟩,3,true,true,true,true,1⟩,⟨⟨[97,110,100]⟩,3,true,true,true,false,1⟩,⟨⟨[111,114]⟩,3,true,true,true,false,1⟩,⟨⟨[120,111,114]⟩,3,true,true,true,false,1⟩,⟨⟨[115,104,108]⟩,3,true,true,true,false,1⟩,⟨⟨[115,104,114]⟩,3,true,true,true,false,1⟩,⟨⟨[115,97,114]⟩,3,true,true,true,false,1⟩,⟨⟨[101,113]⟩,3,true,true,true,false,1⟩,⟨⟨[110,101]⟩,3,true,true,true,false,1⟩,⟨⟨[108,116]⟩,3,true,true,true,false,1⟩,⟨⟨[108,101]⟩,3,true,true,true,false,1⟩,⟨⟨[108,116,117]⟩,3,true,true,true,false,1⟩,⟨⟨[97,100,100,105]⟩,5,true,true,false,false,1⟩,⟨⟨[108,100]⟩,7,false,true,true,true,1⟩,⟨⟨[115,116]⟩,7,true,false,true,true,1⟩,⟨⟨[108,100,115]⟩,5,false,true,false,false,1⟩,⟨⟨[115,116,115]⟩,5,true,false,false,false,1⟩]
def infC(x:InfT):List Value:=[.string ⟨⟨x.name.b⟩⟩,.int .i64 x.form,.bool x.ra,.bool x.wa,.bool x.rb,.bool x.mt,.int .i64 x.words]
def tabC:List Value:=eY.flatMap infC
abbrev kKt(e:FuncId):=C Tryd.prog 1 (KT 60 e 37 tabC)
theorem rl_of{α:Type} [Rp α]{F:Fz}{c:α->List Value}: ∀(l:List α),(∀x∈l,Rp.rep F (c x) x)->RL F (l.flatMap c) l
 | [],_=>rfl
 |x::l,h=>⟨c x,l.flatMap c,rfl,h x (a0y ..),rl_of l fun y A=>h y (a0j _ A)⟩
theorem tab_rng: ∀x∈eY,in64 x.form/\in64 x.words:=by decide
theorem tab_sr{F:Fz}(h:TB 37 tabC F):SR F (sL (some ⟨1,0,none⟩) eY.length 37) eY:=h.sr rfl (rl_of eY fun x A=>⟨rfl,tab_rng x A⟩)
def aN(op:Int):InfT:=if 1<=op/\op<=37 then eY.getD (op-1).toNat default else default
def infO(op:Int):Bool:=decide (1<=op/\op<=37)
def dM(op:Int):Int:=if op=1\/op=2\/op=3 then 1 else if op=9\/op=15\/op=16 then 2 else if op=10\/(17<=op/\op<=32) then 3 else if op=11\/op=12 then 4 else if op=6\/op=7\/op=8\/op=13\/op=33\/op=36\/op=37 then 5 else if op=14 then 6 else if op=34\/op=35 then 7 else if op=4\/op=5 then 8 else 0
def alV(op:Int):Bool:=decide (op=3\/op=6\/(9<=op/\op<=13)\/(15<=op/\op<=35)\/op=38)
def ed:List Str:=[⟨[]⟩,⟨[110,111,112]⟩,⟨[114,101,116]⟩,⟨[116,105,99,107]⟩,⟨[116,114,97,112]⟩,⟨[106,109,112]⟩,⟨[99,97,108,108]⟩,⟨[106,122]⟩,⟨[106,110,122]⟩,⟨[111,117,116]⟩,⟨[109,111,118]⟩,⟨[99,109,111,118,122]⟩,⟨[99,109,111,118,110,122]⟩,⟨[108,100,105]⟩,⟨[108,100,99]⟩,⟨[110,101,103]⟩,⟨[110,111,116]⟩,⟨[97,100,100]⟩,⟨[115,117,98]⟩,⟨[109,117,108]⟩,⟨[100,105,118]⟩,⟨[114,101,109]⟩,⟨[97,110,100]⟩,⟨[111,114]⟩,⟨[120,111,114]⟩,⟨[115,104,108]⟩,⟨[115,104,114]⟩,⟨[115,97,114]⟩,⟨[101,113]⟩,⟨[110,101]⟩,⟨[108,116]⟩,⟨[108,101]⟩,⟨[108,116,117]⟩,⟨[97,100,100,105]⟩,⟨[108,100]⟩,⟨[115,116]⟩,⟨[108,100,115]⟩,⟨[115,116,115]⟩]
theorem infV_no{op:Int}(h: ¬(1<=op/\op<=37)):(⟨⟨[]⟩,0,false,false,false,false,0⟩:InfT)=aN op:=by unfold aN;rw[if_neg h];rfl
theorem infV_at{op:Int}(h:1<=op/\op<=37):eY.getD (op-1).toNat default=aN op:=by unfold aN;rw[if_pos h]
theorem infO_no{op:Int}(h: ¬(1<=op/\op<=37)):infO op=false:=decide_eq_false h
theorem infO_at{op:Int}(h:1<=op/\op<=37):infO op=true:=decide_eq_true h
theorem form_imp(op:Int):(dM op=0/\¬(1<=op/\op<=37))\/(1<=dM op/\dM op<=8/\1<=op/\op<=37):=by unfold dM;(repeat' split)<;>omega
instance :DecidableEq Str:=fun a b=>decidable_of_iff (a.b=b.b) ⟨fun h=>by cases a;cases b;simp_all,fun h=>by rw[h]⟩
instance :DecidableEq InfT:=fun a b=>decidable_of_iff ((a.name=b.name/\a.form=b.form/\a.ra=b.ra)/\(a.wa=b.wa/\a.rb=b.rb/\a.mt=b.mt/\a.words=b.words)) ⟨fun h=>by cases a;cases b;simp_all,fun h=>by rw[h];simp⟩
theorem ex37{op:Int}(A:1<=op/\op<=37): ∃k:Fin 37,op=(k.val:Int)+1:=⟨⟨(op-1).toNat,by omega⟩,by show op=((op-1).toNat:Int)+1;omega⟩
theorem bJ{op k r:Int}(h:op=k)(A:r=dM k):r=dM op:=by rw[h];exact A
theorem ct{op:Int}{b:Bool}(h:b=true↔(op=3\/op=6\/(9<=op/\op<=13)\/(15<=op/\op<=35)\/op=38)):b=alV op:=by unfold alV;cases b<;>simp_all
theorem pick_c(n:Int)(m:Int)(H:Heap)(U:0<m/\m<9223372036854775808):kKt ex 17 [(iI n),(iI m)] H fun v H'=> ∃(r:Int),H'=H/\v= .int .i64 r/\r=bQ n m:=by
 have N: -m<n.tmod m:=Int.lt_tmod_of_pos n U.1;have T:n.tmod m<m:=Int.tmod_lt_of_pos n U.1;refine aD Tryd.func17 rfl rfl (aA 1 rfl (wT 2 [] 4 4 [] [(4,(iI 0))] rfl fun _=>wU 3 [] 5 7 [0] [(0,(iI (Int.tmod n m)))] (show m≠0 from by omega) rfl fun _=>wT 1 [] 8 9 [] [(9,(.bool (decide (Int.tmod n m<0))))] rfl fun _=>zi 0 2 (fun A=>?_) fun A=>?_))
 ·have E:=A;try simp only[BS]at E
  refine wU 2 [] 10 12 [0] [(0,(iI ((Int.tmod n m)+m)))] (vi (n:=(Int.tmod n m)+m)) rfl fun _=>wT 1 [] 4 4 [13] [(4,(iI ((Int.tmod n m)+m)))] rfl fun _=>aj ⟨.inr rfl,_,rfl,(Int.tmod n m)+m,rfl,rfl,(by simp only[bQ,A,cond_true,cond_false])⟩
 have E:=A;try simp only[BS]at E
 refine wT 1 [] 4 4 [13] [(4,(iI (Int.tmod n m)))] rfl fun _=>aj ⟨.inr rfl,_,rfl,Int.tmod n m,rfl,rfl,(by simp only[bQ,A,cond_true,cond_false])⟩
theorem gp(n:Int)(m:Int)(H:Heap)(A:0<m/\m<9223372036854775808):kKt ex 17 [(iI n),(iI m)] H fun v H'=>v=(iI (bQ n m))/\H'=H:=
 cq (pick_c ex n m H A) (by rintro _ _ ⟨_,rfl,rfl,rfl⟩;exact⟨rfl,rfl⟩)
theorem mInfo_c(op:Int)(hs:HS (.of H []) F H [] R)(ao:in64 op)(hT:TB 37 tabC F):kKt ex 97 [(iI op)] H fun v H'=> ∃(x:InfT) (o:Bool) (F':Fz),Fz.le F F'/\HS (.of H []) F' H' [] R/\v= .tuple ⟨[.agg ⟨[.string ⟨⟨x.name.b⟩⟩,.int .i64 x.form,.bool x.ra,.bool x.wa,.bool x.rb,.bool x.mt,.int .i64 x.words]⟩,.bool o]⟩/\in64 x.form/\in64 x.words/\x=aN op/\o=infO op:=by
 have tl:eY.length=37:=rfl;refine aD Tryd.func97 rfl rfl (zf 1 (aa (aB (be hs rfl) rfl rfl ?_)));rintro _ H2 _ ⟨Z,rfl,(A:HS _ _ _ [(fP Z [(.string ⟨⟨[]⟩⟩),(iI 0),(.bool false),(.bool false),(.bool false),(.bool false),(iI 0)])] _),_⟩;refine za (.bool false) (au 3 rfl (wT 1 [] 4 9 [] [(9,(.bool ((decide (op<1))||(decide ((37:Int)<op)))))] rfl fun _=>zi 1 2 (fun V=>?_) fun V=>?_))
 ·try simp only[BS]at V
  refine aa (wTo 1 0 [] 10 10 [] [(10,(aG [(.string ⟨⟨[]⟩⟩),(iI 0),(.bool false),(.bool false),(.bool false),(.bool false),(iI 0)]))] rfl fun _=>aH (az (q:=0) A rfl rfl rfl rfl rfl rfl rfl rfl rfl) rfl ?_);rintro _ H6 _ ⟨(N:HS _ _ _ [_] _),_⟩;refine za (.bool false) (ze 1 (aj ⟨.inr rfl,_,(rC rfl (ldVN rfl rfl (HS.hc N (i:=0) rfl) rfl) (rT rfl rN)),(⟨⟨[]⟩,0,false,false,false,false,0⟩:InfT),false,_,fR,(HS.forget N),rfl,(by(dsimp only;omega)),(by(dsimp only;omega)),(infV_no (op:=op) (by omega)),(infO_no (op:=op) (by omega)).symm⟩))
 try simp only[BS]at V
 refine aa ?_;obtain⟨an,T⟩:=Sv.view (SR.sv (tab_sr hT) A);obtain⟨ad,ag⟩:=InfT.fx (T (op-1).toNat);let U:Value:=(aG [(.string ⟨⟨(eY.getD (op-1).toNat default).name.b⟩⟩),(iI (eY.getD (op-1).toNat default).form),(.bool (eY.getD (op-1).toNat default).ra),(.bool (eY.getD (op-1).toNat default).wa),(.bool (eY.getD (op-1).toNat default).rb),(.bool (eY.getD (op-1).toNat default).mt),(iI (eY.getD (op-1).toNat default).words)])
 refine wRo 5 0 [(0,.o (sL (some ⟨1,0,none⟩) eY.length 37)),(4,.o U)] 11 15 [] [(15,U)] (vA (ql 168 0 (TB.hc (hT.heap A)) rfl rfl) (vA (vi (n:=op-1)) (vA (Sv.ix (j:=op-1) (SR.sv (tab_sr hT) A)) (vA (qn 105 0 7 (InfT.vw (T (op-1).toNat)) rfl rfl rfl rfl) trivial)))) rfl fun _=>aH (az (q:=0) A rfl rfl rfl rfl rfl rfl rfl rfl rfl) rfl ?_
 rintro _ al _ ⟨(E:HS _ _ _ [(fP Z [(.string ⟨⟨(eY.getD (op-1).toNat default).name.b⟩⟩),(iI (eY.getD (op-1).toNat default).form),(.bool (eY.getD (op-1).toNat default).ra),(.bool (eY.getD (op-1).toNat default).wa),(.bool (eY.getD (op-1).toNat default).rb),(.bool (eY.getD (op-1).toNat default).mt),(iI (eY.getD (op-1).toNat default).words)])] _),_⟩;refine za (.bool true) (ze 1 (aj ⟨.inr rfl,_,(rC rfl (ldVN rfl rfl (HS.hc E (i:=0) rfl) rfl) (rT rfl rN)),(⟨⟨(eY.getD (op-1).toNat default).name.b⟩,(eY.getD (op-1).toNat default).form,(eY.getD (op-1).toNat default).ra,(eY.getD (op-1).toNat default).wa,(eY.getD (op-1).toNat default).rb,(eY.getD (op-1).toNat default).mt,(eY.getD (op-1).toNat default).words⟩:InfT),true,_,fR,(HS.forget E),rfl,(by omega),(by omega),(infV_at (op:=op) (by omega)),(infO_at (op:=op) (by omega)).symm⟩))
theorem isBin_c(op:Int)(H:Heap):kKt ex 109 [(iI op)] H fun v H'=> ∃(r:Bool),H'=H/\v= .bool r/\r=decide (17<=op/\op<=32):=by refine aD Tryd.func109 rfl rfl (aA 1 rfl (wT 2 [] 2 2 [] [(2,(.bool false))] rfl fun _=>wT 1 [] 2 8 [] [(2,(.bool ((decide ((17:Int)<=op))&&(decide (op<=32)))))] rfl fun _=>aj ⟨.inr rfl,_,rfl,((decide ((17:Int)<=op))&&(decide (op<=32))),rfl,rfl,(by rw[a0o];simp)⟩))
theorem gu(op:Int)(H:Heap):kKt ex 109 [(iI op)] H fun v H'=>v=(.bool (decide (17<=op/\op<=32)))/\H'=H:=
 cq (isBin_c ex op H) (by rintro _ _ ⟨_,rfl,rfl,rfl⟩;exact⟨rfl,rfl⟩)
theorem form_c(op:Int)(H:Heap):kKt ex 107 [(iI op)] H fun v H'=> ∃(r:Int),H'=H/\v= .int .i64 r/\r=dM op:=by
 refine aD Tryd.func107 rfl rfl (aA 1 rfl (wT 3 [] 2 2 [] [(2,(iI 0))] rfl fun _=>wT 4 [] 3 3 [] [(3,(iI op))] rfl fun _=>wT 1 [] 4 5 [] [(4,(.bool (op==1)))] rfl fun _=>zi 1 1 (fun ar=>?_) fun ar=>?_))
 ·have c4:=ar;try simp only[BS]at c4
  refine bB 1 (v:=(op==1)) rfl ar rfl rfl (wT 1 [] 2 2 [] [(2,(iI 1))] rfl fun _=>aj ⟨.inr rfl,_,rfl,1,rfl,rfl,(bJ (by assumption) (by decide))⟩)
 have c4:=ar;try simp only[BS]at c4
 refine wT 1 [] 4 6 [] [(4,(.bool (op==2)))] rfl fun _=>zi 1 0 (fun av=>?_) fun av=>?_
 ·have c7:=av;try simp only[BS]at c7
  refine bB 1 (v:=(op==2)) rfl av rfl rfl (wT 1 [] 2 2 [] [(2,(iI 1))] rfl fun _=>aj ⟨.inr rfl,_,rfl,1,rfl,rfl,(bJ (by assumption) (by decide))⟩)
 have c7:=av;try simp only[BS]at c7
 refine wT 1 [] 4 7 [] [(4,(.bool (op==3)))] rfl fun _=>zi 1 2 (fun aw=>?_) fun aw=>?_
 ·try simp only[BS]at aw
  refine wT 1 [] 2 2 [] [(2,(iI 1))] rfl fun _=>aj ⟨.inr rfl,_,rfl,1,rfl,rfl,(bJ (by assumption) (by decide))⟩
 try simp only[BS]at aw
 refine wT 1 [] 8 9 [] [(8,(.bool (op==4)))] rfl fun _=>zi 1 0 (fun A=>?_) fun A=>?_
 ·have ax:=A;try simp only[BS]at ax
  refine bB 1 (v:=(op==4)) rfl A rfl rfl (wT 1 [] 2 2 [] [(2,(iI 8))] rfl fun _=>aj ⟨.inr rfl,_,rfl,8,rfl,rfl,(bJ (by assumption) (by decide))⟩)
 have ax:=A;try simp only[BS]at ax
 refine wT 1 [] 8 10 [] [(8,(.bool (op==5)))] rfl fun _=>zi 1 2 (fun ay=>?_) fun ay=>?_
 ·try simp only[BS]at ay
  refine wT 1 [] 2 2 [] [(2,(iI 8))] rfl fun _=>aj ⟨.inr rfl,_,rfl,8,rfl,rfl,(bJ (by assumption) (by decide))⟩
 try simp only[BS]at ay
 refine wT 1 [] 11 12 [] [(11,(.bool (op==6)))] rfl fun _=>zi 1 1 (fun E=>?_) fun E=>?_
 ·have a0:=E;try simp only[BS]at a0
  refine bB 1 (v:=(op==6)) rfl E rfl rfl (wT 1 [] 2 2 [] [(2,(iI 5))] rfl fun _=>aj ⟨.inr rfl,_,rfl,5,rfl,rfl,(bJ (by assumption) (by decide))⟩)
 have a0:=E;try simp only[BS]at a0
 refine wT 1 [] 11 13 [] [(11,(.bool (op==7)))] rfl fun _=>zi 1 1 (fun N=>?_) fun N=>?_
 ·have a1:=N;try simp only[BS]at a1
  refine bB 1 (v:=(op==7)) rfl N rfl rfl (wT 1 [] 2 2 [] [(2,(iI 5))] rfl fun _=>aj ⟨.inr rfl,_,rfl,5,rfl,rfl,(bJ (by assumption) (by decide))⟩)
 have a1:=N;try simp only[BS]at a1
 refine wT 1 [] 11 14 [] [(11,(.bool (op==8)))] rfl fun _=>zi 1 1 (fun T=>?_) fun T=>?_
 ·have a2:=T;try simp only[BS]at a2
  refine bB 1 (v:=(op==8)) rfl T rfl rfl (wT 1 [] 2 2 [] [(2,(iI 5))] rfl fun _=>aj ⟨.inr rfl,_,rfl,5,rfl,rfl,(bJ (by assumption) (by decide))⟩)
 have a2:=T;try simp only[BS]at a2
 refine wT 1 [] 11 15 [] [(11,(.bool (op==13)))] rfl fun _=>zi 1 1 (fun U=>?_) fun U=>?_
 ·have a3:=U;try simp only[BS]at a3
  refine bB 1 (v:=(op==13)) rfl U rfl rfl (wT 1 [] 2 2 [] [(2,(iI 5))] rfl fun _=>aj ⟨.inr rfl,_,rfl,5,rfl,rfl,(bJ (by assumption) (by decide))⟩)
 have a3:=U;try simp only[BS]at a3
 refine wT 1 [] 11 16 [] [(11,(.bool (op==33)))] rfl fun _=>zi 1 1 (fun V=>?_) fun V=>?_
 ·have a4:=V;try simp only[BS]at a4
  refine bB 1 (v:=(op==33)) rfl V rfl rfl (wT 1 [] 2 2 [] [(2,(iI 5))] rfl fun _=>aj ⟨.inr rfl,_,rfl,5,rfl,rfl,(bJ (by assumption) (by decide))⟩)
 have a4:=V;try simp only[BS]at a4
 refine wT 1 [] 11 17 [] [(11,(.bool (op==36)))] rfl fun _=>zi 1 0 (fun Z=>?_) fun Z=>?_
 ·have a5:=Z;try simp only[BS]at a5
  refine bB 1 (v:=(op==36)) rfl Z rfl rfl (wT 1 [] 2 2 [] [(2,(iI 5))] rfl fun _=>aj ⟨.inr rfl,_,rfl,5,rfl,rfl,(bJ (by assumption) (by decide))⟩)
 have a5:=Z;try simp only[BS]at a5
 refine wT 1 [] 11 18 [] [(11,(.bool (op==37)))] rfl fun _=>zi 1 2 (fun a6=>?_) fun a6=>?_
 ·try simp only[BS]at a6
  refine wT 1 [] 2 2 [] [(2,(iI 5))] rfl fun _=>aj ⟨.inr rfl,_,rfl,5,rfl,rfl,(bJ (by assumption) (by decide))⟩
 try simp only[BS]at a6
 refine wT 1 [] 19 20 [] [(19,(.bool (op==9)))] rfl fun _=>zi 1 1 (fun ad=>?_) fun ad=>?_
 ·have a7:=ad;try simp only[BS]at a7
  refine bB 1 (v:=(op==9)) rfl ad rfl rfl (wT 1 [] 2 2 [] [(2,(iI 2))] rfl fun _=>aj ⟨.inr rfl,_,rfl,2,rfl,rfl,(bJ (by assumption) (by decide))⟩)
 have a7:=ad;try simp only[BS]at a7
 refine wT 1 [] 19 21 [] [(19,(.bool (op==15)))] rfl fun _=>zi 1 0 (fun ag=>?_) fun ag=>?_
 ·have a8:=ag;try simp only[BS]at a8
  refine bB 1 (v:=(op==15)) rfl ag rfl rfl (wT 1 [] 2 2 [] [(2,(iI 2))] rfl fun _=>aj ⟨.inr rfl,_,rfl,2,rfl,rfl,(bJ (by assumption) (by decide))⟩)
 have a8:=ag;try simp only[BS]at a8
 refine wT 1 [] 19 22 [] [(19,(.bool (op==16)))] rfl fun _=>zi 1 2 (fun a9=>?_) fun a9=>?_
 ·try simp only[BS]at a9
  refine wT 1 [] 2 2 [] [(2,(iI 2))] rfl fun _=>aj ⟨.inr rfl,_,rfl,2,rfl,rfl,(bJ (by assumption) (by decide))⟩
 try simp only[BS]at a9
 refine wT 1 [] 23 24 [] [(23,(.bool (op==11)))] rfl fun _=>zi 1 0 (fun al=>?_) fun al=>?_
 ·have bb:=al;try simp only[BS]at bb
  refine bB 1 (v:=(op==11)) rfl al rfl rfl (wT 1 [] 2 2 [] [(2,(iI 4))] rfl fun _=>aj ⟨.inr rfl,_,rfl,4,rfl,rfl,(bJ (by assumption) (by decide))⟩)
 have bb:=al;try simp only[BS]at bb
 refine wT 1 [] 23 25 [] [(23,(.bool (op==12)))] rfl fun _=>zi 1 1 (fun bk=>?_) fun bk=>?_
 ·try simp only[BS]at bk
  refine wT 1 [] 2 2 [] [(2,(iI 4))] rfl fun _=>aj ⟨.inr rfl,_,rfl,4,rfl,rfl,(bJ (by assumption) (by decide))⟩
 try simp only[BS]at bk
 refine wT 1 [] 26 27 [] [(26,(.bool (op==14)))] rfl fun _=>zi 1 2 (fun bl=>?_) fun bl=>?_
 ·try simp only[BS]at bl
  refine wT 1 [] 2 2 [] [(2,(iI 6))] rfl fun _=>aj ⟨.inr rfl,_,rfl,6,rfl,rfl,(bJ (by assumption) (by decide))⟩
 try simp only[BS]at bl
 refine wT 1 [] 28 29 [] [(28,(.bool (op==34)))] rfl fun _=>zi 1 0 (fun an=>?_) fun an=>?_
 ·have bz:=an;try simp only[BS]at bz
  refine bB 1 (v:=(op==34)) rfl an rfl rfl (wT 1 [] 2 2 [] [(2,(iI 7))] rfl fun _=>aj ⟨.inr rfl,_,rfl,7,rfl,rfl,(bJ (by assumption) (by decide))⟩)
 have bz:=an;try simp only[BS]at bz
 refine wT 1 [] 28 30 [] [(28,(.bool (op==35)))] rfl fun _=>zi 1 4 (fun b0=>?_) fun b0=>?_
 ·try simp only[BS]at b0
  refine wT 1 [] 2 2 [] [(2,(iI 7))] rfl fun _=>aj ⟨.inr rfl,_,rfl,7,rfl,rfl,(bJ (by assumption) (by decide))⟩
 try simp only[BS]at b0
 refine wU 1 [(4,.o (.bool (decide (17<=op/\op<=32))))] 31 36 [] [(36,(.bool ((op==10)||decide (17<=op/\op<=32))))] (fun(g1:(op==10)=false)=>(gu ex op H)) rfl fun _=>zi 1 2 (fun b1=>?_) fun b1=>?_
 ·try simp only[BS]at b1
  refine wT 1 [] 2 2 [] [(2,(iI 3))] rfl fun _=>aj ⟨.inr rfl,_,rfl,3,rfl,rfl,(by(unfold dM;(repeat' split)<;>omega))⟩
 try simp only[BS]at b1
 refine wT 1 [] 2 2 [] [(2,(iI 0))] rfl fun _=>aj ⟨.inr rfl,_,rfl,0,rfl,rfl,(by(unfold dM;(repeat' split)<;>omega))⟩
theorem form_c_q(op:Int)(H:Heap):kKt ex 107 [(iI op)] H fun v H'=>v=(iI (dM op))/\H'=H:=
 cq (form_c ex op H) (by rintro _ _ ⟨_,rfl,rfl,rfl⟩;exact⟨rfl,rfl⟩)
theorem names_c(hs:HS (.of H []) F H [] R)(hT:TB 37 tabC F):kKt ex 108 [] H fun v H'=> ∃(V:Option Addr) (Z:Nat) (r:List Str) (p:Fp) (F':Fz),Fz.le F F'/\HS (.of H []) F' H' [p] R/\v=sL V r.length Z/\OS F' (sL V r.length Z) r p/\r=ed:=by refine aD Tryd.func108 rfl rfl (zf 1 (wT 2 [] 0 0 [] [(0,(sL none 0 0))] rfl fun _=>aa (aB (aT (α:=Str) (ps:=[(0,(.string ⟨⟨[]⟩⟩)),(1,(.string ⟨⟨[110,111,112]⟩⟩)),(2,(.string ⟨⟨[114,101,116]⟩⟩)),(3,(.string ⟨⟨[116,105,99,107]⟩⟩)),(4,(.string ⟨⟨[116,114,97,112]⟩⟩)),(5,(.string ⟨⟨[106,109,112]⟩⟩)),(6,(.string ⟨⟨[99,97,108,108]⟩⟩)),(7,(.string ⟨⟨[106,122]⟩⟩)),(8,(.string ⟨⟨[106,110,122]⟩⟩)),(9,(.string ⟨⟨[111,117,116]⟩⟩)),(10,(.string ⟨⟨[109,111,118]⟩⟩)),(11,(.string ⟨⟨[99,109,111,118,122]⟩⟩)),(12,(.string ⟨⟨[99,109,111,118,110,122]⟩⟩)),(13,(.string ⟨⟨[108,100,105]⟩⟩)),(14,(.string ⟨⟨[108,100,99]⟩⟩)),(15,(.string ⟨⟨[110,101,103]⟩⟩)),(16,(.string ⟨⟨[110,111,116]⟩⟩)),(17,(.string ⟨⟨[97,100,100]⟩⟩)),(18,(.string ⟨⟨[115,117,98]⟩⟩)),(19,(.string ⟨⟨[109,117,108]⟩⟩)),(20,(.string ⟨⟨[100,105,118]⟩⟩)),(21,(.string ⟨⟨[114,101,109]⟩⟩)),(22,(.string ⟨⟨[97,110,100]⟩⟩)),(23,(.string ⟨⟨[111,114]⟩⟩)),(24,(.string ⟨⟨[120,111,114]⟩⟩)),(25,(.string ⟨⟨[115,104,108]⟩⟩)),(26,(.string ⟨⟨[115,104,114]⟩⟩)),(27,(.string ⟨⟨[115,97,114]⟩⟩)),(28,(.string ⟨⟨[101,113]⟩⟩)),(29,(.string ⟨⟨[110,101]⟩⟩)),(30,(.string ⟨⟨[108,116]⟩⟩)),(31,(.string ⟨⟨[108,101]⟩⟩)),(32,(.string ⟨⟨[108,116,117]⟩⟩)),(33,(.string ⟨⟨[97,100,100,105]⟩⟩)),(34,(.string ⟨⟨[108,100]⟩⟩)),(35,(.string ⟨⟨[115,116]⟩⟩)),(36,(.string ⟨⟨[108,100,115]⟩⟩)),(37,(.string ⟨⟨[115,116,115]⟩⟩))]) (cells:=[(.string ⟨⟨[]⟩⟩),(.string ⟨⟨[110,111,112]⟩⟩),(.string ⟨⟨[114,101,116]⟩⟩),(.string ⟨⟨[116,105,99,107]⟩⟩),(.string ⟨⟨[116,114,97,112]⟩⟩),(.string ⟨⟨[106,109,112]⟩⟩),(.string ⟨⟨[99,97,108,108]⟩⟩),(.string ⟨⟨[106,122]⟩⟩),(.string ⟨⟨[106,110,122]⟩⟩),(.string ⟨⟨[111,117,116]⟩⟩),(.string ⟨⟨[109,111,118]⟩⟩),(.string ⟨⟨[99,109,111,118,122]⟩⟩),(.string ⟨⟨[99,109,111,118,110,122]⟩⟩),(.string ⟨⟨[108,100,105]⟩⟩),(.string ⟨⟨[108,100,99]⟩⟩),(.string ⟨⟨[110,101,103]⟩⟩),(.string ⟨⟨[110,111,116]⟩⟩),(.string ⟨⟨[97,100,100]⟩⟩),(.string ⟨⟨[115,117,98]⟩⟩),(.string ⟨⟨[109,117,108]⟩⟩),(.string ⟨⟨[100,105,118]⟩⟩),(.string ⟨⟨[114,101,109]⟩⟩),(.string ⟨⟨[97,110,100]⟩⟩),(.string ⟨⟨[111,114]⟩⟩),(.string ⟨⟨[120,111,114]⟩⟩),(.string ⟨⟨[115,104,108]⟩⟩),(.string ⟨⟨[115,104,114]⟩⟩),(.string ⟨⟨[115,97,114]⟩⟩),(.string ⟨⟨[101,113]⟩⟩),(.string ⟨⟨[110,101]⟩⟩),(.string ⟨⟨[108,116]⟩⟩),(.string ⟨⟨[108,101]⟩⟩),(.string ⟨⟨[108,116,117]⟩⟩),(.string ⟨⟨[97,100,100,105]⟩⟩),(.string ⟨⟨[108,100]⟩⟩),(.string ⟨⟨[115,116]⟩⟩),(.string ⟨⟨[108,100,115]⟩⟩),(.string ⟨⟨[115,116,115]⟩⟩)]) ([⟨[]⟩,⟨[110,111,112]⟩,⟨[114,101,116]⟩,⟨[116,105,99,107]⟩,⟨[116,114,97,112]⟩,⟨[106,109,112]⟩,⟨[99,97,108,108]⟩,⟨[106,122]⟩,⟨[106,110,122]⟩,⟨[111,117,116]⟩,⟨[109,111,118]⟩,⟨[99,109,111,118,122]⟩,⟨[99,109,111,118,110,122]⟩,⟨[108,100,105]⟩,⟨[108,100,99]⟩,⟨[110,101,103]⟩,⟨[110,111,116]⟩,⟨[97,100,100]⟩,⟨[115,117,98]⟩,⟨[109,117,108]⟩,⟨[100,105,118]⟩,⟨[114,101,109]⟩,⟨[97,110,100]⟩,⟨[111,114]⟩,⟨[120,111,114]⟩,⟨[115,104,108]⟩,⟨[115,104,114]⟩,⟨[115,97,114]⟩,⟨[101,113]⟩,⟨[110,101]⟩,⟨[108,116]⟩,⟨[108,101]⟩,⟨[108,116,117]⟩,⟨[97,100,100,105]⟩,⟨[108,100]⟩,⟨[115,116]⟩,⟨[108,100,115]⟩,⟨[115,116,115]⟩]:List Str) hs rfl rfl rfl (by kernel_rfl) ⟨[(.string ⟨⟨[]⟩⟩)],_,rfl,rfl,⟨[(.string ⟨⟨[110,111,112]⟩⟩)],_,rfl,rfl,⟨[(.string ⟨⟨[114,101,116]⟩⟩)],_,rfl,rfl,⟨[(.string ⟨⟨[116,105,99,107]⟩⟩)],_,rfl,rfl,⟨[(.string ⟨⟨[116,114,97,112]⟩⟩)],_,rfl,rfl,⟨[(.string ⟨⟨[106,109,112]⟩⟩)],_,rfl,rfl,⟨[(.string ⟨⟨[99,97,108,108]⟩⟩)],_,rfl,rfl,⟨[(.string ⟨⟨[106,122]⟩⟩)],_,rfl,rfl,⟨[(.string ⟨⟨[106,110,122]⟩⟩)],_,rfl,rfl,⟨[(.string ⟨⟨[111,117,116]⟩⟩)],_,rfl,rfl,⟨[(.string ⟨⟨[109,111,118]⟩⟩)],_,rfl,rfl,⟨[(.string ⟨⟨[99,109,111,118,122]⟩⟩)],_,rfl,rfl,⟨[(.string ⟨⟨[99,109,111,118,110,122]⟩⟩)],_,rfl,rfl,⟨[(.string ⟨⟨[108,100,105]⟩⟩)],_,rfl,rfl,⟨[(.string ⟨⟨[108,100,99]⟩⟩)],_,rfl,rfl,⟨[(.string ⟨⟨[110,101,103]⟩⟩)],_,rfl,rfl,⟨[(.string ⟨⟨[110,111,116]⟩⟩)],_,rfl,rfl,⟨[(.string ⟨⟨[97,100,100]⟩⟩)],_,rfl,rfl,⟨[(.string ⟨⟨[115,117,98]⟩⟩)],_,rfl,rfl,⟨[(.string ⟨⟨[109,117,108]⟩⟩)],_,rfl,rfl,⟨[(.string ⟨⟨[100,105,118]⟩⟩)],_,rfl,rfl,⟨[(.string ⟨⟨[114,101,109]⟩⟩)],_,rfl,rfl,⟨[(.string ⟨⟨[97,110,100]⟩⟩)],_,rfl,rfl,⟨[(.string ⟨⟨[111,114]⟩⟩)],_,rfl,rfl,⟨[(.string ⟨⟨[120,111,114]⟩⟩)],_,rfl,rfl,⟨[(.string ⟨⟨[115,104,108]⟩⟩)],_,rfl,rfl,⟨[(.string ⟨⟨[115,104,114]⟩⟩)],_,rfl,rfl,⟨[(.string ⟨⟨[115,97,114]⟩⟩)],_,rfl,rfl,⟨[(.string ⟨⟨[101,113]⟩⟩)],_,rfl,rfl,⟨[(.string ⟨⟨[110,101]⟩⟩)],_,rfl,rfl,⟨[(.string ⟨⟨[108,116]⟩⟩)],_,rfl,rfl,⟨[(.string ⟨⟨[108,101]⟩⟩)],_,rfl,rfl,⟨[(.string ⟨⟨[108,116,117]⟩⟩)],_,rfl,rfl,⟨[(.string ⟨⟨[97,100,100,105]⟩⟩)],_,rfl,rfl,⟨[(.string ⟨⟨[108,100]⟩⟩)],_,rfl,rfl,⟨[(.string ⟨⟨[115,116]⟩⟩)],_,rfl,rfl,⟨[(.string ⟨⟨[108,100,115]⟩⟩)],_,rfl,rfl,⟨[(.string ⟨⟨[115,116,115]⟩⟩)],_,rfl,rfl,rfl⟩⟩⟩⟩⟩⟩⟩⟩⟩⟩⟩⟩⟩⟩⟩⟩⟩⟩⟩⟩⟩⟩⟩⟩⟩⟩⟩⟩⟩⟩⟩⟩⟩⟩⟩⟩⟩⟩ rfl) rfl rfl ?_)));rintro _ U T ⟨A,k2,rfl,E,(N:HS _ _ _ [T] _),_⟩;refine za (sL A ([⟨[]⟩,⟨[110,111,112]⟩,⟨[114,101,116]⟩,⟨[116,105,99,107]⟩,⟨[116,114,97,112]⟩,⟨[106,109,112]⟩,⟨[99,97,108,108]⟩,⟨[106,122]⟩,⟨[106,110,122]⟩,⟨[111,117,116]⟩,⟨[109,111,118]⟩,⟨[99,109,111,118,122]⟩,⟨[99,109,111,118,110,122]⟩,⟨[108,100,105]⟩,⟨[108,100,99]⟩,⟨[110,101,103]⟩,⟨[110,111,116]⟩,⟨[97,100,100]⟩,⟨[115,117,98]⟩,⟨[109,117,108]⟩,⟨[100,105,118]⟩,⟨[114,101,109]⟩,⟨[97,110,100]⟩,⟨[111,114]⟩,⟨[120,111,114]⟩,⟨[115,104,108]⟩,⟨[115,104,114]⟩,⟨[115,97,114]⟩,⟨[101,113]⟩,⟨[110,101]⟩,⟨[108,116]⟩,⟨[108,101]⟩,⟨[108,116,117]⟩,⟨[97,100,100,105]⟩,⟨[108,100]⟩,⟨[115,116]⟩,⟨[108,100,115]⟩,⟨[115,116,115]⟩]:List Str).length k2) (ze 1 (aj ⟨.inr rfl,_,rfl,A,k2,([⟨[]⟩,⟨[110,111,112]⟩,⟨[114,101,116]⟩,⟨[116,105,99,107]⟩,⟨[116,114,97,112]⟩,⟨[106,109,112]⟩,⟨[99,97,108,108]⟩,⟨[106,122]⟩,⟨[106,110,122]⟩,⟨[111,117,116]⟩,⟨[109,111,118]⟩,⟨[99,109,111,118,122]⟩,⟨[99,109,111,118,110,122]⟩,⟨[108,100,105]⟩,⟨[108,100,99]⟩,⟨[110,101,103]⟩,⟨[110,111,116]⟩,⟨[97,100,100]⟩,⟨[115,117,98]⟩,⟨[109,117,108]⟩,⟨[100,105,118]⟩,⟨[114,101,109]⟩,⟨[97,110,100]⟩,⟨[111,114]⟩,⟨[120,111,114]⟩,⟨[115,104,108]⟩,⟨[115,104,114]⟩,⟨[115,97,114]⟩,⟨[101,113]⟩,⟨[110,101]⟩,⟨[108,116]⟩,⟨[108,101]⟩,⟨[108,116,117]⟩,⟨[97,100,100,105]⟩,⟨[108,100]⟩,⟨[115,116]⟩,⟨[108,100,115]⟩,⟨[115,116,115]⟩]:List Str),T,_,fR,(HS.only N (i:=0) rfl),rfl,E,(by rfl)⟩))
theorem rInfo_c(op:Int)(hs:HS (.of H []) F H [] R)(bl:in64 op)(hT:TB 37 tabC F):kKt ex 68 [(iI op)] H fun v H'=> ∃(x:InfT) (o:Bool) (F':Fz),Fz.le F F'/\HS (.of H []) F' H' [] R/\v= .tuple ⟨[.agg ⟨[.string ⟨⟨x.name.b⟩⟩,.int .i64 x.form,.bool x.ra,.bool x.wa,.bool x.rb,.bool x.mt,.int .i64 x.words]⟩,.bool o]⟩/\in64 x.form/\in64 x.words/\x=aN op/\o=infO op:=by
 have nl:ed.length=38:=rfl;refine aD Tryd.func68 rfl rfl (zf 1 (aa (aB (be hs rfl) rfl rfl ?_)));rintro _ H2 _ ⟨b1,rfl,(ad:HS _ _ _ [(fP b1 [(.string ⟨⟨[]⟩⟩),(iI 0),(.bool false),(.bool false),(.bool false),(.bool false),(iI 0)])] _),_⟩;refine za (.bool false) (ze 2 ?_);have co:=form_imp op;refine wU 3 [(1,.o (iI (dM op)))] 8 9 [4] [(4,(iI (dM op)))] (form_c_q ex op H2) rfl fun _=>wT 1 [] 10 11 [] [(11,(.bool (dM op==0)))] rfl fun _=>zi 1 2 (fun c6=>?_) fun c6=>?_
 ·try simp only[BS]at c6
  refine aa (wTo 1 0 [] 12 12 [] [(12,(aG [(.string ⟨⟨[]⟩⟩),(iI 0),(.bool false),(.bool false),(.bool false),(.bool false),(iI 0)]))] rfl fun _=>aH (az (q:=0) ad rfl rfl rfl rfl rfl rfl rfl rfl rfl) rfl ?_);rintro _ H8 _ ⟨(av:HS _ _ _ [_] _),_⟩;refine za (.bool false) (ze 1 (aj ⟨.inr rfl,_,(rC rfl (ldVN rfl rfl (HS.hc av (i:=0) rfl) rfl) (rT rfl rN)),(⟨⟨[]⟩,0,false,false,false,false,0⟩:InfT),false,_,fR,(HS.forget av),rfl,(by(dsimp only;omega)),(by(dsimp only;omega)),(infV_no (op:=op) (by omega)),(infO_no (op:=op) (by omega)).symm⟩))
 try simp only[BS]at c6
 refine aa (zc (names_c ex (HS.call ad) hT) ?_);rintro _ H9 ⟨ch,c0,r9,p9,F9,bk,N,rfl,V,rfl⟩;replace N:HS _ _ _ [_,p9] _:=HS.back ad rfl N;obtain⟨b2,a6⟩:=Sv.view (OS.sv V N (i:=1) rfl);refine wRo 5 1 [(3,.o (.string ⟨⟨(ed.getD op.toNat default).b⟩⟩))] 14 18 [] [(18,(aG [(.string ⟨⟨(ed.getD op.toNat default).b⟩⟩),(iI (dM op)),(.bool false),(.bool false),(.bool false),(.bool false),(iI 1)]))] (vA (Sv.ix (j:=op) (OS.sv V N (i:=1) rfl)) (vA (ql 9 0 (vS (a6 op.toNat)) rfl rfl) trivial)) rfl fun _=>aB (be N rfl) rfl rfl ?_
 rintro _ b4 _ ⟨A,rfl,(a0:HS _ _ _ [_,_,(fP A [(.string ⟨⟨[]⟩⟩),(iI 0),(.bool false),(.bool false),(.bool false),(.bool false),(iI 0)])] _),_⟩;refine aH (az (q:=2) a0 rfl rfl rfl rfl rfl rfl rfl rfl rfl) rfl ?_;rintro _ b5 _ ⟨(Z:HS _ _ _ [_,_,(fP A [(.string ⟨⟨(ed.getD op.toNat default).b⟩⟩),(iI (dM op)),(.bool false),(.bool false),(.bool false),(.bool false),(iI 1)])] _),_⟩;refine ze 3 (wT 1 [] 19 20 [] [(20,(.bool (op==14)))] rfl fun _=>bP (fun f H'=> ∃(E:Int) (F':Fz),Fz.le F9 F'/\HS (Base.of H []) F' H' [(fP b1 [(.string ⟨⟨[]⟩⟩),(iI 0),(.bool false),(.bool false),(.bool false),(.bool false),(iI 0)]),p9,(fP A [(.string ⟨⟨(ed.getD op.toNat default).b⟩⟩),(iI (dM op)),(.bool false),(.bool false),(.bool false),(.bool false),(iI E)])] R/\ap f [(0,(iI op)),(2,(pT b1 0)),(5,(pT A 0))]/\(E=if op=14 then 3 else 1)/\(in64 E)) (fun an=>?_) ?_)
 ·refine zi 0 0 (fun T=>?_) fun T=>?_
  ·try simp only[BS]at T
   refine aa (wTo 1 0 [] 21 21 [] [(21,(pT A 6))] rfl fun _=>aH (az (q:=2) Z rfl rfl rfl rfl rfl rfl rfl rfl rfl) rfl ?_);rintro _ b6 _ ⟨(a2:HS _ _ _ [_,_,(fP A [(.string ⟨⟨(ed.getD op.toNat default).b⟩⟩),(iI (dM op)),(.bool false),(.bool false),(.bool false),(.bool false),(iI 3)])] _),_⟩;refine ze 0 ?_;exact an _ _ ⟨3,_,fR,a2,⟨rfl,rfl,rfl,trivial⟩,(by omega),(by omega)⟩
  try simp only[BS]at T
  exact an _ _ ⟨1,_,fR,Z,⟨rfl,rfl,rfl,trivial⟩,(by omega),(by omega)⟩
 skip;rintro ci a7 ⟨E,b3,ay,a1,U,hw,hwr⟩;refine ah _ U (fun _=>?_);clear U;refine zf 2 (wT 2 [] 22 27 [6] [(6,(.bool ((op==11)||(op==12))))] rfl fun _=>wT 2 [] 28 33 [7] [(7,(.bool ((op==15)||(op==16))))] rfl fun _=>aa (wUo 33 0 [(6,.o (.bool (decide (17<=op/\op<=32))))] 34 66 [] [(65,(.bool ((((((((((op==11)||(op==12))||((op==15)||(op==16)))||decide (17<=op/\op<=32))||(op==7))||(op==8))||(op==9))||(op==33))||(op==35))||(op==37)))),(66,(pT A 2))] (fun(g1:(((op==11)||(op==12))||((op==15)||(op==16)))=false)=>(gu ex op a7)) rfl fun _=>aH (az (q:=2) a1 rfl rfl rfl rfl rfl rfl rfl rfl rfl) rfl ?_));rintro _ a8 _ ⟨(a3:HS _ _ _ [_,_,(fP A [(.string ⟨⟨(ed.getD op.toNat default).b⟩⟩),(iI (dM op)),(.bool ((((((((((op==11)||(op==12))||((op==15)||(op==16)))||decide (17<=op/\op<=32))||(op==7))||(op==8))||(op==9))||(op==33))||(op==35))||(op==37))),(.bool false),(.bool false),(.bool false),(iI E)])] _),_⟩;refine ze 2 (aa (wUo 33 0 [(6,.o (.bool (decide (17<=op/\op<=32))))] 67 99 [] [(98,(.bool ((((((((((op==11)||(op==12))||((op==15)||(op==16)))||decide (17<=op/\op<=32))||(op==10))||(op==13))||(op==14))||(op==33))||(op==34))||(op==36)))),(99,(pT A 3))] (fun(g1:(((op==11)||(op==12))||((op==15)||(op==16)))=false)=>(gu ex op a8)) rfl fun _=>aH (az (q:=2) a3 rfl rfl rfl rfl rfl rfl rfl rfl rfl) rfl ?_));rintro _ a9 _ ⟨(a4:HS _ _ _ [_,_,(fP A [(.string ⟨⟨(ed.getD op.toNat default).b⟩⟩),(iI (dM op)),(.bool ((((((((((op==11)||(op==12))||((op==15)||(op==16)))||decide (17<=op/\op<=32))||(op==7))||(op==8))||(op==9))||(op==33))||(op==35))||(op==37))),(.bool ((((((((((op==11)||(op==12))||((op==15)||(op==16)))||decide (17<=op/\op<=32))||(op==10))||(op==13))||(op==14))||(op==33))||(op==34))||(op==36))),(.bool false),(.bool false),(iI E)])] _),_⟩;refine ze 2 (aa (wUo 18 0 [(3,.o (.bool (decide (17<=op/\op<=32))))] 100 117 [] [(116,(.bool ((((((op==11)||(op==12))||decide (17<=op/\op<=32))||(op==10))||(op==34))||(op==35)))),(117,(pT A 4))] (fun(g1:((op==11)||(op==12))=false)=>(gu ex op a9)) rfl fun _=>aH (az (q:=2) a4 rfl rfl rfl rfl rfl rfl rfl rfl rfl) rfl ?_));rintro _ b7 _ ⟨(a5:HS _ _ _ [_,_,(fP A [(.string ⟨⟨(ed.getD op.toNat default).b⟩⟩),(iI (dM op)),(.bool ((((((((((op==11)||(op==12))||((op==15)||(op==16)))||decide (17<=op/\op<=32))||(op==7))||(op==8))||(op==9))||(op==33))||(op==35))||(op==37))),(.bool ((((((((((op==11)||(op==12))||((op==15)||(op==16)))||decide (17<=op/\op<=32))||(op==10))||(op==13))||(op==14))||(op==33))||(op==34))||(op==36))),(.bool ((((((op==11)||(op==12))||decide (17<=op/\op<=32))||(op==10))||(op==34))||(op==35))),(.bool false),(iI E)])] _),_⟩;refine ze 2 (aa (wTo 19 0 [] 118 136 [] [(135,(.bool (((((op==4)||(op==20))||(op==21))||(op==34))||(op==35)))),(136,(pT A 5))] rfl fun _=>aH (az (q:=2) a5 rfl rfl rfl rfl rfl rfl rfl rfl rfl) rfl ?_));rintro _ b9 _ ⟨(ag:HS _ _ _ [_,_,(fP A [(.string ⟨⟨(ed.getD op.toNat default).b⟩⟩),(iI (dM op)),(.bool ((((((((((op==11)||(op==12))||((op==15)||(op==16)))||decide (17<=op/\op<=32))||(op==7))||(op==8))||(op==9))||(op==33))||(op==35))||(op==37))),(.bool ((((((((((op==11)||(op==12))||((op==15)||(op==16)))||decide (17<=op/\op<=32))||(op==10))||(op==13))||(op==14))||(op==33))||(op==34))||(op==36))),(.bool ((((((op==11)||(op==12))||decide (17<=op/\op<=32))||(op==10))||(op==34))||(op==35))),(.bool (((((op==4)||(op==20))||(op==21))||(op==34))||(op==35))),(iI E)])] _),_⟩;let aw:Value:=(aG [(.string ⟨⟨(ed.getD op.toNat default).b⟩⟩),(iI (dM op)),(.bool ((((((((((op==11)||(op==12))||((op==15)||(op==16)))||decide (17<=op/\op<=32))||(op==7))||(op==8))||(op==9))||(op==33))||(op==35))||(op==37))),(.bool ((((((((((op==11)||(op==12))||((op==15)||(op==16)))||decide (17<=op/\op<=32))||(op==10))||(op==13))||(op==14))||(op==33))||(op==34))||(op==36))),(.bool ((((((op==11)||(op==12))||decide (17<=op/\op<=32))||(op==10))||(op==34))||(op==35))),(.bool (((((op==4)||(op==20))||(op==21))||(op==34))||(op==35))),(iI E)])
 refine ze 2 (aa (wUo 1 0 [(0,.o aw)] 137 137 [] [(137,aw)] (qn 105 0 7 (HS.hc ag (i:=2) rfl) rfl rfl rfl rfl) rfl fun _=>aH (az (q:=0) ag rfl rfl rfl rfl rfl rfl rfl rfl rfl) rfl ?_));rintro _ cc _ ⟨(al:HS _ _ _ [(fP b1 [(.string ⟨⟨(ed.getD op.toNat default).b⟩⟩),(iI (dM op)),(.bool ((((((((((op==11)||(op==12))||((op==15)||(op==16)))||decide (17<=op/\op<=32))||(op==7))||(op==8))||(op==9))||(op==33))||(op==35))||(op==37))),(.bool ((((((((((op==11)||(op==12))||((op==15)||(op==16)))||decide (17<=op/\op<=32))||(op==10))||(op==13))||(op==14))||(op==33))||(op==34))||(op==36))),(.bool ((((((op==11)||(op==12))||decide (17<=op/\op<=32))||(op==10))||(op==34))||(op==35))),(.bool (((((op==4)||(op==20))||(op==21))||(op==34))||(op==35))),(iI E)]),_,_] _),_⟩;refine za (.bool true) (ze 1 (aj ⟨.inr rfl,_,(rC rfl (ldVN rfl rfl (HS.hc al (i:=0) rfl) rfl) (rT rfl rN)),(⟨⟨(ed.getD op.toNat default).b⟩,dM op,((((((((((op==11)||(op==12))||((op==15)||(op==16)))||decide (17<=op/\op<=32))||(op==7))||(op==8))||(op==9))||(op==33))||(op==35))||(op==37)),((((((((((op==11)||(op==12))||((op==15)||(op==16)))||decide (17<=op/\op<=32))||(op==10))||(op==13))||(op==14))||(op==33))||(op==34))||(op==36)),((((((op==11)||(op==12))||decide (17<=op/\op<=32))||(op==10))||(op==34))||(op==35)),(((((op==4)||(op==20))||(op==21))||(op==34))||(op==35)),E⟩:InfT),true,_,(fT (bk) ay),(HS.forget al),rfl,(by(dsimp only;omega)),(by omega),(by(rw[hw];obtain⟨k,hk⟩:=ex37 (op:=op) ⟨by omega,by omega⟩;rw[hk];clear hk;revert k;decide+kernel)),(infO_at (op:=op) (by omega)).symm⟩))
theorem valw_c(op:Int)(H:Heap):kKt ex 96 [(iI op)] H fun v H'=> ∃(r:Bool),H'=H/\v= .bool r/\r=alV op:=by
 refine aD Tryd.func96 rfl rfl (aA 1 rfl (wT 3 [] 2 2 [] [(2,(.bool false))] rfl fun _=>wT 4 [] 3 3 [] [(3,(iI op))] rfl fun _=>wT 1 [] 4 5 [] [(4,(.bool (op==3)))] rfl fun _=>zi 1 1 (fun ag=>?_) fun ag=>?_))
 ·have c4:=ag;try simp only[BS]at c4
  refine bB 1 (v:=(op==3)) rfl ag rfl rfl (wT 1 [] 2 2 [] [(2,(.bool true))] rfl fun _=>aj ⟨.inr rfl,_,rfl,true,rfl,rfl,(ct (by simp;omega))⟩)
 have c4:=ag;try simp only[BS]at c4
 refine wT 1 [] 4 6 [] [(4,(.bool (op==6)))] rfl fun _=>zi 1 1 (fun al=>?_) fun al=>?_
 ·have c7:=al;try simp only[BS]at c7
  refine bB 1 (v:=(op==6)) rfl al rfl rfl (wT 1 [] 2 2 [] [(2,(.bool true))] rfl fun _=>aj ⟨.inr rfl,_,rfl,true,rfl,rfl,(ct (by simp;omega))⟩)
 have c7:=al;try simp only[BS]at c7
 refine wT 1 [] 4 7 [] [(4,(.bool (op==9)))] rfl fun _=>zi 1 1 (fun A=>?_) fun A=>?_
 ·have an:=A;try simp only[BS]at an
  refine bB 1 (v:=(op==9)) rfl A rfl rfl (wT 1 [] 2 2 [] [(2,(.bool true))] rfl fun _=>aj ⟨.inr rfl,_,rfl,true,rfl,rfl,(ct (by simp;omega))⟩)
 have an:=A;try simp only[BS]at an
 refine wT 1 [] 4 8 [] [(4,(.bool (op==10)))] rfl fun _=>zi 1 1 (fun E=>?_) fun E=>?_
 ·have ar:=E;try simp only[BS]at ar
  refine bB 1 (v:=(op==10)) rfl E rfl rfl (wT 1 [] 2 2 [] [(2,(.bool true))] rfl fun _=>aj ⟨.inr rfl,_,rfl,true,rfl,rfl,(ct (by simp;omega))⟩)
 have ar:=E;try simp only[BS]at ar
 refine wT 1 [] 4 9 [] [(4,(.bool (op==11)))] rfl fun _=>zi 1 1 (fun N=>?_) fun N=>?_
 ·have av:=N;try simp only[BS]at av
  refine bB 1 (v:=(op==11)) rfl N rfl rfl (wT 1 [] 2 2 [] [(2,(.bool true))] rfl fun _=>aj ⟨.inr rfl,_,rfl,true,rfl,rfl,(ct (by simp;omega))⟩)
 have av:=N;try simp only[BS]at av
 refine wT 1 [] 4 10 [] [(4,(.bool (op==12)))] rfl fun _=>zi 1 1 (fun T=>?_) fun T=>?_
 ·have aw:=T;try simp only[BS]at aw
  refine bB 1 (v:=(op==12)) rfl T rfl rfl (wT 1 [] 2 2 [] [(2,(.bool true))] rfl fun _=>aj ⟨.inr rfl,_,rfl,true,rfl,rfl,(ct (by simp;omega))⟩)
 have aw:=T;try simp only[BS]at aw
 refine wT 1 [] 4 11 [] [(4,(.bool (op==13)))] rfl fun _=>zi 1 1 (fun U=>?_) fun U=>?_
 ·have ax:=U;try simp only[BS]at ax
  refine bB 1 (v:=(op==13)) rfl U rfl rfl (wT 1 [] 2 2 [] [(2,(.bool true))] rfl fun _=>aj ⟨.inr rfl,_,rfl,true,rfl,rfl,(ct (by simp;omega))⟩)
 have ax:=U;try simp only[BS]at ax
 refine wT 1 [] 4 12 [] [(4,(.bool (op==33)))] rfl fun _=>zi 1 1 (fun V=>?_) fun V=>?_
 ·have ay:=V;try simp only[BS]at ay
  refine bB 1 (v:=(op==33)) rfl V rfl rfl (wT 1 [] 2 2 [] [(2,(.bool true))] rfl fun _=>aj ⟨.inr rfl,_,rfl,true,rfl,rfl,(ct (by simp;omega))⟩)
 have ay:=V;try simp only[BS]at ay
 refine wT 1 [] 4 13 [] [(4,(.bool (op==34)))] rfl fun _=>zi 1 1 (fun Z=>?_) fun Z=>?_
 ·have a0:=Z;try simp only[BS]at a0
  refine bB 1 (v:=(op==34)) rfl Z rfl rfl (wT 1 [] 2 2 [] [(2,(.bool true))] rfl fun _=>aj ⟨.inr rfl,_,rfl,true,rfl,rfl,(ct (by simp;omega))⟩)
 have a0:=Z;try simp only[BS]at a0
 refine wT 1 [] 4 14 [] [(4,(.bool (op==35)))] rfl fun _=>zi 1 0 (fun ad=>?_) fun ad=>?_
 ·have a1:=ad;try simp only[BS]at a1
  refine bB 1 (v:=(op==35)) rfl ad rfl rfl (wT 1 [] 2 2 [] [(2,(.bool true))] rfl fun _=>aj ⟨.inr rfl,_,rfl,true,rfl,rfl,(ct (by simp;omega))⟩)
 have a1:=ad;try simp only[BS]at a1
 refine wT 1 [] 4 15 [] [(4,(.bool (op==38)))] rfl fun _=>zi 1 3 (fun a2=>?_) fun a2=>?_
 ·try simp only[BS]at a2
  refine wT 1 [] 2 2 [] [(2,(.bool true))] rfl fun _=>aj ⟨.inr rfl,_,rfl,true,rfl,rfl,(ct (by simp;omega))⟩
 try simp only[BS]at a2
 refine wT 1 [] 16 21 [2] [(2,(.bool ((decide ((15:Int)<=op))&&(decide (op<=32)))))] rfl fun _=>aj ⟨.inr rfl,_,rfl,((decide ((15:Int)<=op))&&(decide (op<=32))),rfl,rfl,(ct (by simp;omega))⟩
theorem kE(op:Int)(H:Heap):kKt ex 96 [(iI op)] H fun v H'=>v=(.bool (alV op))/\H'=H:=
 cq (valw_c ex op H) (by rintro _ _ ⟨_,rfl,rfl,rfl⟩;exact⟨rfl,rfl⟩)
theorem ralw_c(op:Int)(H:Heap):kKt ex 84 [(iI op)] H fun v H'=> ∃(r:Bool),H'=H/\v= .bool r/\r=alV op:=by
 refine aD Tryd.func84 rfl rfl (aA 1 rfl (wT 3 [] 2 2 [] [(2,(.bool false))] rfl fun _=>wT 4 [] 3 3 [] [(3,(iI op))] rfl fun _=>wT 1 [] 4 5 [] [(4,(.bool (op==3)))] rfl fun _=>zi 1 1 (fun ag=>?_) fun ag=>?_))
 ·have c4:=ag;try simp only[BS]at c4
  refine bB 1 (v:=(op==3)) rfl ag rfl rfl (wT 1 [] 2 2 [] [(2,(.bool true))] rfl fun _=>aj ⟨.inr rfl,_,rfl,true,rfl,rfl,(ct (by simp;omega))⟩)
 have c4:=ag;try simp only[BS]at c4
 refine wT 1 [] 4 6 [] [(4,(.bool (op==6)))] rfl fun _=>zi 1 1 (fun al=>?_) fun al=>?_
 ·have c7:=al;try simp only[BS]at c7
  refine bB 1 (v:=(op==6)) rfl al rfl rfl (wT 1 [] 2 2 [] [(2,(.bool true))] rfl fun _=>aj ⟨.inr rfl,_,rfl,true,rfl,rfl,(ct (by simp;omega))⟩)
 have c7:=al;try simp only[BS]at c7
 refine wT 1 [] 4 7 [] [(4,(.bool (op==9)))] rfl fun _=>zi 1 1 (fun A=>?_) fun A=>?_
 ·have an:=A;try simp only[BS]at an
  refine bB 1 (v:=(op==9)) rfl A rfl rfl (wT 1 [] 2 2 [] [(2,(.bool true))] rfl fun _=>aj ⟨.inr rfl,_,rfl,true,rfl,rfl,(ct (by simp;omega))⟩)
 have an:=A;try simp only[BS]at an
 refine wT 1 [] 4 8 [] [(4,(.bool (op==10)))] rfl fun _=>zi 1 1 (fun E=>?_) fun E=>?_
 ·have ar:=E;try simp only[BS]at ar
  refine bB 1 (v:=(op==10)) rfl E rfl rfl (wT 1 [] 2 2 [] [(2,(.bool true))] rfl fun _=>aj ⟨.inr rfl,_,rfl,true,rfl,rfl,(ct (by simp;omega))⟩)
 have ar:=E;try simp only[BS]at ar
 refine wT 1 [] 4 9 [] [(4,(.bool (op==11)))] rfl fun _=>zi 1 1 (fun N=>?_) fun N=>?_
 ·have av:=N;try simp only[BS]at av
  refine bB 1 (v:=(op==11)) rfl N rfl rfl (wT 1 [] 2 2 [] [(2,(.bool true))] rfl fun _=>aj ⟨.inr rfl,_,rfl,true,rfl,rfl,(ct (by simp;omega))⟩)
 have av:=N;try simp only[BS]at av
 refine wT 1 [] 4 10 [] [(4,(.bool (op==12)))] rfl fun _=>zi 1 1 (fun T=>?_) fun T=>?_
 ·have aw:=T;try simp only[BS]at aw
  refine bB 1 (v:=(op==12)) rfl T rfl rfl (wT 1 [] 2 2 [] [(2,(.bool true))] rfl fun _=>aj ⟨.inr rfl,_,rfl,true,rfl,rfl,(ct (by simp;omega))⟩)
 have aw:=T;try simp only[BS]at aw
 refine wT 1 [] 4 11 [] [(4,(.bool (op==13)))] rfl fun _=>zi 1 1 (fun U=>?_) fun U=>?_
 ·have ax:=U;try simp only[BS]at ax
  refine bB 1 (v:=(op==13)) rfl U rfl rfl (wT 1 [] 2 2 [] [(2,(.bool true))] rfl fun _=>aj ⟨.inr rfl,_,rfl,true,rfl,rfl,(ct (by simp;omega))⟩)
 have ax:=U;try simp only[BS]at ax
 refine wT 1 [] 4 12 [] [(4,(.bool (op==33)))] rfl fun _=>zi 1 1 (fun V=>?_) fun V=>?_
 ·have ay:=V;try simp only[BS]at ay
  refine bB 1 (v:=(op==33)) rfl V rfl rfl (wT 1 [] 2 2 [] [(2,(.bool true))] rfl fun _=>aj ⟨.inr rfl,_,rfl,true,rfl,rfl,(ct (by simp;omega))⟩)
 have ay:=V;try simp only[BS]at ay
 refine wT 1 [] 4 13 [] [(4,(.bool (op==34)))] rfl fun _=>zi 1 1 (fun Z=>?_) fun Z=>?_
 ·have a0:=Z;try simp only[BS]at a0
  refine bB 1 (v:=(op==34)) rfl Z rfl rfl (wT 1 [] 2 2 [] [(2,(.bool true))] rfl fun _=>aj ⟨.inr rfl,_,rfl,true,rfl,rfl,(ct (by simp;omega))⟩)
 have a0:=Z;try simp only[BS]at a0
 refine wT 1 [] 4 14 [] [(4,(.bool (op==35)))] rfl fun _=>zi 1 0 (fun ad=>?_) fun ad=>?_
 ·have a1:=ad;try simp only[BS]at a1
  refine bB 1 (v:=(op==35)) rfl ad rfl rfl (wT 1 [] 2 2 [] [(2,(.bool true))] rfl fun _=>aj ⟨.inr rfl,_,rfl,true,rfl,rfl,(ct (by simp;omega))⟩)
 have a1:=ad;try simp only[BS]at a1
 refine wT 1 [] 4 15 [] [(4,(.bool (op==38)))] rfl fun _=>zi 1 3 (fun a2=>?_) fun a2=>?_
 ·try simp only[BS]at a2
  refine wT 1 [] 2 2 [] [(2,(.bool true))] rfl fun _=>aj ⟨.inr rfl,_,rfl,true,rfl,rfl,(ct (by simp;omega))⟩
 try simp only[BS]at a2
 refine wT 1 [] 16 21 [2] [(2,(.bool ((decide ((15:Int)<=op))&&(decide (op<=32)))))] rfl fun _=>aj ⟨.inr rfl,_,rfl,((decide ((15:Int)<=op))&&(decide (op<=32))),rfl,rfl,(ct (by simp;omega))⟩
theorem ralw_c_q(op:Int)(H:Heap):kKt ex 84 [(iI op)] H fun v H'=>v=(.bool (alV op))/\H'=H:=
 cq (ralw_c ex op H) (by rintro _ _ ⟨_,rfl,rfl,rfl⟩;exact⟨rfl,rfl⟩)
end Go.Proofs.YtknafdcgpaejlaaDoor.m1
