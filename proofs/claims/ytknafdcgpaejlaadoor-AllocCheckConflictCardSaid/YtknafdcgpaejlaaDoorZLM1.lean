/-
 Instructions of virtual code: the table, their description, which are allowed; the program and the reference, by symbolic runs. No condition but that the table lies as laid.
-/
import Derived.Test.YtknafdcgpaejlaaDoorZLRD
import Derived.Test.YtknafdcgpaejlaaDoorChecked
noncomputable section
namespace Go.Proofs.YtknafdcgpaejlaaDoor.m1
open Go.R
set_option maxRecDepth 10000
set_option linter.unusedVariables false
set_option linter.unusedSimpArgs false
variable (ex:FuncId) {F:Fz} {H:Heap} {R:List Fp}
theorem ql{H:Heap}{b o:Nat}{cs:List Value}{w:Value}(t:TypeId)(i:Nat)(hc:HC H.get b o cs)(ha:gg Tryd.prog t=some false)(hv:cs[i]?=some w):LDv Tryd.prog H t (.pointer (some ⟨b,o+i,none⟩)) w:=ld1 hc ha hv
theorem qn{H:Heap}{b o:Nat}{cs l:List Value}(t:TypeId)(i n:Nat)(hc:HC H.get b o cs)(ha:gg Tryd.prog t=some true)(hs:dy Tryd.prog t=some n)(hn:Nat.ble (i+n) cs.length=true)(hl:gn (gE cs i) n=l):LDv Tryd.prog H t (.pointer (some ⟨b,o+i,none⟩)) (.agg ⟨l⟩):=ldN hc ha hs hn hl
structure InfT where
 name:Str
 form:Int
 ra:Bool
 wa:Bool
 rb:Bool
 mt:Bool
 words:Int
 deriving Inhabited
instance :Rp InfT where
 sz:=7
 rep F cs x:=cs=[.string ⟨⟨x.name.b⟩⟩,.int .i64 x.form,.bool x.ra,.bool x.wa,.bool x.rb,.bool x.mt,.int .i64 x.words]/\in64 x.form/\in64 x.words
 len:=by rintro F cs x ⟨rfl,_⟩;rfl
 one:=by rintro F cs x ⟨rfl,_⟩;rfl
 mono:=by intro F F' cs x _ h;exact h
theorem InfT.vw{F:Fz}{get:Nat->Option AObj}{v:Value}{cf:Nat->List Value}{j:Nat}{l:List InfT}(h:VW F get v l cf j)(hj:j<l.length):HC get (sB v) (sO v+j*Rp.sz InfT) [.string ⟨⟨(l.getD j default).name.b⟩⟩,.int .i64 (l.getD j default).form,.bool (l.getD j default).ra,.bool (l.getD j default).wa,.bool (l.getD j default).rb,.bool (l.getD j default).mt,.int .i64 (l.getD j default).words]:=by obtain⟨⟨E,_⟩,A⟩:=h.1 default hj;rw[show cf j=_ from E]at A;exact A
theorem InfT.fx{F:Fz}{get:Nat->Option AObj}{v:Value}{cf:Nat->List Value}{j:Nat}{l:List InfT}(h:VW F get v l cf j):in64 (l.getD j default).form/\in64 (l.getD j default).words:=by
 rcases a0i j l.length with hj|hj
 ·obtain⟨⟨J,A,E⟩,_⟩:=h.1 default hj;exact⟨A,E⟩
 rw[da hj];exact⟨by decide,by decide⟩
structure InsT where
 op:Int
 a:Int
 b:Int
 c:Int
 n:Int
 deriving Inhabited,DecidableEq
instance :Rp InsT where
 sz:=5
 rep F cs x:=cs=[.int .i64 x.op,.int .i64 x.a,.int .i64 x.b,.int .i64 x.c,.int .i64 x.n]/\in64 x.op/\in64 x.a/\in64 x.b/\in64 x.c/\in64 x.n
 len:=by rintro F cs x ⟨rfl,_⟩;rfl
 one:=by rintro F cs x ⟨rfl,_⟩;rfl
 mono:=by intro F F' cs x _ h;exact h
structure VInT where
 i:InsT
 args:(List Int)
 deriving Inhabited,DecidableEq
instance :Rp VInT where
 sz:=6
 rep F cs x:= ∃a5 k5,cs=[.int .i64 x.i.op,.int .i64 x.i.a,.int .i64 x.i.b,.int .i64 x.i.c,.int .i64 x.i.n,.slice a5 x.args.length k5]/\in64 x.i.op/\in64 x.i.a/\in64 x.i.b/\in64 x.i.c/\in64 x.i.n/\SR F (.slice a5 x.args.length k5) x.args
 len:=by rintro F cs x ⟨a5,k5,rfl,_⟩;rfl
 one:=by rintro F cs x ⟨a5,k5,rfl,_⟩;rfl
 mono:=by rintro F F' cs x hF ⟨a5,k5,rfl,h0,h1,h2,h3,h4,h5⟩;exact⟨a5,k5,rfl,h0,h1,h2,h3,h4,h5.mono hF⟩
theorem VInT.vw{F:Fz}{get:Nat->Option AObj}{v:Value}{cf:Nat->List Value}{j:Nat}{l:List VInT}(h:VW F get v l cf j)(hj:j<l.length):HC get (sB v) (sO v+j*Rp.sz VInT) [.int .i64 (l.getD j default).i.op,.int .i64 (l.getD j default).i.a,.int .i64 (l.getD j default).i.b,.int .i64 (l.getD j default).i.c,.int .i64 (l.getD j default).i.n,.slice (cA (cf j) 5) (l.getD j default).args.length (cK (cf j) 5)]:=by obtain⟨⟨J,N,E,_⟩,A⟩:=h.1 default hj;rw[show cf j=_ from E]at A⊢;exact A
theorem VInT.fx{F:Fz}{get:Nat->Option AObj}{v:Value}{cf:Nat->List Value}{j:Nat}{l:List VInT}(h:VW F get v l cf j):in64 (l.getD j default).i.op/\in64 (l.getD j default).i.a/\in64 (l.getD j default).i.b/\in64 (l.getD j default).i.c/\in64 (l.getD j default).i.n/\SR F (.slice (cA (cf j) 5) (l.getD j default).args.length (cK (cf j) 5)) (l.getD j default).args:=by
 rcases a0i j l.length with hj|hj
 ·obtain⟨⟨Z,k5,A,E,J,N,T,U,V⟩,_⟩:=h.1 default hj;rw[show cf j=_ from A];exact⟨E,J,N,T,U,V⟩
 rw[da hj,h.2 hj];exact⟨by decide,by decide,by decide,by decide,by decide,SR.nil⟩
structure BlkT where
 ins:(List VInT)
 fin:Int
 reg:Int
 tgt:Int
 els:Int
 deriving Inhabited,DecidableEq
instance :Rp BlkT where
 sz:=5
 rep F cs x:= ∃a0 k0,cs=[.slice a0 x.ins.length k0,.int .i64 x.fin,.int .i64 x.reg,.int .i64 x.tgt,.int .i64 x.els]/\in64 x.fin/\in64 x.reg/\in64 x.tgt/\in64 x.els/\SR F (.slice a0 x.ins.length k0) x.ins
 len:=by rintro F cs x ⟨a0,k0,rfl,_⟩;rfl
 one:=by rintro F cs x ⟨a0,k0,rfl,_⟩;rfl
 mono:=by rintro F F' cs x hF ⟨a0,k0,rfl,h0,h1,h2,h3,h4⟩;exact⟨a0,k0,rfl,h0,h1,h2,h3,h4.mono hF⟩
theorem BlkT.vw{F:Fz}{get:Nat->Option AObj}{v:Value}{cf:Nat->List Value}{j:Nat}{l:List BlkT}(h:VW F get v l cf j)(hj:j<l.length):HC get (sB v) (sO v+j*Rp.sz BlkT) [.slice (cA (cf j) 0) (l.getD j default).ins.length (cK (cf j) 0),.int .i64 (l.getD j default).fin,.int .i64 (l.getD j default).reg,.int .i64 (l.getD j default).tgt,.int .i64 (l.getD j default).els]:=by obtain⟨⟨J,N,E,_⟩,A⟩:=h.1 default hj;rw[show cf j=_ from E]at A⊢;exact A
theorem BlkT.fx{F:Fz}{get:Nat->Option AObj}{v:Value}{cf:Nat->List Value}{j:Nat}{l:List BlkT}(h:VW F get v l cf j):in64 (l.getD j default).fin/\in64 (l.getD j default).reg/\in64 (l.getD j default).tgt/\in64 (l.getD j default).els/\SR F (.slice (cA (cf j) 0) (l.getD j default).ins.length (cK (cf j) 0)) (l.getD j default).ins:=by
 rcases a0i j l.length with hj|hj
 ·obtain⟨⟨V,Z,A,E,J,N,T,U⟩,_⟩:=h.1 default hj;rw[show cf j=_ from A];exact⟨E,J,N,T,U⟩
 rw[da hj,h.2 hj];exact⟨by decide,by decide,by decide,by decide,SR.nil⟩
structure VFnT where
 params:Int
 regs:Int
 blocks:(List BlkT)
 deriving Inhabited,DecidableEq
instance :Rp VFnT where
 sz:=3
 rep F cs x:= ∃a2 k2,cs=[.int .i64 x.params,.int .i64 x.regs,.slice a2 x.blocks.length k2]/\in64 x.params/\in64 x.regs/\SR F (.slice a2 x.blocks.length k2) x.blocks
 len:=by rintro F cs x ⟨a2,k2,rfl,_⟩;rfl
 one:=by rintro F cs x ⟨a2,k2,rfl,_⟩;rfl
 mono:=by rintro F F' cs x hF ⟨a2,k2,rfl,h0,h1,h2⟩;exact⟨a2,k2,rfl,h0,h1,h2.mono hF⟩
structure DigT where
 n:Int
 deriving Inhabited,DecidableEq
instance :Rp DigT where
 sz:=1
 rep F cs x:=cs=[.int .i64 x.n]/\in64 x.n
 len:=by rintro F cs x ⟨rfl,_⟩;rfl
 one:=by rintro F cs x ⟨rfl,_⟩;rfl
 mono:=by intro F F' cs x _ h;exact h
def aG(n m:Int):Int:=bif decide (Int.tmod n m<0) then Int.tmod n m+m else Int.tmod n m
theorem pick_rng{n m:Int}(hm:0<m):0<=aG n m/\aG n m<m:=by
 have A: -m<n.tmod m:=Int.lt_tmod_of_pos n hm;have E:n.tmod m<m:=Int.tmod_lt_of_pos n hm;unfold aG;by_cases hc:n.tmod m<0
 ·simp only[decide_eq_true hc,cond_true];omega
 simp only[decide_eq_false hc,cond_false];omega
theorem dT(n m:Int):0<m->0<=aG n m/\aG n m<m:=pick_rng
def eW:List InfT:=[⟨⟨[110,111,112]⟩,1,false,false,false,false,1⟩,⟨⟨[114,101,116]⟩,1,false,false,false,false,1⟩,⟨⟨[116,105,99,107]⟩,1,false,false,false,false,1⟩,⟨⟨[116,114,97,112]⟩,8,false,false,false,true,1⟩,⟨⟨[106,109,112]⟩,8,false,false,false,false,1⟩,⟨⟨[99,97,108,108]⟩,5,false,false,false,false,1⟩,⟨⟨[106,122]⟩,5,true,false,false,false,1⟩,⟨⟨[106,110,122]⟩,5,true,false,false,false,1⟩,⟨⟨[111,117,116]⟩,2,true,false,false,false,1⟩,⟨⟨[109,111,118]⟩,3,false,true,true,false,1⟩,⟨⟨[99,109,111,118,122]⟩,4,true,true,true,false,1⟩,⟨⟨[99,109,111,118,110,122]⟩,4,true,true,true,false,1⟩,⟨⟨[108,100,105]⟩,5,false,true,false,false,1⟩,⟨⟨[108,100,99]⟩,6,false,true,false,false,3⟩,⟨⟨[110,101,103]⟩,2,true,true,false,false,1⟩,⟨⟨[110,111,116]⟩,2,true,true,false,false,1⟩,⟨⟨[97,100,100]⟩,3,true,true,true,false,1⟩,⟨⟨[115,117,98]⟩,3,true,true,true,false,1⟩,⟨⟨[109,117,108]⟩,3,true,true,true,false,1⟩,⟨⟨[100,105,118]⟩,3,true,true,true,true,1⟩,⟨⟨[114,101,109]⟩,3,true,true,true,true,1⟩,⟨⟨[97,110,100]⟩,3,true,true,true,false,1⟩,⟨⟨[111,114]⟩,3,true,true,true,false,1⟩,⟨⟨[120,111,114]⟩,3,true,true,true,false,1⟩,⟨⟨[115,104,108]⟩,3,true,true,true,false,1⟩,⟨⟨[115,104,114]⟩,3,true,true,true,false,1⟩,⟨⟨[115,97,114]⟩,3,true,true,true,false,1⟩,⟨⟨[101,113]⟩,3,true,true,true,false,1⟩,⟨⟨[110,101]⟩,3,true,true,true,false,1⟩,⟨⟨[108,116]⟩,3,true,true,true,false,1⟩,⟨⟨[108,101]⟩,3,true,true,true,false,1⟩,⟨⟨[108,116,117]⟩,3,true,true,true,false,1⟩,⟨⟨[97,100,100,105]⟩,5,true,true,false,false,1⟩,⟨⟨[108,100]⟩,7,false,true,true,true,1⟩,⟨⟨[115,116]⟩,7,true,false,true,true,1⟩,⟨⟨[108,100,115]⟩,5,false,true,false,false,1⟩,⟨⟨[115,116,115]⟩,5,true,false,false,false,1⟩]
def infC(x:InfT):List Value:=[.string ⟨⟨x.name.b⟩⟩,.int .i64 x.form,.bool x.ra,.bool x.wa,.bool x.rb,.bool x.mt,.int .i64 x.words]
def tabC:List Value:=eW.flatMap infC
abbrev kKt(e:FuncId):=C Tryd.prog 1 (KT 60 e 37 tabC)
theorem rl_of{α:Type} [Rp α]{F:Fz}{c:α->List Value}: ∀(l:List α),(∀x∈l,Rp.rep F (c x) x)->RL F (l.flatMap c) l
 | [],_=>rfl
 |x::l,h=>⟨c x,l.flatMap c,rfl,h x (a0z ..),rl_of l fun y hy=>h y (a0j _ hy)⟩
theorem tab_rng: ∀x∈eW,in64 x.form/\in64 x.words:=by decide
theorem tab_sr{F:Fz}(h:TB 37 tabC F):SR F (.slice (some ⟨1,0,none⟩) eW.length 37) eW:=h.sr rfl (rl_of eW fun x hx=>⟨rfl,tab_rng x hx⟩)
def aM(op:Int):InfT:=if 1<=op/\op<=37 then eW.getD (op-1).toNat default else default
def infO(op:Int):Bool:=decide (1<=op/\op<=37)
def dE(op:Int):Int:=if op=1\/op=2\/op=3 then 1 else if op=9\/op=15\/op=16 then 2 else if op=10\/(17<=op/\op<=32) then 3 else if op=11\/op=12 then 4 else if op=6\/op=7\/op=8\/op=13\/op=33\/op=36\/op=37 then 5 else if op=14 then 6 else if op=34\/op=35 then 7 else if op=4\/op=5 then 8 else 0
def alV(op:Int):Bool:=decide (op=3\/op=6\/(9<=op/\op<=13)\/(15<=op/\op<=35)\/op=38)
def d9:List Str:=[⟨[]⟩,⟨[110,111,112]⟩,⟨[114,101,116]⟩,⟨[116,105,99,107]⟩,⟨[116,114,97,112]⟩,⟨[106,109,112]⟩,⟨[99,97,108,108]⟩,⟨[106,122]⟩,⟨[106,110,122]⟩,⟨[111,117,116]⟩,⟨[109,111,118]⟩,⟨[99,109,111,118,122]⟩,⟨[99,109,111,118,110,122]⟩,⟨[108,100,105]⟩,⟨[108,100,99]⟩,⟨[110,101,103]⟩,⟨[110,111,116]⟩,⟨[97,100,100]⟩,⟨[115,117,98]⟩,⟨[109,117,108]⟩,⟨[100,105,118]⟩,⟨[114,101,109]⟩,⟨[97,110,100]⟩,⟨[111,114]⟩,⟨[120,111,114]⟩,⟨[115,104,108]⟩,⟨[115,104,114]⟩,⟨[115,97,114]⟩,⟨[101,113]⟩,⟨[110,101]⟩,⟨[108,116]⟩,⟨[108,101]⟩,⟨[108,116,117]⟩,⟨[97,100,100,105]⟩,⟨[108,100]⟩,⟨[115,116]⟩,⟨[108,100,115]⟩,⟨[115,116,115]⟩]
theorem infV_no{op:Int}(h: ¬(1<=op/\op<=37)):(⟨⟨[]⟩,0,false,false,false,false,0⟩:InfT)=aM op:=by unfold aM;rw[if_neg h];rfl
theorem infV_at{op:Int}(h:1<=op/\op<=37):eW.getD (op-1).toNat default=aM op:=by unfold aM;rw[if_pos h]
theorem infO_no{op:Int}(h: ¬(1<=op/\op<=37)):infO op=false:=decide_eq_false h
theorem infO_at{op:Int}(h:1<=op/\op<=37):infO op=true:=decide_eq_true h
theorem form_imp(op:Int):(dE op=0/\¬(1<=op/\op<=37))\/(1<=dE op/\dE op<=8/\1<=op/\op<=37):=by unfold dE;(repeat' split)<;>omega
instance :DecidableEq Str:=fun a b=>decidable_of_iff (a.b=b.b) ⟨fun h=>by cases a;cases b;simp_all,fun h=>by rw[h]⟩
instance :DecidableEq InfT:=fun a b=>decidable_of_iff ((a.name=b.name/\a.form=b.form/\a.ra=b.ra)/\(a.wa=b.wa/\a.rb=b.rb/\a.mt=b.mt/\a.words=b.words)) ⟨fun h=>by cases a;cases b;simp_all,fun h=>by rw[h];simp⟩
theorem ex37{op:Int}(hr:1<=op/\op<=37): ∃k:Fin 37,op=(k.val:Int)+1:=⟨⟨(op-1).toNat,by omega⟩,by show op=((op-1).toNat:Int)+1;omega⟩
theorem bL{op k r:Int}(h:op=k)(A:r=dE k):r=dE op:=by rw[h];exact A
theorem cr{op:Int}{b:Bool}(h:b=true↔(op=3\/op=6\/(9<=op/\op<=13)\/(15<=op/\op<=35)\/op=38)):b=alV op:=by unfold alV;cases b<;>simp_all
theorem pick_c(n:Int)(m:Int)(H:Heap)(hm:0<m/\m<9223372036854775808):kKt ex 17 [(iI n),(iI m)] H fun v H'=> ∃(r:Int),H'=H/\v= .int .i64 r/\r=aG n m:=by
 have J: -m<n.tmod m:=Int.lt_tmod_of_pos n hm.1;have N:n.tmod m<m:=Int.tmod_lt_of_pos n hm.1;refine aH Tryd.func17 rfl rfl (aj 1 rfl (wT 2 [] 4 4 [] [(4,(iI 0))] rfl fun _=>wU 3 [] 5 7 [0] [(0,(iI (Int.tmod n m)))] (show m≠0 from by omega) rfl fun _=>wT 1 [] 8 9 [] [(9,(.bool (decide (Int.tmod n m<0))))] rfl fun _=>az 0 2 (v:=(decide (Int.tmod n m<0))) rfl rfl rfl rfl (fun A=>?_) (fun A=>?_)))
 ·have E:=A;try simp only[BS]at E
  refine wU 2 [] 10 12 [0] [(0,(iI ((Int.tmod n m)+m)))] (vi (n:=(Int.tmod n m)+m) (by omega)) rfl fun _=>wT 1 [] 4 4 [13] [(4,(iI ((Int.tmod n m)+m)))] rfl fun _=>aq ⟨.inr rfl,_,rfl,(Int.tmod n m)+m,rfl,rfl,(by simp only[aG,A,cond_true,cond_false])⟩
 have E:=A;try simp only[BS]at E
 refine wT 1 [] 4 4 [13] [(4,(iI (Int.tmod n m)))] rfl fun _=>aq ⟨.inr rfl,_,rfl,Int.tmod n m,rfl,rfl,(by simp only[aG,A,cond_true,cond_false])⟩
theorem iL(n:Int)(m:Int)(H:Heap)(hm:0<m/\m<9223372036854775808):kKt ex 17 [(iI n),(iI m)] H fun v H'=>v=(iI (aG n m))/\H'=H:=
 cq (pick_c ex n m H hm) (by rintro _ _ ⟨_,rfl,rfl,rfl⟩;exact⟨rfl,rfl⟩)
theorem mInfo_c(op:Int)(hs:HS (.of H []) F H [] R)(hop:in64 op)(hT:TB 37 tabC F):kKt ex 97 [(iI op)] H fun v H'=> ∃(x:InfT) (o:Bool) (F':Fz),Fz.le F F'/\HS (.of H []) F' H' [] R/\v= .tuple ⟨[.agg ⟨[.string ⟨⟨x.name.b⟩⟩,.int .i64 x.form,.bool x.ra,.bool x.wa,.bool x.rb,.bool x.mt,.int .i64 x.words]⟩,.bool o]⟩/\in64 x.form/\in64 x.words/\x=aM op/\o=infO op:=by
 have tl:eW.length=37:=rfl;refine aH Tryd.func97 rfl rfl (aj 1 rfl (aa (aI (bD hs rfl) rfl rfl ?_)));rintro _ H2 _ ⟨Z,rfl,(A:HS _ _ _ [[(Z,.cells [(.string ⟨⟨[]⟩⟩),(iI 0),(.bool false),(.bool false),(.bool false),(.bool false),(iI 0)] none false)]] _),_⟩;refine wa (.bool false) rfl rfl rfl (ae 3 rfl (wT 1 [] 4 9 [] [(9,(.bool ((decide (op<1))||(decide ((37:Int)<op)))))] rfl fun _=>az 1 2 (v:=((decide (op<1))||(decide ((37:Int)<op)))) rfl rfl rfl rfl (fun E=>?_) (fun E=>?_)))
 ·have V:=E;try simp only[BS]at V
  refine aa (wTo 1 0 [] 10 10 [] [(10,(.agg ⟨[(.string ⟨⟨[]⟩⟩),(iI 0),(.bool false),(.bool false),(.bool false),(.bool false),(iI 0)]⟩))] rfl fun _=>aT (aK (q:=0) A rfl rfl rfl rfl rfl rfl rfl rfl rfl) rfl ?_);rintro _ H6 _ ⟨(N:HS _ _ _ [_] _),_⟩;refine wa (.bool false) rfl rfl rfl (ae 1 rfl (aq ⟨.inr rfl,_,(rC rfl (ldVN rfl rfl (HS.hc N (i:=0) rfl) rfl) (rT rfl rN)),(⟨⟨[]⟩,0,false,false,false,false,0⟩:InfT),false,_,fR,(HS.forget N),rfl,(by(dsimp only;omega)),(by(dsimp only;omega)),(infV_no (op:=op) (by omega)),(infO_no (op:=op) (by omega)).symm⟩))
 have V:=E;try simp only[BS]at V
 refine aa ?_;obtain⟨an,T⟩:=Sv.view (SR.sv (tab_sr hT) A);obtain⟨ad,ag⟩:=InfT.fx (T (op-1).toNat);let U:Value:=(.agg ⟨[(.string ⟨⟨(eW.getD (op-1).toNat default).name.b⟩⟩),(iI (eW.getD (op-1).toNat default).form),(.bool (eW.getD (op-1).toNat default).ra),(.bool (eW.getD (op-1).toNat default).wa),(.bool (eW.getD (op-1).toNat default).rb),(.bool (eW.getD (op-1).toNat default).mt),(iI (eW.getD (op-1).toNat default).words)]⟩)
 refine wRo 5 0 [(0,.o (.slice (some ⟨1,0,none⟩) eW.length 37)),(4,.o U)] 11 15 [] [(15,U)] (vA (ql 168 0 (TB.hc (hT.heap A)) rfl rfl) (vA (vi (n:=op-1) (by omega)) (vA (Sv.ix (j:=op-1) (SR.sv (tab_sr hT) A) (by omega) (by omega)) (vA (qn 105 0 7 (InfT.vw (T (op-1).toNat) (by omega)) rfl rfl rfl rfl) trivial)))) rfl fun _=>aT (aK (q:=0) A rfl rfl rfl rfl rfl rfl rfl rfl rfl) rfl ?_
 rintro _ al _ ⟨(J:HS _ _ _ [[(Z,.cells [(.string ⟨⟨(eW.getD (op-1).toNat default).name.b⟩⟩),(iI (eW.getD (op-1).toNat default).form),(.bool (eW.getD (op-1).toNat default).ra),(.bool (eW.getD (op-1).toNat default).wa),(.bool (eW.getD (op-1).toNat default).rb),(.bool (eW.getD (op-1).toNat default).mt),(iI (eW.getD (op-1).toNat default).words)] none false)]] _),_⟩;refine wa (.bool true) rfl rfl rfl (ae 1 rfl (aq ⟨.inr rfl,_,(rC rfl (ldVN rfl rfl (HS.hc J (i:=0) rfl) rfl) (rT rfl rN)),(⟨⟨(eW.getD (op-1).toNat default).name.b⟩,(eW.getD (op-1).toNat default).form,(eW.getD (op-1).toNat default).ra,(eW.getD (op-1).toNat default).wa,(eW.getD (op-1).toNat default).rb,(eW.getD (op-1).toNat default).mt,(eW.getD (op-1).toNat default).words⟩:InfT),true,_,fR,(HS.forget J),rfl,(by omega),(by omega),(infV_at (op:=op) (by omega)),(infO_at (op:=op) (by omega)).symm⟩))
theorem isBin_c(op:Int)(H:Heap):kKt ex 109 [(iI op)] H fun v H'=> ∃(r:Bool),H'=H/\v= .bool r/\r=decide (17<=op/\op<=32):=by refine aH Tryd.func109 rfl rfl (aj 1 rfl (wT 2 [] 2 2 [] [(2,(.bool false))] rfl fun _=>wT 1 [] 2 8 [] [(2,(.bool ((decide ((17:Int)<=op))&&(decide (op<=32)))))] rfl fun _=>aq ⟨.inr rfl,_,rfl,((decide ((17:Int)<=op))&&(decide (op<=32))),rfl,rfl,(by rw[a0l];simp)⟩))
theorem gx(op:Int)(H:Heap):kKt ex 109 [(iI op)] H fun v H'=>v=(.bool (decide (17<=op/\op<=32)))/\H'=H:=
 cq (isBin_c ex op H) (by rintro _ _ ⟨_,rfl,rfl,rfl⟩;exact⟨rfl,rfl⟩)
theorem form_c(op:Int)(H:Heap):kKt ex 107 [(iI op)] H fun v H'=> ∃(r:Int),H'=H/\v= .int .i64 r/\r=dE op:=by
 refine aH Tryd.func107 rfl rfl (aj 1 rfl (wT 3 [] 2 2 [] [(2,(iI 0))] rfl fun _=>wT 4 [] 3 3 [] [(3,(iI op))] rfl fun _=>wT 1 [] 4 5 [] [(4,(.bool (op==1)))] rfl fun _=>az 1 1 (v:=(op==1)) rfl rfl rfl rfl (fun a2=>?_) (fun a2=>?_)))
 ·have c4:=a2;try simp only[BS]at c4
  refine bu 1 (v:=(op==1)) rfl a2 rfl rfl (wT 1 [] 2 2 [] [(2,(iI 1))] rfl fun _=>aq ⟨.inr rfl,_,rfl,1,rfl,rfl,(bL (by assumption) (by decide))⟩)
 have c4:=a2;try simp only[BS]at c4
 refine wT 1 [] 4 6 [] [(4,(.bool (op==2)))] rfl fun _=>az 1 0 (v:=(op==2)) rfl rfl rfl rfl (fun a3=>?_) (fun a3=>?_)
 ·have c7:=a3;try simp only[BS]at c7
  refine bu 1 (v:=(op==2)) rfl a3 rfl rfl (wT 1 [] 2 2 [] [(2,(iI 1))] rfl fun _=>aq ⟨.inr rfl,_,rfl,1,rfl,rfl,(bL (by assumption) (by decide))⟩)
 have c7:=a3;try simp only[BS]at c7
 refine wT 1 [] 4 7 [] [(4,(.bool (op==3)))] rfl fun _=>az 1 2 (v:=(op==3)) rfl rfl rfl rfl (fun an=>?_) (fun an=>?_)
 ·have a4:=an;try simp only[BS]at a4
  refine wT 1 [] 2 2 [] [(2,(iI 1))] rfl fun _=>aq ⟨.inr rfl,_,rfl,1,rfl,rfl,(bL (by assumption) (by decide))⟩
 have a4:=an;try simp only[BS]at a4
 refine wT 1 [] 8 9 [] [(8,(.bool (op==4)))] rfl fun _=>az 1 0 (v:=(op==4)) rfl rfl rfl rfl (fun A=>?_) (fun A=>?_)
 ·have a5:=A;try simp only[BS]at a5
  refine bu 1 (v:=(op==4)) rfl A rfl rfl (wT 1 [] 2 2 [] [(2,(iI 8))] rfl fun _=>aq ⟨.inr rfl,_,rfl,8,rfl,rfl,(bL (by assumption) (by decide))⟩)
 have a5:=A;try simp only[BS]at a5
 refine wT 1 [] 8 10 [] [(8,(.bool (op==5)))] rfl fun _=>az 1 2 (v:=(op==5)) rfl rfl rfl rfl (fun ar=>?_) (fun ar=>?_)
 ·have a6:=ar;try simp only[BS]at a6
  refine wT 1 [] 2 2 [] [(2,(iI 8))] rfl fun _=>aq ⟨.inr rfl,_,rfl,8,rfl,rfl,(bL (by assumption) (by decide))⟩
 have a6:=ar;try simp only[BS]at a6
 refine wT 1 [] 11 12 [] [(11,(.bool (op==6)))] rfl fun _=>az 1 1 (v:=(op==6)) rfl rfl rfl rfl (fun E=>?_) (fun E=>?_)
 ·have a7:=E;try simp only[BS]at a7
  refine bu 1 (v:=(op==6)) rfl E rfl rfl (wT 1 [] 2 2 [] [(2,(iI 5))] rfl fun _=>aq ⟨.inr rfl,_,rfl,5,rfl,rfl,(bL (by assumption) (by decide))⟩)
 have a7:=E;try simp only[BS]at a7
 refine wT 1 [] 11 13 [] [(11,(.bool (op==7)))] rfl fun _=>az 1 1 (v:=(op==7)) rfl rfl rfl rfl (fun J=>?_) (fun J=>?_)
 ·have a8:=J;try simp only[BS]at a8
  refine bu 1 (v:=(op==7)) rfl J rfl rfl (wT 1 [] 2 2 [] [(2,(iI 5))] rfl fun _=>aq ⟨.inr rfl,_,rfl,5,rfl,rfl,(bL (by assumption) (by decide))⟩)
 have a8:=J;try simp only[BS]at a8
 refine wT 1 [] 11 14 [] [(11,(.bool (op==8)))] rfl fun _=>az 1 1 (v:=(op==8)) rfl rfl rfl rfl (fun N=>?_) (fun N=>?_)
 ·have a9:=N;try simp only[BS]at a9
  refine bu 1 (v:=(op==8)) rfl N rfl rfl (wT 1 [] 2 2 [] [(2,(iI 5))] rfl fun _=>aq ⟨.inr rfl,_,rfl,5,rfl,rfl,(bL (by assumption) (by decide))⟩)
 have a9:=N;try simp only[BS]at a9
 refine wT 1 [] 11 15 [] [(11,(.bool (op==13)))] rfl fun _=>az 1 1 (v:=(op==13)) rfl rfl rfl rfl (fun T=>?_) (fun T=>?_)
 ·have bb:=T;try simp only[BS]at bb
  refine bu 1 (v:=(op==13)) rfl T rfl rfl (wT 1 [] 2 2 [] [(2,(iI 5))] rfl fun _=>aq ⟨.inr rfl,_,rfl,5,rfl,rfl,(bL (by assumption) (by decide))⟩)
 have bb:=T;try simp only[BS]at bb
 refine wT 1 [] 11 16 [] [(11,(.bool (op==33)))] rfl fun _=>az 1 1 (v:=(op==33)) rfl rfl rfl rfl (fun U=>?_) (fun U=>?_)
 ·have bk:=U;try simp only[BS]at bk
  refine bu 1 (v:=(op==33)) rfl U rfl rfl (wT 1 [] 2 2 [] [(2,(iI 5))] rfl fun _=>aq ⟨.inr rfl,_,rfl,5,rfl,rfl,(bL (by assumption) (by decide))⟩)
 have bk:=U;try simp only[BS]at bk
 refine wT 1 [] 11 17 [] [(11,(.bool (op==36)))] rfl fun _=>az 1 0 (v:=(op==36)) rfl rfl rfl rfl (fun V=>?_) (fun V=>?_)
 ·have bl:=V;try simp only[BS]at bl
  refine bu 1 (v:=(op==36)) rfl V rfl rfl (wT 1 [] 2 2 [] [(2,(iI 5))] rfl fun _=>aq ⟨.inr rfl,_,rfl,5,rfl,rfl,(bL (by assumption) (by decide))⟩)
 have bl:=V;try simp only[BS]at bl
 refine wT 1 [] 11 18 [] [(11,(.bool (op==37)))] rfl fun _=>az 1 2 (v:=(op==37)) rfl rfl rfl rfl (fun av=>?_) (fun av=>?_)
 ·have bz:=av;try simp only[BS]at bz
  refine wT 1 [] 2 2 [] [(2,(iI 5))] rfl fun _=>aq ⟨.inr rfl,_,rfl,5,rfl,rfl,(bL (by assumption) (by decide))⟩
 have bz:=av;try simp only[BS]at bz
 refine wT 1 [] 19 20 [] [(19,(.bool (op==9)))] rfl fun _=>az 1 1 (v:=(op==9)) rfl rfl rfl rfl (fun Z=>?_) (fun Z=>?_)
 ·have b0:=Z;try simp only[BS]at b0
  refine bu 1 (v:=(op==9)) rfl Z rfl rfl (wT 1 [] 2 2 [] [(2,(iI 2))] rfl fun _=>aq ⟨.inr rfl,_,rfl,2,rfl,rfl,(bL (by assumption) (by decide))⟩)
 have b0:=Z;try simp only[BS]at b0
 refine wT 1 [] 19 21 [] [(19,(.bool (op==15)))] rfl fun _=>az 1 0 (v:=(op==15)) rfl rfl rfl rfl (fun ad=>?_) (fun ad=>?_)
 ·have b1:=ad;try simp only[BS]at b1
  refine bu 1 (v:=(op==15)) rfl ad rfl rfl (wT 1 [] 2 2 [] [(2,(iI 2))] rfl fun _=>aq ⟨.inr rfl,_,rfl,2,rfl,rfl,(bL (by assumption) (by decide))⟩)
 have b1:=ad;try simp only[BS]at b1
 refine wT 1 [] 19 22 [] [(19,(.bool (op==16)))] rfl fun _=>az 1 2 (v:=(op==16)) rfl rfl rfl rfl (fun aw=>?_) (fun aw=>?_)
 ·have b2:=aw;try simp only[BS]at b2
  refine wT 1 [] 2 2 [] [(2,(iI 2))] rfl fun _=>aq ⟨.inr rfl,_,rfl,2,rfl,rfl,(bL (by assumption) (by decide))⟩
 have b2:=aw;try simp only[BS]at b2
 refine wT 1 [] 23 24 [] [(23,(.bool (op==11)))] rfl fun _=>az 1 0 (v:=(op==11)) rfl rfl rfl rfl (fun ag=>?_) (fun ag=>?_)
 ·have b3:=ag;try simp only[BS]at b3
  refine bu 1 (v:=(op==11)) rfl ag rfl rfl (wT 1 [] 2 2 [] [(2,(iI 4))] rfl fun _=>aq ⟨.inr rfl,_,rfl,4,rfl,rfl,(bL (by assumption) (by decide))⟩)
 have b3:=ag;try simp only[BS]at b3
 refine wT 1 [] 23 25 [] [(23,(.bool (op==12)))] rfl fun _=>az 1 1 (v:=(op==12)) rfl rfl rfl rfl (fun ax=>?_) (fun ax=>?_)
 ·have b4:=ax;try simp only[BS]at b4
  refine wT 1 [] 2 2 [] [(2,(iI 4))] rfl fun _=>aq ⟨.inr rfl,_,rfl,4,rfl,rfl,(bL (by assumption) (by decide))⟩
 have b4:=ax;try simp only[BS]at b4
 refine wT 1 [] 26 27 [] [(26,(.bool (op==14)))] rfl fun _=>az 1 2 (v:=(op==14)) rfl rfl rfl rfl (fun ay=>?_) (fun ay=>?_)
 ·have b5:=ay;try simp only[BS]at b5
  refine wT 1 [] 2 2 [] [(2,(iI 6))] rfl fun _=>aq ⟨.inr rfl,_,rfl,6,rfl,rfl,(bL (by assumption) (by decide))⟩
 have b5:=ay;try simp only[BS]at b5
 refine wT 1 [] 28 29 [] [(28,(.bool (op==34)))] rfl fun _=>az 1 0 (v:=(op==34)) rfl rfl rfl rfl (fun al=>?_) (fun al=>?_)
 ·have b6:=al;try simp only[BS]at b6
  refine bu 1 (v:=(op==34)) rfl al rfl rfl (wT 1 [] 2 2 [] [(2,(iI 7))] rfl fun _=>aq ⟨.inr rfl,_,rfl,7,rfl,rfl,(bL (by assumption) (by decide))⟩)
 have b6:=al;try simp only[BS]at b6
 refine wT 1 [] 28 30 [] [(28,(.bool (op==35)))] rfl fun _=>az 1 4 (v:=(op==35)) rfl rfl rfl rfl (fun a0=>?_) (fun a0=>?_)
 ·have b7:=a0;try simp only[BS]at b7
  refine wT 1 [] 2 2 [] [(2,(iI 7))] rfl fun _=>aq ⟨.inr rfl,_,rfl,7,rfl,rfl,(bL (by assumption) (by decide))⟩
 have b7:=a0;try simp only[BS]at b7
 refine wU 1 [(4,.o (.bool (decide (17<=op/\op<=32))))] 31 36 [] [(36,(.bool ((op==10)||decide (17<=op/\op<=32))))] (fun(g1:(op==10)=false)=>(gx ex op H)) rfl fun _=>az 1 2 (v:=((op==10)||decide (17<=op/\op<=32))) rfl rfl rfl rfl (fun a1=>?_) (fun a1=>?_)
 ·have b9:=a1;try simp only[BS]at b9
  refine wT 1 [] 2 2 [] [(2,(iI 3))] rfl fun _=>aq ⟨.inr rfl,_,rfl,3,rfl,rfl,(by(unfold dE;(repeat' split)<;>omega))⟩
 have b9:=a1;try simp only[BS]at b9
 refine wT 1 [] 2 2 [] [(2,(iI 0))] rfl fun _=>aq ⟨.inr rfl,_,rfl,0,rfl,rfl,(by(unfold dE;(repeat' split)<;>omega))⟩
theorem form_c_q(op:Int)(H:Heap):kKt ex 107 [(iI op)] H fun v H'=>v=(iI (dE op))/\H'=H:=
 cq (form_c ex op H) (by rintro _ _ ⟨_,rfl,rfl,rfl⟩;exact⟨rfl,rfl⟩)
theorem names_c(hs:HS (.of H []) F H [] R)(hT:TB 37 tabC F):kKt ex 108 [] H fun v H'=> ∃(ar:Option Addr) (kr:Nat) (r:List Str) (p:Fp) (F':Fz),Fz.le F F'/\HS (.of H []) F' H' [p] R/\v= .slice ar r.length kr/\OS F' (.slice ar r.length kr) r p/\r=d9:=by refine aH Tryd.func108 rfl rfl (aj 1 rfl (wT 2 [] 0 0 [] [(0,(.slice none 0 0))] rfl fun _=>aa (aI (bm (α:=Str) (ps:=[(0,(.string ⟨⟨[]⟩⟩)),(1,(.string ⟨⟨[110,111,112]⟩⟩)),(2,(.string ⟨⟨[114,101,116]⟩⟩)),(3,(.string ⟨⟨[116,105,99,107]⟩⟩)),(4,(.string ⟨⟨[116,114,97,112]⟩⟩)),(5,(.string ⟨⟨[106,109,112]⟩⟩)),(6,(.string ⟨⟨[99,97,108,108]⟩⟩)),(7,(.string ⟨⟨[106,122]⟩⟩)),(8,(.string ⟨⟨[106,110,122]⟩⟩)),(9,(.string ⟨⟨[111,117,116]⟩⟩)),(10,(.string ⟨⟨[109,111,118]⟩⟩)),(11,(.string ⟨⟨[99,109,111,118,122]⟩⟩)),(12,(.string ⟨⟨[99,109,111,118,110,122]⟩⟩)),(13,(.string ⟨⟨[108,100,105]⟩⟩)),(14,(.string ⟨⟨[108,100,99]⟩⟩)),(15,(.string ⟨⟨[110,101,103]⟩⟩)),(16,(.string ⟨⟨[110,111,116]⟩⟩)),(17,(.string ⟨⟨[97,100,100]⟩⟩)),(18,(.string ⟨⟨[115,117,98]⟩⟩)),(19,(.string ⟨⟨[109,117,108]⟩⟩)),(20,(.string ⟨⟨[100,105,118]⟩⟩)),(21,(.string ⟨⟨[114,101,109]⟩⟩)),(22,(.string ⟨⟨[97,110,100]⟩⟩)),(23,(.string ⟨⟨[111,114]⟩⟩)),(24,(.string ⟨⟨[120,111,114]⟩⟩)),(25,(.string ⟨⟨[115,104,108]⟩⟩)),(26,(.string ⟨⟨[115,104,114]⟩⟩)),(27,(.string ⟨⟨[115,97,114]⟩⟩)),(28,(.string ⟨⟨[101,113]⟩⟩)),(29,(.string ⟨⟨[110,101]⟩⟩)),(30,(.string ⟨⟨[108,116]⟩⟩)),(31,(.string ⟨⟨[108,101]⟩⟩)),(32,(.string ⟨⟨[108,116,117]⟩⟩)),(33,(.string ⟨⟨[97,100,100,105]⟩⟩)),(34,(.string ⟨⟨[108,100]⟩⟩)),(35,(.string ⟨⟨[115,116]⟩⟩)),(36,(.string ⟨⟨[108,100,115]⟩⟩)),(37,(.string ⟨⟨[115,116,115]⟩⟩))]) (cells:=[(.string ⟨⟨[]⟩⟩),(.string ⟨⟨[110,111,112]⟩⟩),(.string ⟨⟨[114,101,116]⟩⟩),(.string ⟨⟨[116,105,99,107]⟩⟩),(.string ⟨⟨[116,114,97,112]⟩⟩),(.string ⟨⟨[106,109,112]⟩⟩),(.string ⟨⟨[99,97,108,108]⟩⟩),(.string ⟨⟨[106,122]⟩⟩),(.string ⟨⟨[106,110,122]⟩⟩),(.string ⟨⟨[111,117,116]⟩⟩),(.string ⟨⟨[109,111,118]⟩⟩),(.string ⟨⟨[99,109,111,118,122]⟩⟩),(.string ⟨⟨[99,109,111,118,110,122]⟩⟩),(.string ⟨⟨[108,100,105]⟩⟩),(.string ⟨⟨[108,100,99]⟩⟩),(.string ⟨⟨[110,101,103]⟩⟩),(.string ⟨⟨[110,111,116]⟩⟩),(.string ⟨⟨[97,100,100]⟩⟩),(.string ⟨⟨[115,117,98]⟩⟩),(.string ⟨⟨[109,117,108]⟩⟩),(.string ⟨⟨[100,105,118]⟩⟩),(.string ⟨⟨[114,101,109]⟩⟩),(.string ⟨⟨[97,110,100]⟩⟩),(.string ⟨⟨[111,114]⟩⟩),(.string ⟨⟨[120,111,114]⟩⟩),(.string ⟨⟨[115,104,108]⟩⟩),(.string ⟨⟨[115,104,114]⟩⟩),(.string ⟨⟨[115,97,114]⟩⟩),(.string ⟨⟨[101,113]⟩⟩),(.string ⟨⟨[110,101]⟩⟩),(.string ⟨⟨[108,116]⟩⟩),(.string ⟨⟨[108,101]⟩⟩),(.string ⟨⟨[108,116,117]⟩⟩),(.string ⟨⟨[97,100,100,105]⟩⟩),(.string ⟨⟨[108,100]⟩⟩),(.string ⟨⟨[115,116]⟩⟩),(.string ⟨⟨[108,100,115]⟩⟩),(.string ⟨⟨[115,116,115]⟩⟩)]) ([⟨[]⟩,⟨[110,111,112]⟩,⟨[114,101,116]⟩,⟨[116,105,99,107]⟩,⟨[116,114,97,112]⟩,⟨[106,109,112]⟩,⟨[99,97,108,108]⟩,⟨[106,122]⟩,⟨[106,110,122]⟩,⟨[111,117,116]⟩,⟨[109,111,118]⟩,⟨[99,109,111,118,122]⟩,⟨[99,109,111,118,110,122]⟩,⟨[108,100,105]⟩,⟨[108,100,99]⟩,⟨[110,101,103]⟩,⟨[110,111,116]⟩,⟨[97,100,100]⟩,⟨[115,117,98]⟩,⟨[109,117,108]⟩,⟨[100,105,118]⟩,⟨[114,101,109]⟩,⟨[97,110,100]⟩,⟨[111,114]⟩,⟨[120,111,114]⟩,⟨[115,104,108]⟩,⟨[115,104,114]⟩,⟨[115,97,114]⟩,⟨[101,113]⟩,⟨[110,101]⟩,⟨[108,116]⟩,⟨[108,101]⟩,⟨[108,116,117]⟩,⟨[97,100,100,105]⟩,⟨[108,100]⟩,⟨[115,116]⟩,⟨[108,100,115]⟩,⟨[115,116,115]⟩]:List Str) hs rfl rfl rfl (by kernel_rfl) ⟨[(.string ⟨⟨[]⟩⟩)],_,rfl,rfl,⟨[(.string ⟨⟨[110,111,112]⟩⟩)],_,rfl,rfl,⟨[(.string ⟨⟨[114,101,116]⟩⟩)],_,rfl,rfl,⟨[(.string ⟨⟨[116,105,99,107]⟩⟩)],_,rfl,rfl,⟨[(.string ⟨⟨[116,114,97,112]⟩⟩)],_,rfl,rfl,⟨[(.string ⟨⟨[106,109,112]⟩⟩)],_,rfl,rfl,⟨[(.string ⟨⟨[99,97,108,108]⟩⟩)],_,rfl,rfl,⟨[(.string ⟨⟨[106,122]⟩⟩)],_,rfl,rfl,⟨[(.string ⟨⟨[106,110,122]⟩⟩)],_,rfl,rfl,⟨[(.string ⟨⟨[111,117,116]⟩⟩)],_,rfl,rfl,⟨[(.string ⟨⟨[109,111,118]⟩⟩)],_,rfl,rfl,⟨[(.string ⟨⟨[99,109,111,118,122]⟩⟩)],_,rfl,rfl,⟨[(.string ⟨⟨[99,109,111,118,110,122]⟩⟩)],_,rfl,rfl,⟨[(.string ⟨⟨[108,100,105]⟩⟩)],_,rfl,rfl,⟨[(.string ⟨⟨[108,100,99]⟩⟩)],_,rfl,rfl,⟨[(.string ⟨⟨[110,101,103]⟩⟩)],_,rfl,rfl,⟨[(.string ⟨⟨[110,111,116]⟩⟩)],_,rfl,rfl,⟨[(.string ⟨⟨[97,100,100]⟩⟩)],_,rfl,rfl,⟨[(.string ⟨⟨[115,117,98]⟩⟩)],_,rfl,rfl,⟨[(.string ⟨⟨[109,117,108]⟩⟩)],_,rfl,rfl,⟨[(.string ⟨⟨[100,105,118]⟩⟩)],_,rfl,rfl,⟨[(.string ⟨⟨[114,101,109]⟩⟩)],_,rfl,rfl,⟨[(.string ⟨⟨[97,110,100]⟩⟩)],_,rfl,rfl,⟨[(.string ⟨⟨[111,114]⟩⟩)],_,rfl,rfl,⟨[(.string ⟨⟨[120,111,114]⟩⟩)],_,rfl,rfl,⟨[(.string ⟨⟨[115,104,108]⟩⟩)],_,rfl,rfl,⟨[(.string ⟨⟨[115,104,114]⟩⟩)],_,rfl,rfl,⟨[(.string ⟨⟨[115,97,114]⟩⟩)],_,rfl,rfl,⟨[(.string ⟨⟨[101,113]⟩⟩)],_,rfl,rfl,⟨[(.string ⟨⟨[110,101]⟩⟩)],_,rfl,rfl,⟨[(.string ⟨⟨[108,116]⟩⟩)],_,rfl,rfl,⟨[(.string ⟨⟨[108,101]⟩⟩)],_,rfl,rfl,⟨[(.string ⟨⟨[108,116,117]⟩⟩)],_,rfl,rfl,⟨[(.string ⟨⟨[97,100,100,105]⟩⟩)],_,rfl,rfl,⟨[(.string ⟨⟨[108,100]⟩⟩)],_,rfl,rfl,⟨[(.string ⟨⟨[115,116]⟩⟩)],_,rfl,rfl,⟨[(.string ⟨⟨[108,100,115]⟩⟩)],_,rfl,rfl,⟨[(.string ⟨⟨[115,116,115]⟩⟩)],_,rfl,rfl,rfl⟩⟩⟩⟩⟩⟩⟩⟩⟩⟩⟩⟩⟩⟩⟩⟩⟩⟩⟩⟩⟩⟩⟩⟩⟩⟩⟩⟩⟩⟩⟩⟩⟩⟩⟩⟩⟩⟩ rfl) rfl rfl ?_)));rintro _ T N ⟨A,k2,rfl,E,(J:HS _ _ _ [N] _),_⟩;refine wa (.slice A ([⟨[]⟩,⟨[110,111,112]⟩,⟨[114,101,116]⟩,⟨[116,105,99,107]⟩,⟨[116,114,97,112]⟩,⟨[106,109,112]⟩,⟨[99,97,108,108]⟩,⟨[106,122]⟩,⟨[106,110,122]⟩,⟨[111,117,116]⟩,⟨[109,111,118]⟩,⟨[99,109,111,118,122]⟩,⟨[99,109,111,118,110,122]⟩,⟨[108,100,105]⟩,⟨[108,100,99]⟩,⟨[110,101,103]⟩,⟨[110,111,116]⟩,⟨[97,100,100]⟩,⟨[115,117,98]⟩,⟨[109,117,108]⟩,⟨[100,105,118]⟩,⟨[114,101,109]⟩,⟨[97,110,100]⟩,⟨[111,114]⟩,⟨[120,111,114]⟩,⟨[115,104,108]⟩,⟨[115,104,114]⟩,⟨[115,97,114]⟩,⟨[101,113]⟩,⟨[110,101]⟩,⟨[108,116]⟩,⟨[108,101]⟩,⟨[108,116,117]⟩,⟨[97,100,100,105]⟩,⟨[108,100]⟩,⟨[115,116]⟩,⟨[108,100,115]⟩,⟨[115,116,115]⟩]:List Str).length k2) rfl rfl rfl (ae 1 rfl (aq ⟨.inr rfl,_,rfl,A,k2,([⟨[]⟩,⟨[110,111,112]⟩,⟨[114,101,116]⟩,⟨[116,105,99,107]⟩,⟨[116,114,97,112]⟩,⟨[106,109,112]⟩,⟨[99,97,108,108]⟩,⟨[106,122]⟩,⟨[106,110,122]⟩,⟨[111,117,116]⟩,⟨[109,111,118]⟩,⟨[99,109,111,118,122]⟩,⟨[99,109,111,118,110,122]⟩,⟨[108,100,105]⟩,⟨[108,100,99]⟩,⟨[110,101,103]⟩,⟨[110,111,116]⟩,⟨[97,100,100]⟩,⟨[115,117,98]⟩,⟨[109,117,108]⟩,⟨[100,105,118]⟩,⟨[114,101,109]⟩,⟨[97,110,100]⟩,⟨[111,114]⟩,⟨[120,111,114]⟩,⟨[115,104,108]⟩,⟨[115,104,114]⟩,⟨[115,97,114]⟩,⟨[101,113]⟩,⟨[110,101]⟩,⟨[108,116]⟩,⟨[108,101]⟩,⟨[108,116,117]⟩,⟨[97,100,100,105]⟩,⟨[108,100]⟩,⟨[115,116]⟩,⟨[108,100,115]⟩,⟨[115,116,115]⟩]:List Str),N,_,fR,(HS.only J (i:=0) rfl),rfl,E,(by rfl)⟩))
theorem rInfo_c(op:Int)(hs:HS (.of H []) F H [] R)(hop:in64 op)(hT:TB 37 tabC F):kKt ex 68 [(iI op)] H fun v H'=> ∃(x:InfT) (o:Bool) (F':Fz),Fz.le F F'/\HS (.of H []) F' H' [] R/\v= .tuple ⟨[.agg ⟨[.string ⟨⟨x.name.b⟩⟩,.int .i64 x.form,.bool x.ra,.bool x.wa,.bool x.rb,.bool x.mt,.int .i64 x.words]⟩,.bool o]⟩/\in64 x.form/\in64 x.words/\x=aM op/\o=infO op:=by
 have nl:d9.length=38:=rfl;refine aH Tryd.func68 rfl rfl (aj 1 rfl (aa (aI (bD hs rfl) rfl rfl ?_)));rintro _ H2 _ ⟨b1,rfl,(ag:HS _ _ _ [[(b1,.cells [(.string ⟨⟨[]⟩⟩),(iI 0),(.bool false),(.bool false),(.bool false),(.bool false),(iI 0)] none false)]] _),_⟩;refine wa (.bool false) rfl rfl rfl (ae 2 rfl ?_);have c0:=form_imp op;refine wU 3 [(1,.o (iI (dE op)))] 8 9 [4] [(4,(iI (dE op)))] (form_c_q ex op H2) rfl fun _=>wT 1 [] 10 11 [] [(11,(.bool (dE op==0)))] rfl fun _=>az 1 2 (v:=(dE op==0)) rfl rfl rfl rfl (fun U=>?_) (fun U=>?_)
 ·have c6:=U;try simp only[BS]at c6
  refine aa (wTo 1 0 [] 12 12 [] [(12,(.agg ⟨[(.string ⟨⟨[]⟩⟩),(iI 0),(.bool false),(.bool false),(.bool false),(.bool false),(iI 0)]⟩))] rfl fun _=>aT (aK (q:=0) ag rfl rfl rfl rfl rfl rfl rfl rfl rfl) rfl ?_);rintro _ H8 _ ⟨(aw:HS _ _ _ [_] _),_⟩;refine wa (.bool false) rfl rfl rfl (ae 1 rfl (aq ⟨.inr rfl,_,(rC rfl (ldVN rfl rfl (HS.hc aw (i:=0) rfl) rfl) (rT rfl rN)),(⟨⟨[]⟩,0,false,false,false,false,0⟩:InfT),false,_,fR,(HS.forget aw),rfl,(by(dsimp only;omega)),(by(dsimp only;omega)),(infV_no (op:=op) (by omega)),(infO_no (op:=op) (by omega)).symm⟩))
 have c6:=U;try simp only[BS]at c6
 refine aa (aA (am rfl rfl rfl) rfl rfl (names_c ex (HS.call ag) hT) ?_);rintro _ H9 ⟨ci,c3,r9,p9,F9,bl,J,rfl,Z,rfl⟩;replace J:HS _ _ _ [_,p9] _:=HS.back ag rfl J;obtain⟨b3,a7⟩:=Sv.view (OS.sv Z J (i:=1) rfl);refine wRo 5 1 [(3,.o (.string ⟨⟨(d9.getD op.toNat default).b⟩⟩))] 14 18 [] [(18,(.agg ⟨[(.string ⟨⟨(d9.getD op.toNat default).b⟩⟩),(iI (dE op)),(.bool false),(.bool false),(.bool false),(.bool false),(iI 1)]⟩))] (vA (Sv.ix (j:=op) (OS.sv Z J (i:=1) rfl) (by omega) (by omega)) (vA (ql 9 0 (vS (a7 op.toNat) (by omega)) rfl rfl) trivial)) rfl fun _=>aI (bD J rfl) rfl rfl ?_
 rintro _ b5 _ ⟨A,rfl,(a1:HS _ _ _ [_,_,[(A,.cells [(.string ⟨⟨[]⟩⟩),(iI 0),(.bool false),(.bool false),(.bool false),(.bool false),(iI 0)] none false)]] _),_⟩;refine aT (aK (q:=2) a1 rfl rfl rfl rfl rfl rfl rfl rfl rfl) rfl ?_;rintro _ b6 _ ⟨(ad:HS _ _ _ [_,_,[(A,.cells [(.string ⟨⟨(d9.getD op.toNat default).b⟩⟩),(iI (dE op)),(.bool false),(.bool false),(.bool false),(.bool false),(iI 1)] none false)]] _),_⟩;refine ae 3 rfl (wT 1 [] 19 20 [] [(20,(.bool (op==14)))] rfl fun _=>bW (fun f H'=> ∃(E:Int) (F':Fz),Fz.le F9 F'/\HS (Base.of H []) F' H' [[(b1,.cells [(.string ⟨⟨[]⟩⟩),(iI 0),(.bool false),(.bool false),(.bool false),(.bool false),(iI 0)] none false)],p9,[(A,.cells [(.string ⟨⟨(d9.getD op.toNat default).b⟩⟩),(iI (dE op)),(.bool false),(.bool false),(.bool false),(.bool false),(iI E)] none false)]] R/\aD f [(0,(iI op)),(2,(.pointer (some ⟨b1,0,none⟩))),(5,(.pointer (some ⟨A,0,none⟩)))]/\(E=if op=14 then 3 else 1)/\(in64 E)) (fun ar=>?_) ?_)
 ·refine az 0 0 (v:=(op==14)) rfl rfl rfl rfl (fun N=>?_) (fun N=>?_)
  ·have T:=N;try simp only[BS]at T
   refine aa (wTo 1 0 [] 21 21 [] [(21,(.pointer (some ⟨A,6,none⟩)))] rfl fun _=>aT (aK (q:=2) ad rfl rfl rfl rfl rfl rfl rfl rfl rfl) rfl ?_);rintro _ b7 _ ⟨(a3:HS _ _ _ [_,_,[(A,.cells [(.string ⟨⟨(d9.getD op.toNat default).b⟩⟩),(iI (dE op)),(.bool false),(.bool false),(.bool false),(.bool false),(iI 3)] none false)]] _),_⟩;refine ae 0 rfl ?_;exact ar _ _ ⟨3,_,fR,a3,⟨rfl,rfl,rfl,trivial⟩,(by omega),(by omega)⟩
  have T:=N;try simp only[BS]at T
  exact ar _ _ ⟨1,_,fR,ad,⟨rfl,rfl,rfl,trivial⟩,(by omega),(by omega)⟩
 skip;rintro co a8 ⟨E,b4,a0,a2,V,hw,hwr⟩;refine au _ V (fun _=>?_);clear V;refine aj 2 rfl (wT 2 [] 22 27 [6] [(6,(.bool ((op==11)||(op==12))))] rfl fun _=>wT 2 [] 28 33 [7] [(7,(.bool ((op==15)||(op==16))))] rfl fun _=>aa (wUo 33 0 [(6,.o (.bool (decide (17<=op/\op<=32))))] 34 66 [] [(65,(.bool ((((((((((op==11)||(op==12))||((op==15)||(op==16)))||decide (17<=op/\op<=32))||(op==7))||(op==8))||(op==9))||(op==33))||(op==35))||(op==37)))),(66,(.pointer (some ⟨A,2,none⟩)))] (fun(g1:(((op==11)||(op==12))||((op==15)||(op==16)))=false)=>(gx ex op a8)) rfl fun _=>aT (aK (q:=2) a2 rfl rfl rfl rfl rfl rfl rfl rfl rfl) rfl ?_));rintro _ a9 _ ⟨(a4:HS _ _ _ [_,_,[(A,.cells [(.string ⟨⟨(d9.getD op.toNat default).b⟩⟩),(iI (dE op)),(.bool ((((((((((op==11)||(op==12))||((op==15)||(op==16)))||decide (17<=op/\op<=32))||(op==7))||(op==8))||(op==9))||(op==33))||(op==35))||(op==37))),(.bool false),(.bool false),(.bool false),(iI E)] none false)]] _),_⟩;refine ae 2 rfl (aa (wUo 33 0 [(6,.o (.bool (decide (17<=op/\op<=32))))] 67 99 [] [(98,(.bool ((((((((((op==11)||(op==12))||((op==15)||(op==16)))||decide (17<=op/\op<=32))||(op==10))||(op==13))||(op==14))||(op==33))||(op==34))||(op==36)))),(99,(.pointer (some ⟨A,3,none⟩)))] (fun(g1:(((op==11)||(op==12))||((op==15)||(op==16)))=false)=>(gx ex op a9)) rfl fun _=>aT (aK (q:=2) a4 rfl rfl rfl rfl rfl rfl rfl rfl rfl) rfl ?_));rintro _ bb _ ⟨(a5:HS _ _ _ [_,_,[(A,.cells [(.string ⟨⟨(d9.getD op.toNat default).b⟩⟩),(iI (dE op)),(.bool ((((((((((op==11)||(op==12))||((op==15)||(op==16)))||decide (17<=op/\op<=32))||(op==7))||(op==8))||(op==9))||(op==33))||(op==35))||(op==37))),(.bool ((((((((((op==11)||(op==12))||((op==15)||(op==16)))||decide (17<=op/\op<=32))||(op==10))||(op==13))||(op==14))||(op==33))||(op==34))||(op==36))),(.bool false),(.bool false),(iI E)] none false)]] _),_⟩;refine ae 2 rfl (aa (wUo 18 0 [(3,.o (.bool (decide (17<=op/\op<=32))))] 100 117 [] [(116,(.bool ((((((op==11)||(op==12))||decide (17<=op/\op<=32))||(op==10))||(op==34))||(op==35)))),(117,(.pointer (some ⟨A,4,none⟩)))] (fun(g1:((op==11)||(op==12))=false)=>(gx ex op bb)) rfl fun _=>aT (aK (q:=2) a5 rfl rfl rfl rfl rfl rfl rfl rfl rfl) rfl ?_));rintro _ b9 _ ⟨(a6:HS _ _ _ [_,_,[(A,.cells [(.string ⟨⟨(d9.getD op.toNat default).b⟩⟩),(iI (dE op)),(.bool ((((((((((op==11)||(op==12))||((op==15)||(op==16)))||decide (17<=op/\op<=32))||(op==7))||(op==8))||(op==9))||(op==33))||(op==35))||(op==37))),(.bool ((((((((((op==11)||(op==12))||((op==15)||(op==16)))||decide (17<=op/\op<=32))||(op==10))||(op==13))||(op==14))||(op==33))||(op==34))||(op==36))),(.bool ((((((op==11)||(op==12))||decide (17<=op/\op<=32))||(op==10))||(op==34))||(op==35))),(.bool false),(iI E)] none false)]] _),_⟩;refine ae 2 rfl (aa (wTo 19 0 [] 118 136 [] [(135,(.bool (((((op==4)||(op==20))||(op==21))||(op==34))||(op==35)))),(136,(.pointer (some ⟨A,5,none⟩)))] rfl fun _=>aT (aK (q:=2) a6 rfl rfl rfl rfl rfl rfl rfl rfl rfl) rfl ?_));rintro _ cc _ ⟨(al:HS _ _ _ [_,_,[(A,.cells [(.string ⟨⟨(d9.getD op.toNat default).b⟩⟩),(iI (dE op)),(.bool ((((((((((op==11)||(op==12))||((op==15)||(op==16)))||decide (17<=op/\op<=32))||(op==7))||(op==8))||(op==9))||(op==33))||(op==35))||(op==37))),(.bool ((((((((((op==11)||(op==12))||((op==15)||(op==16)))||decide (17<=op/\op<=32))||(op==10))||(op==13))||(op==14))||(op==33))||(op==34))||(op==36))),(.bool ((((((op==11)||(op==12))||decide (17<=op/\op<=32))||(op==10))||(op==34))||(op==35))),(.bool (((((op==4)||(op==20))||(op==21))||(op==34))||(op==35))),(iI E)] none false)]] _),_⟩;let ax:Value:=(.agg ⟨[(.string ⟨⟨(d9.getD op.toNat default).b⟩⟩),(iI (dE op)),(.bool ((((((((((op==11)||(op==12))||((op==15)||(op==16)))||decide (17<=op/\op<=32))||(op==7))||(op==8))||(op==9))||(op==33))||(op==35))||(op==37))),(.bool ((((((((((op==11)||(op==12))||((op==15)||(op==16)))||decide (17<=op/\op<=32))||(op==10))||(op==13))||(op==14))||(op==33))||(op==34))||(op==36))),(.bool ((((((op==11)||(op==12))||decide (17<=op/\op<=32))||(op==10))||(op==34))||(op==35))),(.bool (((((op==4)||(op==20))||(op==21))||(op==34))||(op==35))),(iI E)]⟩)
 refine ae 2 rfl (aa (wUo 1 0 [(0,.o ax)] 137 137 [] [(137,ax)] (qn 105 0 7 (HS.hc al (i:=2) rfl) rfl rfl rfl rfl) rfl fun _=>aT (aK (q:=0) al rfl rfl rfl rfl rfl rfl rfl rfl rfl) rfl ?_));rintro _ ch _ ⟨(an:HS _ _ _ [[(b1,.cells [(.string ⟨⟨(d9.getD op.toNat default).b⟩⟩),(iI (dE op)),(.bool ((((((((((op==11)||(op==12))||((op==15)||(op==16)))||decide (17<=op/\op<=32))||(op==7))||(op==8))||(op==9))||(op==33))||(op==35))||(op==37))),(.bool ((((((((((op==11)||(op==12))||((op==15)||(op==16)))||decide (17<=op/\op<=32))||(op==10))||(op==13))||(op==14))||(op==33))||(op==34))||(op==36))),(.bool ((((((op==11)||(op==12))||decide (17<=op/\op<=32))||(op==10))||(op==34))||(op==35))),(.bool (((((op==4)||(op==20))||(op==21))||(op==34))||(op==35))),(iI E)] none false)],_,_] _),_⟩;refine wa (.bool true) rfl rfl rfl (ae 1 rfl (aq ⟨.inr rfl,_,(rC rfl (ldVN rfl rfl (HS.hc an (i:=0) rfl) rfl) (rT rfl rN)),(⟨⟨(d9.getD op.toNat default).b⟩,dE op,((((((((((op==11)||(op==12))||((op==15)||(op==16)))||decide (17<=op/\op<=32))||(op==7))||(op==8))||(op==9))||(op==33))||(op==35))||(op==37)),((((((((((op==11)||(op==12))||((op==15)||(op==16)))||decide (17<=op/\op<=32))||(op==10))||(op==13))||(op==14))||(op==33))||(op==34))||(op==36)),((((((op==11)||(op==12))||decide (17<=op/\op<=32))||(op==10))||(op==34))||(op==35)),(((((op==4)||(op==20))||(op==21))||(op==34))||(op==35)),E⟩:InfT),true,_,(fT (bl) a0),(HS.forget an),rfl,(by(dsimp only;omega)),(by omega),(by(rw[hw];obtain⟨k,hk⟩:=ex37 (op:=op) ⟨by omega,by omega⟩;rw[hk];clear hk;revert k;decide+kernel)),(infO_at (op:=op) (by omega)).symm⟩))
theorem valw_c(op:Int)(H:Heap):kKt ex 96 [(iI op)] H fun v H'=> ∃(r:Bool),H'=H/\v= .bool r/\r=alV op:=by
 refine aH Tryd.func96 rfl rfl (aj 1 rfl (wT 3 [] 2 2 [] [(2,(.bool false))] rfl fun _=>wT 4 [] 3 3 [] [(3,(iI op))] rfl fun _=>wT 1 [] 4 5 [] [(4,(.bool (op==3)))] rfl fun _=>az 1 1 (v:=(op==3)) rfl rfl rfl rfl (fun ag=>?_) (fun ag=>?_)))
 ·have c4:=ag;try simp only[BS]at c4
  refine bu 1 (v:=(op==3)) rfl ag rfl rfl (wT 1 [] 2 2 [] [(2,(.bool true))] rfl fun _=>aq ⟨.inr rfl,_,rfl,true,rfl,rfl,(cr (by simp;omega))⟩)
 have c4:=ag;try simp only[BS]at c4
 refine wT 1 [] 4 6 [] [(4,(.bool (op==6)))] rfl fun _=>az 1 1 (v:=(op==6)) rfl rfl rfl rfl (fun al=>?_) (fun al=>?_)
 ·have c7:=al;try simp only[BS]at c7
  refine bu 1 (v:=(op==6)) rfl al rfl rfl (wT 1 [] 2 2 [] [(2,(.bool true))] rfl fun _=>aq ⟨.inr rfl,_,rfl,true,rfl,rfl,(cr (by simp;omega))⟩)
 have c7:=al;try simp only[BS]at c7
 refine wT 1 [] 4 7 [] [(4,(.bool (op==9)))] rfl fun _=>az 1 1 (v:=(op==9)) rfl rfl rfl rfl (fun A=>?_) (fun A=>?_)
 ·have an:=A;try simp only[BS]at an
  refine bu 1 (v:=(op==9)) rfl A rfl rfl (wT 1 [] 2 2 [] [(2,(.bool true))] rfl fun _=>aq ⟨.inr rfl,_,rfl,true,rfl,rfl,(cr (by simp;omega))⟩)
 have an:=A;try simp only[BS]at an
 refine wT 1 [] 4 8 [] [(4,(.bool (op==10)))] rfl fun _=>az 1 1 (v:=(op==10)) rfl rfl rfl rfl (fun E=>?_) (fun E=>?_)
 ·have ar:=E;try simp only[BS]at ar
  refine bu 1 (v:=(op==10)) rfl E rfl rfl (wT 1 [] 2 2 [] [(2,(.bool true))] rfl fun _=>aq ⟨.inr rfl,_,rfl,true,rfl,rfl,(cr (by simp;omega))⟩)
 have ar:=E;try simp only[BS]at ar
 refine wT 1 [] 4 9 [] [(4,(.bool (op==11)))] rfl fun _=>az 1 1 (v:=(op==11)) rfl rfl rfl rfl (fun J=>?_) (fun J=>?_)
 ·have av:=J;try simp only[BS]at av
  refine bu 1 (v:=(op==11)) rfl J rfl rfl (wT 1 [] 2 2 [] [(2,(.bool true))] rfl fun _=>aq ⟨.inr rfl,_,rfl,true,rfl,rfl,(cr (by simp;omega))⟩)
 have av:=J;try simp only[BS]at av
 refine wT 1 [] 4 10 [] [(4,(.bool (op==12)))] rfl fun _=>az 1 1 (v:=(op==12)) rfl rfl rfl rfl (fun N=>?_) (fun N=>?_)
 ·have aw:=N;try simp only[BS]at aw
  refine bu 1 (v:=(op==12)) rfl N rfl rfl (wT 1 [] 2 2 [] [(2,(.bool true))] rfl fun _=>aq ⟨.inr rfl,_,rfl,true,rfl,rfl,(cr (by simp;omega))⟩)
 have aw:=N;try simp only[BS]at aw
 refine wT 1 [] 4 11 [] [(4,(.bool (op==13)))] rfl fun _=>az 1 1 (v:=(op==13)) rfl rfl rfl rfl (fun T=>?_) (fun T=>?_)
 ·have ax:=T;try simp only[BS]at ax
  refine bu 1 (v:=(op==13)) rfl T rfl rfl (wT 1 [] 2 2 [] [(2,(.bool true))] rfl fun _=>aq ⟨.inr rfl,_,rfl,true,rfl,rfl,(cr (by simp;omega))⟩)
 have ax:=T;try simp only[BS]at ax
 refine wT 1 [] 4 12 [] [(4,(.bool (op==33)))] rfl fun _=>az 1 1 (v:=(op==33)) rfl rfl rfl rfl (fun U=>?_) (fun U=>?_)
 ·have ay:=U;try simp only[BS]at ay
  refine bu 1 (v:=(op==33)) rfl U rfl rfl (wT 1 [] 2 2 [] [(2,(.bool true))] rfl fun _=>aq ⟨.inr rfl,_,rfl,true,rfl,rfl,(cr (by simp;omega))⟩)
 have ay:=U;try simp only[BS]at ay
 refine wT 1 [] 4 13 [] [(4,(.bool (op==34)))] rfl fun _=>az 1 1 (v:=(op==34)) rfl rfl rfl rfl (fun V=>?_) (fun V=>?_)
 ·have a0:=V;try simp only[BS]at a0
  refine bu 1 (v:=(op==34)) rfl V rfl rfl (wT 1 [] 2 2 [] [(2,(.bool true))] rfl fun _=>aq ⟨.inr rfl,_,rfl,true,rfl,rfl,(cr (by simp;omega))⟩)
 have a0:=V;try simp only[BS]at a0
 refine wT 1 [] 4 14 [] [(4,(.bool (op==35)))] rfl fun _=>az 1 0 (v:=(op==35)) rfl rfl rfl rfl (fun Z=>?_) (fun Z=>?_)
 ·have a1:=Z;try simp only[BS]at a1
  refine bu 1 (v:=(op==35)) rfl Z rfl rfl (wT 1 [] 2 2 [] [(2,(.bool true))] rfl fun _=>aq ⟨.inr rfl,_,rfl,true,rfl,rfl,(cr (by simp;omega))⟩)
 have a1:=Z;try simp only[BS]at a1
 refine wT 1 [] 4 15 [] [(4,(.bool (op==38)))] rfl fun _=>az 1 3 (v:=(op==38)) rfl rfl rfl rfl (fun ad=>?_) (fun ad=>?_)
 ·have a2:=ad;try simp only[BS]at a2
  refine wT 1 [] 2 2 [] [(2,(.bool true))] rfl fun _=>aq ⟨.inr rfl,_,rfl,true,rfl,rfl,(cr (by simp;omega))⟩
 have a2:=ad;try simp only[BS]at a2
 refine wT 1 [] 16 21 [2] [(2,(.bool ((decide ((15:Int)<=op))&&(decide (op<=32)))))] rfl fun _=>aq ⟨.inr rfl,_,rfl,((decide ((15:Int)<=op))&&(decide (op<=32))),rfl,rfl,(cr (by simp;omega))⟩
theorem kB(op:Int)(H:Heap):kKt ex 96 [(iI op)] H fun v H'=>v=(.bool (alV op))/\H'=H:=
 cq (valw_c ex op H) (by rintro _ _ ⟨_,rfl,rfl,rfl⟩;exact⟨rfl,rfl⟩)
theorem ralw_c(op:Int)(H:Heap):kKt ex 84 [(iI op)] H fun v H'=> ∃(r:Bool),H'=H/\v= .bool r/\r=alV op:=by
 refine aH Tryd.func84 rfl rfl (aj 1 rfl (wT 3 [] 2 2 [] [(2,(.bool false))] rfl fun _=>wT 4 [] 3 3 [] [(3,(iI op))] rfl fun _=>wT 1 [] 4 5 [] [(4,(.bool (op==3)))] rfl fun _=>az 1 1 (v:=(op==3)) rfl rfl rfl rfl (fun ag=>?_) (fun ag=>?_)))
 ·have c4:=ag;try simp only[BS]at c4
  refine bu 1 (v:=(op==3)) rfl ag rfl rfl (wT 1 [] 2 2 [] [(2,(.bool true))] rfl fun _=>aq ⟨.inr rfl,_,rfl,true,rfl,rfl,(cr (by simp;omega))⟩)
 have c4:=ag;try simp only[BS]at c4
 refine wT 1 [] 4 6 [] [(4,(.bool (op==6)))] rfl fun _=>az 1 1 (v:=(op==6)) rfl rfl rfl rfl (fun al=>?_) (fun al=>?_)
 ·have c7:=al;try simp only[BS]at c7
  refine bu 1 (v:=(op==6)) rfl al rfl rfl (wT 1 [] 2 2 [] [(2,(.bool true))] rfl fun _=>aq ⟨.inr rfl,_,rfl,true,rfl,rfl,(cr (by simp;omega))⟩)
 have c7:=al;try simp only[BS]at c7
 refine wT 1 [] 4 7 [] [(4,(.bool (op==9)))] rfl fun _=>az 1 1 (v:=(op==9)) rfl rfl rfl rfl (fun A=>?_) (fun A=>?_)
 ·have an:=A;try simp only[BS]at an
  refine bu 1 (v:=(op==9)) rfl A rfl rfl (wT 1 [] 2 2 [] [(2,(.bool true))] rfl fun _=>aq ⟨.inr rfl,_,rfl,true,rfl,rfl,(cr (by simp;omega))⟩)
 have an:=A;try simp only[BS]at an
 refine wT 1 [] 4 8 [] [(4,(.bool (op==10)))] rfl fun _=>az 1 1 (v:=(op==10)) rfl rfl rfl rfl (fun E=>?_) (fun E=>?_)
 ·have ar:=E;try simp only[BS]at ar
  refine bu 1 (v:=(op==10)) rfl E rfl rfl (wT 1 [] 2 2 [] [(2,(.bool true))] rfl fun _=>aq ⟨.inr rfl,_,rfl,true,rfl,rfl,(cr (by simp;omega))⟩)
 have ar:=E;try simp only[BS]at ar
 refine wT 1 [] 4 9 [] [(4,(.bool (op==11)))] rfl fun _=>az 1 1 (v:=(op==11)) rfl rfl rfl rfl (fun J=>?_) (fun J=>?_)
 ·have av:=J;try simp only[BS]at av
  refine bu 1 (v:=(op==11)) rfl J rfl rfl (wT 1 [] 2 2 [] [(2,(.bool true))] rfl fun _=>aq ⟨.inr rfl,_,rfl,true,rfl,rfl,(cr (by simp;omega))⟩)
 have av:=J;try simp only[BS]at av
 refine wT 1 [] 4 10 [] [(4,(.bool (op==12)))] rfl fun _=>az 1 1 (v:=(op==12)) rfl rfl rfl rfl (fun N=>?_) (fun N=>?_)
 ·have aw:=N;try simp only[BS]at aw
  refine bu 1 (v:=(op==12)) rfl N rfl rfl (wT 1 [] 2 2 [] [(2,(.bool true))] rfl fun _=>aq ⟨.inr rfl,_,rfl,true,rfl,rfl,(cr (by simp;omega))⟩)
 have aw:=N;try simp only[BS]at aw
 refine wT 1 [] 4 11 [] [(4,(.bool (op==13)))] rfl fun _=>az 1 1 (v:=(op==13)) rfl rfl rfl rfl (fun T=>?_) (fun T=>?_)
 ·have ax:=T;try simp only[BS]at ax
  refine bu 1 (v:=(op==13)) rfl T rfl rfl (wT 1 [] 2 2 [] [(2,(.bool true))] rfl fun _=>aq ⟨.inr rfl,_,rfl,true,rfl,rfl,(cr (by simp;omega))⟩)
 have ax:=T;try simp only[BS]at ax
 refine wT 1 [] 4 12 [] [(4,(.bool (op==33)))] rfl fun _=>az 1 1 (v:=(op==33)) rfl rfl rfl rfl (fun U=>?_) (fun U=>?_)
 ·have ay:=U;try simp only[BS]at ay
  refine bu 1 (v:=(op==33)) rfl U rfl rfl (wT 1 [] 2 2 [] [(2,(.bool true))] rfl fun _=>aq ⟨.inr rfl,_,rfl,true,rfl,rfl,(cr (by simp;omega))⟩)
 have ay:=U;try simp only[BS]at ay
 refine wT 1 [] 4 13 [] [(4,(.bool (op==34)))] rfl fun _=>az 1 1 (v:=(op==34)) rfl rfl rfl rfl (fun V=>?_) (fun V=>?_)
 ·have a0:=V;try simp only[BS]at a0
  refine bu 1 (v:=(op==34)) rfl V rfl rfl (wT 1 [] 2 2 [] [(2,(.bool true))] rfl fun _=>aq ⟨.inr rfl,_,rfl,true,rfl,rfl,(cr (by simp;omega))⟩)
 have a0:=V;try simp only[BS]at a0
 refine wT 1 [] 4 14 [] [(4,(.bool (op==35)))] rfl fun _=>az 1 0 (v:=(op==35)) rfl rfl rfl rfl (fun Z=>?_) (fun Z=>?_)
 ·have a1:=Z;try simp only[BS]at a1
  refine bu 1 (v:=(op==35)) rfl Z rfl rfl (wT 1 [] 2 2 [] [(2,(.bool true))] rfl fun _=>aq ⟨.inr rfl,_,rfl,true,rfl,rfl,(cr (by simp;omega))⟩)
 have a1:=Z;try simp only[BS]at a1
 refine wT 1 [] 4 15 [] [(4,(.bool (op==38)))] rfl fun _=>az 1 3 (v:=(op==38)) rfl rfl rfl rfl (fun ad=>?_) (fun ad=>?_)
 ·have a2:=ad;try simp only[BS]at a2
  refine wT 1 [] 2 2 [] [(2,(.bool true))] rfl fun _=>aq ⟨.inr rfl,_,rfl,true,rfl,rfl,(cr (by simp;omega))⟩
 have a2:=ad;try simp only[BS]at a2
 refine wT 1 [] 16 21 [2] [(2,(.bool ((decide ((15:Int)<=op))&&(decide (op<=32)))))] rfl fun _=>aq ⟨.inr rfl,_,rfl,((decide ((15:Int)<=op))&&(decide (op<=32))),rfl,rfl,(cr (by simp;omega))⟩
theorem ralw_c_q(op:Int)(H:Heap):kKt ex 84 [(iI op)] H fun v H'=>v=(.bool (alV op))/\H'=H:=
 cq (ralw_c ex op H) (by rintro _ _ ⟨_,rfl,rfl,rfl⟩;exact⟨rfl,rfl⟩)
end Go.Proofs.YtknafdcgpaejlaaDoor.m1
