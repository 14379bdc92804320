/-
The generator of virtual code: what it makes is valid. No condition but that the table lies as laid.
-/
import Derived.Test.YtgdggmlghemecaaDoorZAM3
noncomputable section
namespace Go.Proofs.YtgdggmlghemecaaDoor.m4
open Go.R
set_option maxRecDepth 10000
set_option linter.unusedVariables false
set_option linter.unusedSimpArgs false
variable (ex:FuncId) {F:Fz} {H:Heap} {R:List Fp}
open m1 m2 m3
theorem wr64(n:Int):in64 (IntKind.i64.wrap n):=w64_in n
theorem td64(n:Int){m:Int}(h:0<m):in64 (Int.tdiv (IntKind.i64.wrap n) m):=vq (wr64 n) M
theorem i7{p:Prop} [Decidable p]{n r:Int}(h:p)(z:0<=n/\n<r):e8 (decide p) n r=true:=by rw[decide_eq_true h];exact ba.2 z
theorem gD{p:Prop} [Decidable p]{n r:Int}(h: ¬p)(z:n=0):e8 (decide p) n r=true:=by rw[decide_eq_false h,z];rfl
def opG(op:Int):Prop:=(op=3\/op=6\/(9<=op/\op<=13)\/(15<=op/\op<=35))/\alV op=true
theorem ops_al{op:Int}(h:15<=op/\op<=32):opG op:=⟨by omega,decide_eq_true M⟩
theorem lit12{k:Nat}(h:k<12):opG (([3,6,9,10,11,12,13,33,34,35,10,9]:List Int).getD k 0):=by
 have: ∀k:Fin 12,((([3,6,9,10,11,12,13,33,34,35,10,9]:List Int).getD k.val 0)=3\/(([3,6,9,10,11,12,13,33,34,35,10,9]:List Int).getD k.val 0)=6\/(9<=(([3,6,9,10,11,12,13,33,34,35,10,9]:List Int).getD k.val 0)/\(([3,6,9,10,11,12,13,33,34,35,10,9]:List Int).getD k.val 0)<=13)\/(15<=(([3,6,9,10,11,12,13,33,34,35,10,9]:List Int).getD k.val 0)/\(([3,6,9,10,11,12,13,33,34,35,10,9]:List Int).getD k.val 0)<=35))/\alV (([3,6,9,10,11,12,13,33,34,35,10,9]:List Int).getD k.val 0)=true:=by decide
 exact this ⟨k,h⟩
theorem immT{p op n:Int}(h:op=13\/op=33/\ -4194304<=n/\n<4194304\/op=6/\0<=n/\n<8\/(op=34\/op=35)/\0<=n/\n<4\/(op≠13/\op≠33/\op≠6/\op≠34/\op≠35/\op≠38)/\n=0):iP p op n=true:=by
 unfold iP
 (repeat' split)<;>first|rfl|(apply decide_eq_true;omega)|(exfalso;omega)
theorem all_app{p:Int->Bool}{l:List Int}{x:Int}(h:l.all p=true)(z:p x=true):(l++[x]).all p=true:=by rw[a2g,h];simp[z]
theorem vin_mk{params regs op a b c n:Int}{l:List Int}(A:alV op=true)(E:op=6\/l.length=0)(N:l.length<=6)(T:l.all (aY regs)=true)(U:e8 (decide (aE op≠1)) a regs=true)(a_:e8 (decide (aE op=3\/aE op=4\/aE op=7)) b regs=true)(Z:e8 (decide (aE op=4)) c regs=true)(z:iP params op n=true):fO params regs ⟨⟨op,a,b,c,n⟩,l⟩=true:=by unfold fO;simp only[A,decide_eq_true E,decide_eq_true N,T,U,a_,Z,z,a1q]
def ckI(v:VInT):Bool:=decide ((v.i.op=6->(v.i.n=0/\v.args.length=2\/v.i.n=1/\v.args.length=1))/\(v.i.op=34\/v.i.op=35->v.i.n<2))
theorem dL{z:Nat}(d:DigT)(m:Int)(hs:HS (.of H [z]) F H [(fP z [(iI d.n)])] R)(E:in64 d.n)(hm:in64 m)(hT:TB 37 tabC F)(hm:0<m):kKt ex 16 [(pT z 0),(iI m)] H fun v H'=> ∃(r:Int) (Z:DigT) (F':Fz),Fz.le F F'/\HS (.of H [z]) F' H' [(fP z [(iI Z.n)])] R/\v=iI r/\in64 Z.n/\(0<=r/\r<m):=by
 refine aC Tryd.func16 V V ?_;refine aj 1 V ?_;refine wT 2 [] 4 4 [] [(4,(iI 0))] V fun _=>?_
 have N:=cm d.n m;refine bF 2 6 11 [5] [(5,(iI (au d.n m)))] (Hr_ 3 0 (Hc_ 5 (m1.cw ex d.n m H (by first|omega|exact wr64 _|exact td64 _ M)) Hn_)) hs V V fun _=>?_
 refine sgr 2 12 22 [] [] (Hr_ 4 0 (Hw_ 6 (.w) (Ha_ (vA (show m≠0 from by first|omega|exact wr64 _|exact td64 _ M) (vq (a:=IntKind.i64.wrap (d.n-(au d.n m))) (b:=m) (by first|omega|exact wr64 _|exact td64 _ M) (by first|omega|exact wr64 _|exact td64 _ M))) (Hr_ 11 0 Hn_)))) hs V V fun T U A=>?_
 refine wT 1 [] 4 4 [23] [(4,(iI (au d.n m)))] V fun _=>?_
 refine am ⟨.inr V,_,V,au d.n m,(⟨Int.tdiv (IntKind.i64.wrap (d.n-(au d.n m))) m⟩:DigT),_,fR,(HS.first A),V,(by first|omega|exact wr64 _|exact td64 _ M),(by first|assumption|omega|simp_all)⟩
theorem word_c(n:Int)(z:Int)(hs:HS (.of H []) F H [] R)(hn:in64 n)(ai:in64 z)(hT:TB 37 tabC F):kKt ex 36 [(iI n),(iI z)] H fun v H'=> ∃(r:Int) (F':Fz),Fz.le F F'/\HS (.of H []) F' H' [] R/\v=iI r/\(in64 r):=by
 refine aC Tryd.func36 V V ?_;refine aj 1 V ?_;refine wT 2 [] 4 4 [] [(4,(iI 0))] V fun _=>?_
 refine aa ?_;refine zlo ([0,1,(-1),2,(-9223372036854775808),9223372036854775807,4294967296,(-2147483648),63,64]:List Int) hs V (RL.cs ⟨V,by omega⟩ (RL.cs ⟨V,by omega⟩ (RL.cs ⟨V,by omega⟩ (RL.cs ⟨V,by omega⟩ (RL.cs ⟨V,by omega⟩ (RL.cs ⟨V,by omega⟩ (RL.cs ⟨V,by omega⟩ (RL.cs ⟨V,by omega⟩ (RL.cs ⟨V,by omega⟩ (RL.cs ⟨V,by omega⟩ RL.nl)))))))))) V fun Z k2 p2 a_ N A=>?_
 refine wa (sL Z ([0,1,(-1),2,(-9223372036854775808),9223372036854775807,4294967296,(-2147483648),63,64]:List Int).length k2) V V V ?_;refine ae 2 V ?_;have an:=cm n (24:Int);refine wU 4 [(1,.o (iI (au n (24:Int))))] 8 9 [6] [(6,(iI (au n (24:Int))))] (m1.cw ex n (24) a_ M) V fun _=>?_
 refine wT 1 [] 10 12 [] [(10,(.bool (decide (au n (24:Int)<10))))] V fun _=>?_
 refine az 1 1 (v:=(decide (au n (24:Int)<10))) V V V V (fun U=>?_) (fun U=>?_)
 ·try simp only[BS]at U
  obtain⟨al,T⟩:=Sv.view (OS.sv N A (i:=0) V);have g9:=fI (T (au n (24:Int)).toNat);refine wrp 1 13 16 [4] [(4,(iI (([0,1,(-1),2,(-9223372036854775808),9223372036854775807,4294967296,(-2147483648),63,64]:List Int).getD (au n (24:Int)).toNat 0)))] (Ha_ (Sv.ix (j:=au n (24:Int)) (OS.sv N A (i:=0) V) M (show au n (24:Int)<(10:Int) from by omega)) (Hl_ 3 (ql 2 0 (vI (T (au n (24:Int)).toNat) (show(au n (24:Int)).toNat<10 from by omega)) V V) Hn_)) (by kernel_rfl) V fun _=>?_
  refine am ⟨.inr V,_,V,(([0,1,(-1),2,(-9223372036854775808),9223372036854775807,4294967296,(-2147483648),63,64]:List Int).getD (au n (24:Int)).toNat 0),_,fR,(HS.forget A),V,M⟩
 try simp only[BS]at U
 refine wT 1 [] 17 19 [] [(17,(.bool (decide (au n (24:Int)<22))))] V fun _=>?_
 refine az 1 3 (v:=(decide (au n (24:Int)<22))) V V V V (fun E=>?_) (fun E=>?_)
 ·try simp only[BS]at E
  have ag:in64 n->in64 (Int.tdiv n 24):=fun h=>vq h e_
  have ad:=cm (Int.tdiv n 24) (17:Int);refine wR 1 [(2,.o (iI (au (Int.tdiv n 24) (17:Int))))] 20 23 [4] [(4,(iI ((au (Int.tdiv n 24) (17:Int))-6)))] (vA (vA (show(24:Int)≠0 from by decide) (vq (a:=n) (b:=24) M e_)) (vA (m1.cw ex (Int.tdiv n 24) (17) a_ M) (vA (vi (n:=(au (Int.tdiv n 24) (17:Int))-6) M) trivial))) V fun _=>?_
  refine am ⟨.inr V,_,V,(au (Int.tdiv n 24) (17:Int))-6,_,fR,(HS.forget A),V,M⟩
 try simp only[BS]at E
 refine wT 1 [] 4 4 [24] [(4,(iI z))] V fun _=>?_
 refine am ⟨.inr V,_,V,z,_,fR,(HS.forget A),V,M⟩
set_option maxHeartbeats 1000000 in
theorem vi_c(n:Int){c7:Option Addr}{g0:Nat}(c:VFnT)(hs:HS (.of H []) F H [] R)(hn:in64 n)(mX:in64 c.params)(mY:in64 c.regs)(z:TB 37 tabC F)(hr:1<=c.regs/\c.regs<=3000):kKt ex 15 [(iI n),(aG [(iI c.params),(iI c.regs),(sL c7 c.blocks.length g0)])] H fun v H'=> ∃(x:VInT) (c8:Option Addr) (g1:Nat) (F':Fz),Fz.le F F'/\HS (.of H []) F' H' [] R/\v= .agg ⟨[iI x.i.op,iI x.i.a,iI x.i.b,iI x.i.c,iI x.i.n,sL c8 x.args.length g1]⟩/\in64 x.i.op/\in64 x.i.a/\in64 x.i.b/\in64 x.i.c/\in64 x.i.n/\SR F' (sL c8 x.args.length g1) x.args/\(fO c.params c.regs x=true)/\(ckI x=true):=by
 refine aC Tryd.func15 V V ?_;refine aj 1 V ?_;refine aa ?_;refine aV (aO hs V V) V V ?_;rintro _ H2 _ ⟨b1,rfl,f0,_⟩;refine zn f0 V fun b3 H4 kn=>?_
 refine ae 2 V ?_;refine aa ?_;refine wTo 2 0 [] 14 15 [] [(15,(aG [(iI n)]))] V fun _=>?_
 refine aV (aO kn V V) V V ?_;rintro _ H7 _ ⟨T,rfl,ko,_⟩;refine wa (pT T 0) V V V ?_;refine ae 2 V ?_;refine aa ?_;refine zlo ([3,6,9,10,11,12,13,33,34,35,10,9]:List Int) ko V (RL.cs ⟨V,by first|omega|(dsimp only;omega)⟩ (RL.cs ⟨V,by first|omega|(dsimp only;omega)⟩ (RL.cs ⟨V,by first|omega|(dsimp only;omega)⟩ (RL.cs ⟨V,by first|omega|(dsimp only;omega)⟩ (RL.cs ⟨V,by first|omega|(dsimp only;omega)⟩ (RL.cs ⟨V,by first|omega|(dsimp only;omega)⟩ (RL.cs ⟨V,by first|omega|(dsimp only;omega)⟩ (RL.cs ⟨V,by first|omega|(dsimp only;omega)⟩ (RL.cs ⟨V,by first|omega|(dsimp only;omega)⟩ (RL.cs ⟨V,by first|omega|(dsimp only;omega)⟩ (RL.cs ⟨V,by first|omega|(dsimp only;omega)⟩ (RL.cs ⟨V,by first|omega|(dsimp only;omega)⟩ RL.nl)))))))))))) V fun a8 k8 p8 H9 c6 g7=>?_
 refine wa (sL a8 ([3,6,9,10,11,12,13,33,34,35,10,9]:List Int).length k8) V V V ?_;refine ae 2 V ?_;refine aa ?_;refine wm (pT T 0) V V V ?_;refine aH (aq V V V) V V (dL ex (⟨n⟩:DigT) (18) (HS.callOwn g7 (i:=2) V) M M z M) ?_;rintro _ nC ⟨g3,ha,nj,b4,a3,rfl,it,oh⟩;replace a3:=g7.bO a3;replace z:=z.mono b4;refine wUo 2 2 [] 20 20 [7] [(7,(iI (15+g3)))] (vi (n:=15+g3) M) V fun _=>?_
 refine ae 3 V ?_;refine aa ?_;refine wm (pT T 0) V V V ?_;refine aH (aq V V V) V V (dL ex (⟨ha.n⟩:DigT) (24) (HS.callOwn a3 (i:=2) V) M M z M) ?_;rintro _ g5 ⟨ar,d4,nk,b5,ax,rfl,iv,oi⟩;replace ax:=a3.bO ax;replace z:=z.mono b5;replace c6:=(c6.mono b4).mono b5;refine wa (iI ar) V V V ?_;refine ae 2 V ?_;refine wT 1 [] 23 26 [] [(26,(.bool (decide (ar<12))))] V fun _=>?_
 refine bH (fun f H'=> ∃(A:Int),H'=g5/\aA f [(0,(iI n)),(3,(pT b1 0)),(4,(pT b3 0)),(5,(pT T 0)),(7,(iI A))]/\(opG A)) (fun f7=>?_) ?_
 ·refine az 0 0 (v:=(decide (ar<12))) V V V V (fun c9=>?_) (fun c9=>?_)
  ·try simp only[BS]at c9
   obtain⟨lf,f5⟩:=Sv.view (OS.sv c6 ax (i:=3) V);have og:=fI (f5 ar.toNat);refine wrp 0 27 30 [7] [(7,(iI (([3,6,9,10,11,12,13,33,34,35,10,9]:List Int).getD ar.toNat 0)))] (Ha_ (Sv.ix (j:=ar) (OS.sv c6 ax (i:=3) V) M (show ar<(12:Int) from by first|omega|(dsimp only;omega))) (Hl_ 3 (ql 3 0 (vI (f5 ar.toNat) (show ar.toNat<12 from by first|omega|(dsimp only;omega))) V V) Hn_)) (by kernel_rfl) V fun _=>?_
   exact f7 _ _ ⟨(([3,6,9,10,11,12,13,33,34,35,10,9]:List Int).getD ar.toNat 0),V,(agC V (agC V (agC V (agC V (agC V agN))))),(by first|exact lit12 M|exact ops_al M)⟩
  try simp only[BS]at c9
  exact f7 _ _ ⟨15+g3,V,(agC V (agC V (agC V (agC V (agC V agN))))),(by first|exact lit12 M|exact ops_al M)⟩
 skip;rintro n9 g5 ⟨A,rfl,e3,ho⟩;refine ap _ e3 (fun _=>?_);clear e3;have hf:=aL ho.2;have pl:aE A=(aW A).form:=if_neg (by have:=ho.1;omega);have oy:=ho.1;refine aj 2 V ?_;refine aa ?_;refine cj 3 0 31 33 [] [(33,(aG [(iI A),(iI 0),(iI 0),(iI 0),(iI 0),(sL none 0 0)]))] Hn_ (by kernel_rfl) V fun _=>?_
 refine zn ax V fun an nD hG=>?_
 refine sgo 1 4 1 0 [] [] (Hr_ 4 4 Hn_) hG V V fun ll nE f1=>?_
 refine ae 2 V ?_;refine aa ?_;refine wm (iI A) V V V ?_;refine aH (aq V V V) V V (m1.rInfo_c ex A (HS.call f1) M z) ?_;rintro _ nF ⟨oC,oA,h4,ea,b8,rfl,h2,h3,rfl,rfl⟩;replace b8:=HS.back f1 V b8;replace z:=z.mono ea;refine cj 3 2 37 38 [34] [(37,(aG [(tX (aW A).name.b),(iI (aW A).form),(.bool (aW A).ra),(.bool (aW A).wa),(.bool (aW A).rb),(.bool (aW A).mt),(iI (aW A).words)])),(38,(.bool (infO A)))] Hn_ (by kernel_rfl) V fun _=>?_
 refine zn b8 V fun il nG hH=>?_
 refine sgo 2 6 1 0 [11] [] (Hr_ 6 5 Hn_) hH V V fun lr nH ay=>?_
 refine ae 2 V ?_;refine bF 3 39 40 [12] [(12,(iI (aW A).form))] (Hr_ 1 5 Hn_) ay V V fun _=>?_
 refine wT 1 [] 41 42 [] [(42,(.bool ((aW A).form !=1)))] V fun _=>?_
 let bk:Fp:=(fP b1 [(iI c.params),(iI c.regs),(sL c7 c.blocks.length g0)])
 let bl:Fp:=(fP b3 [(iI 0),(iI 0),(iI 0),(iI 0),(iI 0),(sL none 0 0)])
 let bz:Fp:=(fP il [(tX (aW A).name.b),(iI (aW A).form),(.bool (aW A).ra),(.bool (aW A).wa),(.bool (aW A).rb),(.bool (aW A).mt),(iI (aW A).words)])
 refine bH (fun f H'=> ∃(ja:Int) (a7:DigT) (F':Fz),Fz.le h4 F'/\HS (Base.of H []) F' H' [bk,bl,(fP T [(iI a7.n)]),p8,(fP an [(iI A),(iI ja),(iI 0),(iI 0),(iI 0),(sL none 0 0)]),bz] R/\aA f [(0,(iI n)),(3,(pT b1 0)),(4,(pT b3 0)),(5,(pT T 0)),(7,(iI A)),(9,(pT an 0)),(12,(iI (aW A).form))]/\(e8 (decide (aE A≠1)) ja c.regs=true)/\(in64 ja)/\(in64 a7.n)) (fun f8=>?_) ?_
 ·refine az 0 0 (v:=((aW A).form !=1)) V V V V (fun dd=>?_) (fun dd=>?_)
  ·try simp only[BS]at dd
   refine aa ?_;refine bn 3 0 43 45 [] [(43,(pT T 0)),(45,(iI c.regs))] (Hr_ 2 0 Hn_) ay V V fun _=>?_
   refine aH (aq V V V) V V (dL ex (⟨d4.n⟩:DigT) c.regs (HS.callOwn ay (i:=2) V) M M z M) ?_;rintro _ nJ ⟨kx,hb,nm,hq,b9,rfl,iz,oj⟩;replace b9:=ay.bO b9;refine sgo 3 4 47 48 [] [] (Hr_ 6 4 Hn_) b9 V V fun l0 nK hI=>?_
   refine ae 0 V ?_;exact f8 _ _ ⟨kx,(⟨hb.n⟩:DigT),_,(hq),hI,(agC V (agC V (agC V (agC V (agC V (agC V (agC V agN))))))),(by first|exact i7 M M|exact gD M V),(by first|assumption|omega|(simp at *;omega)),(by first|assumption|omega|(simp at *;omega))⟩
  try simp only[BS]at dd
  exact f8 _ _ ⟨0,(⟨d4.n⟩:DigT),_,fR,ay,(agC V (agC V (agC V (agC V (agC V (agC V (agC V agN))))))),(by first|exact i7 M M|exact gD M V),(by first|assumption|omega|(simp at *;omega)),(by first|assumption|omega|(simp at *;omega))⟩
 skip;rintro oa nI ⟨ja,a7,h5,em,a4,e4,hja,rja,m9⟩;refine ap _ e4 (fun _=>?_);clear e4;replace z:=z.mono em;refine aj 3 V ?_;refine wT 1 [] 49 58 [] [(58,(.bool ((((aW A).form==3)||((aW A).form==4))||((aW A).form==7))))] V fun _=>?_
 refine bH (fun f H'=> ∃(jb:Int) (a9:DigT) (F':Fz),Fz.le h5 F'/\HS (Base.of H []) F' H' [bk,bl,(fP T [(iI a9.n)]),p8,(fP an [(iI A),(iI ja),(iI jb),(iI 0),(iI 0),(sL none 0 0)]),bz] R/\aA f [(0,(iI n)),(3,(pT b1 0)),(4,(pT b3 0)),(5,(pT T 0)),(7,(iI A)),(9,(pT an 0)),(12,(iI (aW A).form))]/\(e8 (decide (aE A=3\/aE A=4\/aE A=7)) jb c.regs=true)/\(in64 jb)/\(in64 a9.n)) (fun f9=>?_) ?_
 ·refine az 0 0 (v:=((((aW A).form==3)||((aW A).form==4))||((aW A).form==7))) V V V V (fun dk=>?_) (fun dk=>?_)
  ·try simp only[BS]at dk
   refine aa ?_;refine bn 3 0 59 61 [] [(59,(pT T 0)),(61,(iI c.regs))] (Hr_ 2 0 Hn_) a4 V V fun _=>?_
   refine aH (aq V V V) V V (dL ex (⟨a7.n⟩:DigT) c.regs (HS.callOwn a4 (i:=2) V) M M z M) ?_;rintro _ nM ⟨ky,he,nn,ht,cc,rfl,i2,ol⟩;replace cc:=a4.bO cc;refine sgo 3 4 63 64 [] [] (Hr_ 6 4 Hn_) cc V V fun l1 nN hJ=>?_
   refine ae 0 V ?_;exact f9 _ _ ⟨ky,(⟨he.n⟩:DigT),_,(ht),hJ,(agC V (agC V (agC V (agC V (agC V (agC V (agC V agN))))))),(by first|exact i7 M M|exact gD M V),(by first|assumption|omega|(simp at *;omega)),(by first|assumption|omega|(simp at *;omega))⟩
  try simp only[BS]at dk
  exact f9 _ _ ⟨0,(⟨a7.n⟩:DigT),_,fR,a4,(agC V (agC V (agC V (agC V (agC V (agC V (agC V agN))))))),(by first|exact i7 M M|exact gD M V),(by first|assumption|omega|(simp at *;omega)),(by first|assumption|omega|(simp at *;omega))⟩
 skip;rintro ob nL ⟨jb,a9,h6,et,a5,e5,hjb,rjb,ne⟩;refine ap _ e5 (fun _=>?_);clear e5;replace z:=z.mono et;refine aj 3 V ?_;refine wT 1 [] 65 66 [] [(66,(.bool ((aW A).form==4)))] V fun _=>?_
 refine bH (fun f H'=> ∃(jc:Int) (av:DigT) (F':Fz),Fz.le h6 F'/\HS (Base.of H []) F' H' [bk,bl,(fP T [(iI av.n)]),p8,(fP an [(iI A),(iI ja),(iI jb),(iI jc),(iI 0),(sL none 0 0)]),bz] R/\aA f [(0,(iI n)),(3,(pT b1 0)),(4,(pT b3 0)),(5,(pT T 0)),(7,(iI A)),(9,(pT an 0))]/\(e8 (decide (aE A=4)) jc c.regs=true)/\(in64 jc)/\(in64 av.n)) (fun go=>?_) ?_
 ·refine az 0 0 (v:=((aW A).form==4)) V V V V (fun dn=>?_) (fun dn=>?_)
  ·try simp only[BS]at dn
   refine aa ?_;refine bn 3 0 67 69 [] [(67,(pT T 0)),(69,(iI c.regs))] (Hr_ 2 0 Hn_) a5 V V fun _=>?_
   refine aH (aq V V V) V V (dL ex (⟨a9.n⟩:DigT) c.regs (HS.callOwn a5 (i:=2) V) M M z M) ?_;rintro _ nP ⟨kz,hg,np,hu,ch,rfl,i3,om⟩;replace ch:=a5.bO ch;refine sgo 3 4 71 72 [] [] (Hr_ 6 4 Hn_) ch V V fun l2 nQ hK=>?_
   refine ae 0 V ?_;exact go _ _ ⟨kz,(⟨hg.n⟩:DigT),_,(hu),hK,(agC V (agC V (agC V (agC V (agC V (agC V agN)))))),(by first|exact i7 M M|exact gD M V),(by first|assumption|omega|(simp at *;omega)),(by first|assumption|omega|(simp at *;omega))⟩
  try simp only[BS]at dn
  exact go _ _ ⟨0,(⟨a9.n⟩:DigT),_,fR,a5,(agC V (agC V (agC V (agC V (agC V (agC V agN)))))),(by first|exact i7 M M|exact gD M V),(by first|assumption|omega|(simp at *;omega)),(by first|assumption|omega|(simp at *;omega))⟩
 skip;rintro oc nO ⟨jc,av,g4,ez,U,e6,hjc,rjc,ng⟩;refine ap _ e6 (fun _=>?_);clear e6;replace z:=z.mono ez;refine aj 3 V ?_;refine wT 3 [] 73 73 [] [(73,(iI A))] V fun _=>?_
 refine wT 1 [] 74 75 [] [(74,(.bool (A==13)))] V fun _=>?_
 refine bH (fun f H'=> ∃(jq:Int) (ai:List Int) (f6:DigT) (a_:Option Addr) (ad:Nat) (F':Fz),Fz.le g4 F'/\HS (Base.of H []) F' H' [bk,bl,(fP T [(iI f6.n)]),p8,(fP an [(iI A),(iI ja),(iI jb),(iI jc),(iI jq),(sL a_ ai.length ad)]),bz] R/\SR F' (sL a_ ai.length ad) ai/\aA f [(4,(pT b3 0)),(9,(pT an 0))]/\(iP c.params A jq=true)/\(in64 jq)/\((A=6\/ai.length=0)/\ai.length<=6)/\(ai.all (aY c.regs)=true)/\((A=6->(jq=0/\ai.length=2\/jq=1/\ai.length=1))/\(A=34\/A=35->jq<2))/\(in64 f6.n)) (fun aw=>?_) ?_
 ·refine az 0 1 (v:=(A==13)) V V V V (fun ds=>?_) (fun ds=>?_)
  ·try simp only[BS]at ds
   refine aa ?_;refine wm (pT T 0) V V V ?_;refine aH (aq V V V) V V (dL ex (⟨av.n⟩:DigT) (400) (HS.callOwn U (i:=2) V) M M z M) ?_;rintro _ nS ⟨k0,hh,ny,e0,a6,rfl,jw,oo⟩;replace a6:=U.bO a6;replace z:=z.mono e0;refine wm (iI n) V V V ?_;refine aH (aq V V V) V V (word_c ex k0 n (HS.call a6) M M z) ?_;rintro _ nT ⟨k3,h7,hw,ci,rfl,oq⟩;replace ci:=HS.back a6 V ci;refine sgo 3 4 80 81 [] [] (Hr_ 6 4 Hn_) ci V V fun l3 nU hQ=>?_
   refine ae 0 V ?_;exact aw _ _ ⟨k3,([]:List Int),(⟨hh.n⟩:DigT),none,0,_,(fT (e0) hw),hQ,(SR.nil:SR h7 (sL none 0 0) ([]:List Int)),(agC V (agC V agN)),(by exact immT M),(by first|assumption|omega|(simp at *;omega)),n_,t_,n_,(by first|assumption|omega|(simp at *;omega))⟩
  try simp only[BS]at ds
  refine wT 1 [] 82 83 [] [(82,(.bool (A==33)))] V fun _=>?_
  refine az 0 2 (v:=(A==33)) V V V V (fun dt=>?_) (fun dt=>?_)
  ·try simp only[BS]at dt
   refine aa ?_;refine wm (pT T 0) V V V ?_;refine aH (aq V V V) V V (dL ex (⟨av.n⟩:DigT) (9) (HS.callOwn U (i:=2) V) M M z M) ?_;rintro _ nV ⟨g8,hj,h8,hz,co,rfl,kc,ot⟩;replace co:=U.bO co;refine sgo 4 2 86 88 [] [] (Ha_ (vi (n:=g8-4) M) (Hr_ 5 4 Hn_)) co V V fun l4 nW hR=>?_
   refine ae 0 V ?_;exact aw _ _ ⟨g8-4,([]:List Int),(⟨hj.n⟩:DigT),none,0,_,(hz),hR,(SR.nil:SR h8 (sL none 0 0) ([]:List Int)),(agC V (agC V agN)),(by exact immT M),(by first|assumption|omega|(simp at *;omega)),n_,t_,n_,(by first|assumption|omega|(simp at *;omega))⟩
  try simp only[BS]at dt
  refine wT 1 [] 89 90 [] [(89,(.bool (A==34)))] V fun _=>?_
  refine az 1 0 (v:=(A==34)) V V V V (fun a2=>?_) (fun a2=>?_)
  ·have dv:=a2;try simp only[BS]at dv
   refine bm 0 (v:=(A==34)) V a2 V V ?_;refine aa ?_;refine wm (pT T 0) V V V ?_;refine aH (aq V V V) V V (dL ex (⟨av.n⟩:DigT) (2) (HS.callOwn U (i:=2) V) M M z M) ?_;rintro _ nX ⟨k4,hk,h9,hA,c0,rfl,kd,ou⟩;replace c0:=U.bO c0;refine sgo 3 2 94 95 [] [] (Hr_ 4 4 Hn_) c0 V V fun l9 nY hS=>?_
   refine ae 0 V ?_;exact aw _ _ ⟨k4,([]:List Int),(⟨hk.n⟩:DigT),none,0,_,(hA),hS,(SR.nil:SR h9 (sL none 0 0) ([]:List Int)),(agC V (agC V agN)),(by exact immT M),(by first|assumption|omega|(simp at *;omega)),n_,t_,n_,(by first|assumption|omega|(simp at *;omega))⟩
  have dv:=a2;try simp only[BS]at dv
  refine wT 1 [] 89 91 [] [(89,(.bool (A==35)))] V fun _=>?_
  refine az 0 1 (v:=(A==35)) V V V V (fun d1=>?_) (fun d1=>?_)
  ·try simp only[BS]at d1
   refine aa ?_;refine wm (pT T 0) V V V ?_;refine aH (aq V V V) V V (dL ex (⟨av.n⟩:DigT) (2) (HS.callOwn U (i:=2) V) M M z M) ?_;rintro _ nZ ⟨k5,hl,ib,hB,c3,rfl,kg,ov⟩;replace c3:=U.bO c3;refine sgo 3 2 94 95 [] [] (Hr_ 4 4 Hn_) c3 V V fun mk n1 hV=>?_
   refine ae 0 V ?_;exact aw _ _ ⟨k5,([]:List Int),(⟨hl.n⟩:DigT),none,0,_,(hB),hV,(SR.nil:SR ib (sL none 0 0) ([]:List Int)),(agC V (agC V agN)),(by exact immT M),(by first|assumption|omega|(simp at *;omega)),n_,t_,n_,(by first|assumption|omega|(simp at *;omega))⟩
  try simp only[BS]at d1
  refine wT 1 [] 96 97 [] [(96,(.bool (A==6)))] V fun _=>?_
  refine az 1 0 (v:=(A==6)) V V V V (fun d2=>?_) (fun d2=>?_)
  ·try simp only[BS]at d2
   refine aa ?_;refine wm (pT T 0) V V V ?_;refine aH (aq V V V) V V (dL ex (⟨av.n⟩:DigT) (2) (HS.callOwn U (i:=2) V) M M z M) ?_;rintro _ n2 ⟨a1,hm,ih,e1,c4,rfl,ki,ow⟩;replace c4:=U.bO c4;refine sgo 3 2 100 101 [] [] (Hr_ 4 4 Hn_) c4 V V fun mx n3 f2=>?_
   refine ae 2 V ?_;refine bF 2 102 105 [13] [(13,(iI (2-a1)))] (Hr_ 2 4 (Ha_ (vi (n:=2-a1) M) Hn_)) f2 V V fun _=>?_
   have hW:=HS.snoc f2;refine ah (fun(mm:Nat) f H'=> ∃(kk:Int) (al:List Int) (dl:DigT) (ag:Fp) (E:Option Addr) (N:Nat) (F':Fz),Fz.le ih F'/\HS (Base.of H []) F' H' [bk,bl,(fP T [(iI dl.n)]),p8,(fP an [(iI A),(iI ja),(iI jb),(iI jc),(iI a1),(sL E al.length N)]),bz,ag] R/\OS F' (sL E al.length N) al ag/\aA f [(3,(pT b1 0)),(4,(pT b3 0)),(5,(pT T 0)),(9,(pT an 0)),(13,(iI kk))]/\mm=kk.toNat/\((al.length:Int)+kk=2-a1/\0<=kk)/\(al.all (aY c.regs)=true)/\(in64 dl.n)/\(kk<=2)) _ ⟨2-a1,([]:List Int),(⟨hm.n⟩:DigT),[],none,0,_,fR,hW,(OS.nil:OS _ (sL none 0 0) ([]:List Int) []),(agC V (agC V (agC V (agC V (agC V agN))))),V,m_,s_,(by first|assumption|omega|(simp at *;omega)),(by first|assumption|omega|(simp at *;omega))⟩ ?_;rintro m7 oe n4 ⟨kk,al,dl,ag,E,N,nz,b7,a0,Z,fi,rfl,q1,q2,q3,q4⟩ h1;refine ap _ fi (fun _=>?_);clear fi;replace z:=(z.mono e1).mono b7;refine aj 2 V ?_;refine wT 1 [] 106 107 [] [(107,(.bool (decide ((0:Int)<kk))))] V fun _=>?_
   refine az 3 3 (v:=(decide ((0:Int)<kk))) V V V V (fun d3=>?_) (fun d3=>?_)
   ·try simp only[BS]at d3
    refine aF V ?_;refine d8 5 110 114 [] [(111,(sL E al.length N)),(112,(pT T 0)),(114,(iI c.regs))] (Hr_ 1 4 (Hr_ 4 0 Hn_)) a0 V V fun _=>?_
    refine wcD [T] (j:=2) a0 V V (dL ex (⟨dl.n⟩:DigT) c.regs (HS.callOwn a0.log0 (i:=2) V) M M z M) V V (⟨.inl V,⟨.inl V,⟨.inl V,⟨.inr (HS.nin a0 (i:=4) (j:=2) V V e_ (List.Mem.head _)),⟨.inr trivial,trivial⟩⟩⟩⟩⟩) ?_;rintro _ n5 ⟨g9,hp,nA,e2,c5,rfl,kl,ox⟩;refine⟨_,_,_,c5,fun k6 c5=>?_⟩;replace Z:=Z.mono e2;refine zld ([g9]:List Int) c5 V (RL.cs ⟨V,by first|omega|(dsimp only;omega)⟩ RL.nl) V fun n8 oz oB k7 hD f3=>?_
    refine zad 6 Z f3 (OS.sv hD f3 (i:=7) V) V V V k_ (⟨.inl V,⟨.inl V,⟨.inl V,⟨.inl V,⟨.inl V,⟨.inl V,⟨.inl V,trivial⟩⟩⟩⟩⟩⟩⟩) fun ik kr kt k9 hE hX=>?_
    refine sdo 2 118 118 [] [] (Hr_ 9 4 Hn_) hX V V fun mI n6 hY=>?_
    refine bB 2 V ?_;refine wU 1 [] 108 109 [13] [(13,(iI (kk-1)))] (vi (n:=kk-1) M) V fun _=>?_
    refine h1 _ _ _ ?_ ⟨kk-1,al++([g9]:List Int),(⟨hp.n⟩:DigT),kt,ik,kr,_,(fT (b7) e2),(HS.sub hY (a02 _ _)),hE,(agC V (agC V (agC V (agC V (agC V agN))))),V,m_,(by exact all_app q2 (ba.2 M)),(by first|assumption|omega|(simp at *;omega)),(by first|assumption|omega|(simp at *;omega))⟩;omega
   try simp only[BS]at d3
   obtain⟨nB,hC,h0,hF,mZ⟩:=OS.frz Z a0 (i:=6) V;exact aw _ _ ⟨a1,al,(⟨dl.n⟩:DigT),E,N,_,(fT (fT (e1) b7) hC),(HS.sub h0 (a02 _ _)),hF,(agC V (agC V agN)),(by exact immT M),(by first|assumption|omega|(simp at *;omega)),n_,t_,n_,(by first|assumption|omega|(simp at *;omega))⟩
  try simp only[BS]at d2
  exact aw _ _ ⟨0,([]:List Int),(⟨av.n⟩:DigT),none,0,_,fR,U,(SR.nil:SR g4 (sL none 0 0) ([]:List Int)),(agC V (agC V agN)),(by exact immT M),(by first|assumption|omega|(simp at *;omega)),n_,t_,n_,(by first|assumption|omega|(simp at *;omega))⟩
 skip;rintro od nR ⟨jq,ai,f6,a_,ad,nq,hv,hM,bb,fd,hjq,rjq,g6,f0,hck,nh⟩;refine ap _ fd (fun _=>?_);clear fd;refine aj 3 V ?_;refine sgr 1 119 119 [] [] (Hr_ 0 4 (Hr_ 1 1 Hn_)) hM V V fun mW n7 f4=>?_
 refine am ⟨.inr V,_,(rC V (ldVN V V (h_ f4 V) V) rN),(⟨(⟨A,ja,jb,jc,jq⟩:InsT),ai⟩:VInT),a_,ad,_,(fT (fT (fT (fT (fT (fT (b4) b5) ea) em) et) ez) hv),(HS.forget f4),V,M,M,M,M,M,bb,(by exact vin_mk ho.2 g6.1 g6.2 f0 hja hjb hjc hjq),(by exact decide_eq_true hck)⟩
end Go.Proofs.YtgdggmlghemecaaDoor.m4
