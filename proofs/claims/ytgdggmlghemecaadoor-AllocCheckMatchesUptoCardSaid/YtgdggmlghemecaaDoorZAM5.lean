/-
The generator of virtual code, whole: what it makes is valid. No condition but that the table lies as laid.
-/
import Derived.Test.YtgdggmlghemecaaDoorZAM4
noncomputable section
namespace Go.Proofs.YtgdggmlghemecaaDoor.m5
open Go.R
set_option maxRecDepth 10000
set_option linter.unusedVariables false
set_option linter.unusedSimpArgs false
variable (ex:FuncId) {F:Fz} {H:Heap} {R:List Fp}
open m1 m2 m3 m4
theorem vin_ldi{params regs r op:Int}(z:0<=r/\r<regs)(A:op=13\/op=38/\r<params):fO params regs ⟨⟨op,r,0,0,r⟩,[]⟩=true:=by
 rcases A with rfl|⟨rfl,hp⟩
 ·exact vin_mk e_ (.inr V) u_ V (i7 e_ z) (gD e_ V) (gD e_ V) V
 exact vin_mk e_ (.inr V) u_ V (i7 e_ z) (gD e_ V) (gD e_ V) (decide_eq_true ⟨z.1,hp⟩)
theorem eT{α:Type}{p:α->Bool}{l:List α}{x:α}(h:l.all p=true)(z:p x=true):(l++[x]).all p=true:=by rw[a2g,h];simp[z]
theorem blk_mk{params regs nb e g t f:Int}{l:List VInT}(h:l.all (fO params regs)=true)(A:e=1/\0<=t/\t<nb/\f=0/\g=0\/e=2/\0<=t/\t<nb/\0<=f/\f<nb/\0<=g/\g<regs\/e=3/\0<=g/\g<regs/\t=0/\f=0\/e=4/\1<=t/\t<33554432/\f=0/\g=0):blkV params regs nb ⟨l,e,g,t,f⟩=true:=iV h (cd.2 A)
theorem ins_snoc{l:List BlkT}{x:BlkT}(h: ∀y∈l,y.ins.length<=11)(A:x.ins.length<=11): ∀y∈l++[x],y.ins.length<=11:=fun y z=>by
 rcases a08.1 z with z|z
 ·exact h y z
 rw[a0f]at z;rw[z];exact A
theorem ins_at{l:List BlkT}(h: ∀y∈l,y.ins.length<=11)(j:Nat):(l.getD j default).ins.length<=11:=by
 rw[a03];rcases z:l[j]? with _|y
 ·exact a0I _
 exact h y (a0n z)
def fstOK(z:List VInT):Prop:= ∀q:Nat,q<z.length->(z.getD q default).i.a=q/\((z.getD q default).i.op=13\/(z.getD q default).i.op=38)
theorem fst_snoc{z:List VInT}{x:VInT}(h:fstOK z)(N:x.i.a=(z.length:Int)/\(x.i.op=13\/x.i.op=38)):fstOK (z++[x]):=fun q E=>by
 rw[a04]at E;simp only[a0a,a0g]at E;rcases a0j q z.length with A|A
 ·rw[a03,a0S A,←a03];exact h q A
 have:q=z.length:=M
 subst this;rw[a03,a11 (a0b _),a1L];exact N
theorem first_snoc{l:List BlkT}{x y:BlkT}(h:l.getD 0 default=x)(z:0<l.length):(l++[y]).getD 0 default=x:=by rw[a03,a0S z,←a03];exact h
theorem ck_ldi{v:VInT}(z:v.i.op=13\/v.i.op=38):ckI v=true:=decide_eq_true ⟨fun h=>by omega,fun h=>by omega⟩
structure vfG(x:VFnT)(params:Int):Prop where
 val:bT x=true
 par:x.params=params
 reg:x.regs=9+params
 nb:2<=x.blocks.length/\x.blocks.length<=7
 ins: ∀j,(x.blocks.getD j default).ins.length<=11
 ck:x.blocks.all (fun y=>y.ins.all ckI)=true
 fst: ∃fi,x.blocks.getD 0 default=⟨fi,1,0,1,0⟩/\(fi.length:Int)=x.regs/\fstOK fi
theorem val_mk{p r:Int}{l:List BlkT}{n:Int}(h:0<=p/\p<=6/\0<=r/\r<=3000/\1<=l.length/\l.length<=1000)(z:(l.length:Int)=n)(A:l.all (blkV p r n)=true):bT ⟨p,r,l⟩=true:=by subst z;exact(val_yes (c:=⟨p,r,l⟩) h A).symm
set_option maxHeartbeats 2000000 in
theorem vf_c{a0:Option Addr}{b0:Nat}(l:List Int)(params:Int)(hs:HS (.of H []) F H [] R)(hl:SR F (sL a0 l.length b0) l)(z:TB 37 tabC F)(hp:0<=params/\params<=2)(qK:l.length<=1000):kKt ex 4 [(sL a0 l.length b0),(iI params)] H fun v H'=> ∃(x:VFnT) (dt:Option Addr) (he:Nat) (F':Fz),Fz.le F F'/\HS (.of H []) F' H' [] R/\v= .agg ⟨[iI x.params,iI x.regs,sL dt x.blocks.length he]⟩/\in64 x.params/\in64 x.regs/\SR F' (sL dt x.blocks.length he) x.blocks/\(vfG x params):=by
 refine aC Tryd.func4 V V ?_;refine aj 1 V ?_;refine aa ?_;refine zn hs V fun b1 H2 m7=>?_
 refine ae 2 V ?_;refine aa ?_;refine cj 2 0 16 17 [] [(17,(aG [(iI params),(iI 9),(sL none 0 0)]))] Hn_ (by kernel_rfl) V fun _=>?_
 refine zn m7 V fun b4 H5 m8=>?_
 refine sgo 1 3 1 0 [] [] (Hr_ 3 1 Hn_) m8 V V fun pe H6 m9=>?_
 refine ae 2 V ?_;refine wR 3 [] 18 22 [6] [(6,(iI (1+(if(5:Int)<((l.length/6:Nat):Int) then(5:Int) else((l.length/6:Nat):Int)))))] (vA (vA (show(6:Int)≠0 from by decide) (vi (n:=((l.length/6:Nat):Int)) M)) (vA (vi (n:=1+(if(5:Int)<((l.length/6:Nat):Int) then(5:Int) else((l.length/6:Nat):Int))) M) trivial)) V fun _=>?_
 have hM:1<=(1+(if(5:Int)<((l.length/6:Nat):Int) then(5:Int) else((l.length/6:Nat):Int)))/\(1+(if(5:Int)<((l.length/6:Nat):Int) then(5:Int) else((l.length/6:Nat):Int)))<=6:=M
 refine wT 2 [] 1 0 [7] [(7,(iI 0))] V fun _=>?_
 let a3:Fp:=(fP b1 [(iI 0),(iI 0),(sL none 0 0)])
 refine ah (fun(mm:Nat) f H'=> ∃(i:Nat) (F':Fz),Fz.le F F'/\HS (Base.of H []) F' H' [a3,(fP b4 [(iI params),(iI (9+(i:Int))),(sL none 0 0)])] R/\aA f [(0,(sL a0 l.length b0)),(1,(iI params)),(4,(pT b1 0)),(5,(pT b4 0)),(6,(iI (1+(if(5:Int)<((l.length/6:Nat):Int) then(5:Int) else((l.length/6:Nat):Int))))),(7,(iI (i:Int)))]/\mm=(params-(i:Int)).toNat/\((i:Int)<=params)) _ ⟨0,_,fR,m9,(agC V (agC V (agC V (agC V (agC V (agC V agN)))))),V,(by first|assumption|omega|(simp at *;omega))⟩ ?_;rintro pu f9 H9 ⟨i,F9,c3,hF,hE,rfl,q1⟩ ne;refine ap _ hE (fun _=>?_);clear hE;replace z:=z.mono c3;replace hl:=hl.mono c3;refine aj 2 V ?_;refine wT 1 [] 23 25 [] [(25,(.bool (decide ((i:Int)<params))))] V fun _=>?_
 refine az 3 5 (v:=(decide ((i:Int)<params))) V V V V (fun dv=>?_) (fun dv=>?_)
 ·try simp only[BS]at dv
  refine sgr 2 28 31 [] [] (Hr_ 1 1 (Ha_ (vi (n:=(9+(i:Int))+1) M) (Hr_ 4 1 Hn_))) hF V V fun nY ox it=>?_
  refine wU 1 [] 26 27 [7] [(7,(iI ((i:Int)+1)))] (vi (n:=(i:Int)+1) M) V fun _=>?_
  refine ne _ _ _ ?_ ⟨i+1,_,(c3),it,(agC V (agC V (agC V (agC V (agC V (agC V agN)))))),V,(by first|assumption|omega|(simp at *;omega))⟩;omega
 try simp only[BS]at dv
 refine aa ?_;refine zn hF V fun b2 oy iv=>?_
 refine ae 3 V ?_;refine wT 2 [] 1 0 [9] [(9,(iI 0))] V fun _=>?_
 have iz:=HS.snoc iv;let hR:Fp:=(fP b4 [(iI params),(iI (9+(i:Int))),(sL none 0 0)])
 refine ah (fun(mm:Nat) f H'=> ∃(fi:List VInT) (r:Nat) (av:Fp) (N:Option Addr) (U:Nat) (F':Fz),Fz.le F9 F'/\HS (Base.of H []) F' H' [a3,hR,(fP b2 [(sL N fi.length U),(iI 0),(iI 0),(iI 0),(iI 0)]),av] R/\OS F' (sL N fi.length U) fi av/\aA f [(0,(sL a0 l.length b0)),(1,(iI params)),(4,(pT b1 0)),(5,(pT b4 0)),(6,(iI (1+(if(5:Int)<((l.length/6:Nat):Int) then(5:Int) else((l.length/6:Nat):Int))))),(8,(pT b2 0)),(9,(iI (r:Int)))]/\mm=(9+(i:Int)-(r:Int)).toNat/\(fi.length=r)/\(fi.all (fO params (9+(i:Int)))=true)/\(fi.all ckI=true)/\(fstOK fi)/\((r:Int)<=9+(i:Int))) _ ⟨([]:List VInT),0,[],none,0,_,fR,iz,(OS.nil:OS _ (sL none 0 0) ([]:List VInT) []),(agC V (agC V (agC V (agC V (agC V (agC V (agC V agN))))))),V,s_,s_,s_,(by intro q hq;cases hq),(by first|assumption|omega|(simp at *;omega))⟩ ?_;rintro od o5 oz ⟨fi,r,av,N,U,la,a7,b8,ar,f2,rfl,w1,w2,w4,w5,w3⟩ kx;refine ap _ f2 (fun _=>?_);clear f2;replace z:=z.mono a7;replace hl:=hl.mono a7;refine aj 2 V ?_;refine bF 1 32 35 [] [(35,(.bool (decide ((r:Int)<9+(i:Int)))))] (Hr_ 2 1 Hn_) b8 V V fun _=>?_
 refine az 4 5 (v:=(decide ((r:Int)<9+(i:Int)))) V V V V (fun d1=>?_) (fun d1=>?_)
 ·try simp only[BS]at d1
  refine aa ?_;refine cj 3 0 38 40 [] [(40,(aG [(iI 13),(iI (r:Int)),(iI 0),(iI 0),(iI (r:Int))]))] Hn_ (by kernel_rfl) V fun _=>?_
  refine zn b8 V fun hC oA i2=>?_
  refine sgo 1 4 1 0 [] [] (Hr_ 4 4 Hn_) i2 V V fun nZ oB f8=>?_
  refine ae 3 V ?_;refine wT 1 [] 41 43 [] [(43,(.bool (decide ((r:Int)<params))))] V fun _=>?_
  refine bH (fun f H'=> ∃(vo:Int) (F':Fz),Fz.le la F'/\HS (Base.of H []) F' H' [a3,hR,(fP b2 [(sL N fi.length U),(iI 0),(iI 0),(iI 0),(iI 0)]),av,(fP hC [(iI vo),(iI (r:Int)),(iI 0),(iI 0),(iI (r:Int))])] R/\aA f [(0,(sL a0 l.length b0)),(1,(iI params)),(4,(pT b1 0)),(5,(pT b4 0)),(6,(iI (1+(if(5:Int)<((l.length/6:Nat):Int) then(5:Int) else((l.length/6:Nat):Int))))),(8,(pT b2 0)),(9,(iI (r:Int))),(10,(pT hC 0))]/\(vo=13\/vo=38/\(r:Int)<params)) (fun g9=>?_) ?_
  ·refine az 0 0 (v:=(decide ((r:Int)<params))) V V V V (fun d2=>?_) (fun d2=>?_)
   ·try simp only[BS]at d2
    refine sgr 0 44 46 [] [] (Hr_ 3 4 Hn_) f8 V V fun n1 oD i3=>?_
    exact g9 _ _ ⟨38,_,fR,i3,(agC V (agC V (agC V (agC V (agC V (agC V (agC V (agC V agN)))))))),(by first|assumption|omega|(simp at *;omega))⟩
   try simp only[BS]at d2
   exact g9 _ _ ⟨13,_,fR,f8,(agC V (agC V (agC V (agC V (agC V (agC V (agC V (agC V agN)))))))),(by first|assumption|omega|(simp at *;omega))⟩
  skip;rintro o6 oC ⟨vo,oj,e0,go,f3,hvo⟩;refine ap _ f3 (fun _=>?_);clear f3;replace ar:=ar.mono e0;refine aj 1 V ?_;refine aa ?_;refine bn 4 0 47 50 [] [(48,(sL N fi.length U)),(50,(aG [(iI vo),(iI (r:Int)),(iI 0),(iI 0),(iI (r:Int)),(sL none 0 0)]))] (Hr_ 1 2 (Hr_ 2 4 Hn_)) go V V fun _=>?_
  refine zlo ([(⟨(⟨vo,(r:Int),0,0,(r:Int)⟩:InsT),([]:List Int)⟩:VInT)]:List VInT) go V (RL.cs ⟨none,0,V,by first|omega|(dsimp only;omega),by first|omega|(dsimp only;omega),by first|omega|(dsimp only;omega),by first|omega|(dsimp only;omega),by first|omega|(dsimp only;omega),SR.nil⟩ RL.nl) V fun o2 po pw oE h8 g0=>?_
  refine zao 3 ar g0 (OS.sv h8 g0 (i:=5) V) V V V k_ fun l1 ng nj oF h9 ja=>?_
  refine sgo 2 6 53 53 [] [] (Hr_ 7 2 Hn_) ja V V fun n2 oG jb=>?_
  refine ae 2 V ?_;refine wU 1 [] 36 37 [9] [(9,(iI ((r:Int)+1)))] (vi (n:=(r:Int)+1) M) V fun _=>?_
  refine kx _ _ _ ?_ ⟨fi++([(⟨(⟨vo,(r:Int),0,0,(r:Int)⟩:InsT),([]:List Int)⟩:VInT)]:List VInT),r+1,nj,l1,ng,_,(fT (a7) e0),(HS.sub jb (a02 _ _)),h9,(agC V (agC V (agC V (agC V (agC V (agC V (agC V agN))))))),V,m_,(by exact eT w2 (vin_ldi M M)),(by exact eT w4 (ck_ldi M)),(by exact fst_snoc w5 ⟨by rw[w1],by first|omega|(dsimp only;omega)⟩),(by first|assumption|omega|(simp at *;omega))⟩;omega
 try simp only[BS]at d1
 refine sgr 2 54 55 [] [] (Hr_ 1 2 (Hr_ 3 2 Hn_)) b8 V V fun n3 oH g2=>?_
 refine aa ?_;refine bn 3 0 56 58 [] [(57,(sL none 0 0)),(58,(aG [(sL N fi.length U),(iI 1),(iI 0),(iI 1),(iI 0)]))] (Hr_ 1 1 (Hr_ 2 2 Hn_)) g2 V V fun _=>?_
 obtain⟨dn,b5,jq,il,ob⟩:=OS.frz ar g2 (i:=3) V;refine zlo ([(⟨fi,1,0,1,0⟩:BlkT)]:List BlkT) jq V (RL.cs ⟨N,U,V,by first|omega|(dsimp only;omega),by first|omega|(dsimp only;omega),by first|omega|(dsimp only;omega),by first|omega|(dsimp only;omega),il⟩ RL.nl) V fun o3 pq c9 oI ib jw=>?_
 have g3:=HS.snoc jw;refine zao 5 (OS.nil:OS dn (sL none 0 0) ([]:List BlkT) []) g3 (OS.sv ib g3 (i:=4) V) V V V k_ fun hB hG hH oJ b7 kc=>?_
 have b7:OS dn (sL hB ([(⟨fi,1,0,1,0⟩:BlkT)]:List BlkT).length hG) ([(⟨fi,1,0,1,0⟩:BlkT)]:List BlkT) hH:=b7;refine sgo 2 5 61 61 [] [] (Hr_ 6 1 Hn_) kc V V fun n4 oK kd=>?_
 refine ae 3 V ?_;refine wT 2 [] 1 0 [11] [(11,(iI 0))] V fun _=>?_
 let dk:Fp:=(fP b2 [(sL N fi.length U),(iI 1),(iI 0),(iI 1),(iI 0)])
 refine ah (fun(mm:Nat) f H'=> ∃(bl:List BlkT) (b:Nat) (ag:Fp) (Z:Option Addr) (ad:Nat) (F':Fz),Fz.le dn F'/\HS (Base.of H []) F' H' [a3,(fP b4 [(iI params),(iI (9+(i:Int))),(sL Z bl.length ad)]),dk,[],c9,ag] R/\OS F' (sL Z bl.length ad) bl ag/\aA f [(0,(sL a0 l.length b0)),(4,(pT b1 0)),(5,(pT b4 0)),(6,(iI (1+(if(5:Int)<((l.length/6:Nat):Int) then(5:Int) else((l.length/6:Nat):Int))))),(11,(iI (b:Int)))]/\mm=((1+(if(5:Int)<((l.length/6:Nat):Int) then(5:Int) else((l.length/6:Nat):Int)))-(b:Int)).toNat/\(bl.length=b+1)/\(bl.all (blkV params (9+(i:Int)) ((1+(if(5:Int)<((l.length/6:Nat):Int) then(5:Int) else((l.length/6:Nat):Int)))+1))=true)/\(∀y∈bl,y.ins.length<=11)/\(bl.all (fun y=>y.ins.all ckI)=true)/\(bl.getD 0 default=⟨fi,1,0,1,0⟩)/\((b:Int)<=(1+(if(5:Int)<((l.length/6:Nat):Int) then(5:Int) else((l.length/6:Nat):Int))))) _ ⟨([(⟨fi,1,0,1,0⟩:BlkT)]:List BlkT),0,hH,hB,hG,_,fR,kd,b7,(agC V (agC V (agC V (agC V (agC V agN))))),V,s_,(by exact eT (l:=[]) V (blk_mk w2 M)),(by exact ins_snoc (l:=[]) u_ M),(by exact eT (l:=[]) V w4),s_,(by first|assumption|omega|(simp at *;omega))⟩ ?_;rintro oe o7 oL ⟨bl,b,ag,Z,ad,lf,a8,g4,A,f4,rfl,e1,e2,e3,e5,e6,e4⟩ ky;refine ap _ f4 (fun _=>?_);clear f4;replace z:=(z.mono b5).mono a8;replace hl:=(hl.mono b5).mono a8;refine aj 2 V ?_;refine wT 1 [] 62 64 [] [(64,(.bool (decide ((b:Int)<1+(if(5:Int)<((l.length/6:Nat):Int) then(5:Int) else((l.length/6:Nat):Int))))))] V fun _=>?_
 refine az 4 5 (v:=(decide ((b:Int)<1+(if(5:Int)<((l.length/6:Nat):Int) then(5:Int) else((l.length/6:Nat):Int))))) V V V V (fun d3=>?_) (fun d3=>?_)
 ·try simp only[BS]at d3
  refine aa ?_;refine zn g4 V fun a1 oM kg=>?_
  refine ae 3 V ?_;refine wT 2 [] 1 0 [13] [(13,(iI 0))] V fun _=>?_
  have ki:=HS.snoc kg;let hg:Fp:=(fP b4 [(iI params),(iI (9+(i:Int))),(sL Z bl.length ad)])
  refine ah (fun(mm:Nat) f H'=> ∃(xi:List VInT) (k:Nat) (al:Fp) (T:Option Addr) (a_:Nat) (F':Fz),Fz.le lf F'/\HS (Base.of H []) F' H' [a3,hg,dk,[],c9,ag,(fP a1 [(sL T xi.length a_),(iI 0),(iI 0),(iI 0),(iI 0)]),al] R/\OS F' (sL T xi.length a_) xi al/\aA f [(0,(sL a0 l.length b0)),(4,(pT b1 0)),(5,(pT b4 0)),(6,(iI (1+(if(5:Int)<((l.length/6:Nat):Int) then(5:Int) else((l.length/6:Nat):Int))))),(11,(iI (b:Int))),(12,(pT a1 0)),(13,(iI (k:Int)))]/\mm=5-k/\(xi.length=k)/\(xi.all (fO params (9+(i:Int)))=true)/\(xi.all ckI=true)/\(k<=5)) _ ⟨([]:List VInT),0,[],none,0,_,fR,ki,(OS.nil:OS _ (sL none 0 0) ([]:List VInT) []),(agC V (agC V (agC V (agC V (agC V (agC V (agC V agN))))))),V,s_,s_,s_,(by first|assumption|omega|(simp at *;omega))⟩ ?_;rintro og o8 hA ⟨xi,k,al,T,a_,ol,a2,aw,E,f5,rfl,z1,z2,z4,z3⟩ kz;refine ap _ f5 (fun _=>?_);clear f5;replace z:=z.mono a2;replace hl:=hl.mono a2;replace A:=A.mono a2;refine aj 2 V ?_;refine wR 1 [] 67 77 [] [(77,(.bool ((decide ((k:Int)<5))&&(decide ((6 *(b:Int))+(k:Int)<(l.length:Int))))))] (vA (fun(g1:(decide ((k:Int)<5))=true)=>(vi (n:=6 *(b:Int)) (by(try simp only[BS]at g1);(first|omega|(dsimp only;omega))))) (vA (fun(g1:(decide ((k:Int)<5))=true)=>(vi (n:=(6 *(b:Int))+(k:Int)) (by(try simp only[BS]at g1);(first|omega|(dsimp only;omega))))) trivial)) V fun _=>?_
  refine az 3 5 (v:=((decide ((k:Int)<5))&&(decide ((6 *(b:Int))+(k:Int)<(l.length:Int))))) V V V V (fun d4=>?_) (fun d4=>?_)
  ·try simp only[BS]at d4
   refine aF V ?_;obtain⟨nV,g7⟩:=Sv.view (SR.sv hl aw);have pc:=fI (g7 ((6 *b)+k));refine d8 10 80 89 [] [(81,(sL T xi.length a_)),(88,(iI (l.getD ((6 *b)+k) 0))),(89,(aG [(iI params),(iI (9+(i:Int))),(sL Z bl.length ad)]))] (Hr_ 1 6 (Ha_ (vi (n:=6 *(b:Int)) M) (Ha_ (vi (n:=(6 *(b:Int))+(k:Int)) M) (Ha_ (Sv.ix (j:=(6 *(b:Int))+(k:Int)) (SR.sv hl aw) M M) (Hl_ 8 (ql 3 0 (hc0 (vI (g7 ((6 *b)+k)) M)) V V) (Hr_ 9 1 Hn_)))))) aw V V fun _=>?_
   refine aN (W:=[]) (aq V V V) V V V (m4.vi_c ex (l.getD ((6 *b)+k) 0) (⟨params,9+(i:Int),bl⟩:VFnT) (HS.call aw.log0) M M M z M) (⟨.inl V,⟨.inl V,⟨.inl V,⟨.inl V,⟨.inl V,⟨.inl V,⟨.inl V,⟨.inl V,⟨.inr a0d,⟨.inr trivial,trivial⟩⟩⟩⟩⟩⟩⟩⟩⟩⟩) ?_;rintro _ l0 ⟨hQ,ds,hb,om,fd,ay,rfl,k5,k6,k7,k8,k9,dl,pg,oa⟩;refine⟨Wr.did ay.log,fun k3 hj=>?_⟩;replace ay:=HS.back aw.log0 V ay;replace ay:=HS.lg ay aw hj;generalize ({l0 with log:=k3}:Heap)=nR at ay⊢;replace E:=E.mono fd;refine zld ([hQ]:List VInT) ay V (RL.cs ⟨ds,hb,V,by first|omega|(dsimp only;omega),by first|omega|(dsimp only;omega),by first|omega|(dsimp only;omega),by first|omega|(dsimp only;omega),by first|omega|(dsimp only;omega),dl⟩ RL.nl) V fun o4 pr px nS ih g5=>?_
   refine zad 7 E g5 (OS.sv ih g5 (i:=8) V) V V V k_ (⟨.inl V,⟨.inl V,⟨.inl V,⟨.inl V,⟨.inl V,⟨.inl V,⟨.inl V,⟨.inl V,⟨.inl V,⟨.inl V,⟨.inl V,⟨.inl V,trivial⟩⟩⟩⟩⟩⟩⟩⟩⟩⟩⟩⟩) fun l2 nh nk nT ik kk=>?_
   refine sdo 2 93 93 [] [] (Hr_ 14 6 Hn_) kk V V fun n5 oN kl=>?_
   refine bB 2 V ?_;refine wU 1 [] 78 79 [13] [(13,(iI ((k:Int)+1)))] (vi (n:=(k:Int)+1) M) V fun _=>?_
   refine kz _ _ _ ?_ ⟨xi++([hQ]:List VInT),k+1,nk,l2,nh,_,(fT (a2) fd),(HS.sub kl (a02 _ _)),ik,(agC V (agC V (agC V (agC V (agC V (agC V (agC V agN))))))),V,m_,(by exact eT z2 X),(by exact eT z4 X),(by first|assumption|omega|(simp at *;omega))⟩;omega
  try simp only[BS]at d4
  refine wT 3 [] 1 0 [14] [(14,(iI 0))] V fun _=>?_
  refine wR 1 [] 94 99 [] [(99,(.bool (decide ((6 *(b:Int))+5<(l.length:Int)))))] (vA (vi (n:=6 *(b:Int)) M) (vA (vi (n:=(6 *(b:Int))+5) M) trivial)) V fun _=>?_
  refine bH (fun f H'=> ∃(nn:Int),H'=hA/\aA f [(0,(sL a0 l.length b0)),(4,(pT b1 0)),(5,(pT b4 0)),(6,(iI (1+(if(5:Int)<((l.length/6:Nat):Int) then(5:Int) else((l.length/6:Nat):Int))))),(11,(iI (b:Int))),(12,(pT a1 0)),(14,(iI nn))]/\(in64 nn)) (fun ha=>?_) ?_
  ·refine az 0 0 (v:=(decide ((6 *(b:Int))+5<(l.length:Int)))) V V V V (fun ea=>?_) (fun ea=>?_)
   ·try simp only[BS]at ea
    obtain⟨nW,g8⟩:=Sv.view (SR.sv hl aw);have pd:=fI (g8 ((6 *b)+5));refine wrp 0 100 105 [14] [(14,(iI (l.getD ((6 *b)+5) 0)))] (Ha_ (vi (n:=6 *(b:Int)) M) (Ha_ (vi (n:=(6 *(b:Int))+5) M) (Ha_ (Sv.ix (j:=(6 *(b:Int))+5) (SR.sv hl aw) M M) (Hl_ 5 (ql 3 0 (vI (g8 ((6 *b)+5)) M) V V) Hn_)))) (by kernel_rfl) V fun _=>?_
    exact ha _ _ ⟨(l.getD ((6 *b)+5) 0),V,(agC V (agC V (agC V (agC V (agC V (agC V (agC V agN))))))),(by first|assumption|omega|(simp at *;omega))⟩
   try simp only[BS]at ea
   exact ha _ _ ⟨0,V,(agC V (agC V (agC V (agC V (agC V (agC V (agC V agN))))))),(by first|assumption|omega|(simp at *;omega))⟩
  skip;rintro o9 hA ⟨nn,rfl,f6,hnn⟩;refine ap _ f6 (fun _=>?_);clear f6;refine aj 2 V ?_;refine aa ?_;refine wTo 2 0 [] 106 107 [] [(107,(aG [(iI nn)]))] V fun _=>?_
  refine aV (aO aw V V) V V ?_;rintro _ oO _ ⟨ax,rfl,g6,_⟩;refine wa (pT ax 0) V V V ?_;refine ae 3 V ?_;refine aa ?_;refine wm (pT ax 0) V V V ?_;refine aH (aq V V V) V V (m4.dL ex (⟨nn⟩:DigT) (6) (HS.callOwn g6 (i:=8) V) M M z M) ?_;rintro _ oP ⟨a4,a5,ll,a9,an,rfl,mx,ph⟩;replace an:=g6.bO an;replace z:=z.mono a9;replace A:=A.mono a9;replace E:=E.mono a9;refine ae 3 V ?_;refine wT 1 [] 127 128 [] [(127,(.bool (a4==0)))] V fun _=>?_
  refine bH (fun f H'=> ∃(xe:Int) (xg:Int) (xt:Int) (xf:Int) (dd:DigT) (F':Fz),Fz.le ll F'/\HS (Base.of H []) F' H' [a3,hg,dk,[],c9,ag,(fP a1 [(sL T xi.length a_),(iI xe),(iI xg),(iI xt),(iI xf)]),al,(fP ax [(iI dd.n)])] R/\aA f [(0,(sL a0 l.length b0)),(4,(pT b1 0)),(5,(pT b4 0)),(6,(iI (1+(if(5:Int)<((l.length/6:Nat):Int) then(5:Int) else((l.length/6:Nat):Int))))),(11,(iI (b:Int))),(12,(pT a1 0))]/\((xe=1/\0<=xt/\xt<((1+(if(5:Int)<((l.length/6:Nat):Int) then(5:Int) else((l.length/6:Nat):Int))))+1/\xf=0/\xg=0\/xe=2/\0<=xt/\xt<((1+(if(5:Int)<((l.length/6:Nat):Int) then(5:Int) else((l.length/6:Nat):Int))))+1/\0<=xf/\xf<((1+(if(5:Int)<((l.length/6:Nat):Int) then(5:Int) else((l.length/6:Nat):Int))))+1/\0<=xg/\xg<9+(i:Int)\/xe=3/\0<=xg/\xg<9+(i:Int)/\xt=0/\xf=0\/xe=4/\1<=xt/\xt<33554432/\xf=0/\xg=0))/\(in64 dd.n)) (fun bz=>?_) ?_
  ·refine az 0 1 (v:=(a4==0)) V V V V (fun em=>?_) (fun em=>?_)
   ·try simp only[BS]at em
    refine aa ?_;refine cj 2 0 129 130 [] [(129,(pT ax 0)),(130,(iI (1+(if(5:Int)<((l.length/6:Nat):Int) then(5:Int) else((l.length/6:Nat):Int)))))] Hn_ (by kernel_rfl) V fun _=>?_
    refine aH (aq V V V) V V (m4.dL ex (⟨a5.n⟩:DigT) (1+(if(5:Int)<((l.length/6:Nat):Int) then(5:Int) else((l.length/6:Nat):Int))) (HS.callOwn an (i:=8) V) M M z M) ?_;rintro _ oR ⟨hI,hV,oo,h4,cc,rfl,mI,pi⟩;replace cc:=an.bO cc;refine sgo 5 3 132 134 [] [] (Ha_ (vi (n:=1+hI) M) (Hr_ 5 6 (Hr_ 7 6 Hn_))) cc V V fun n6 oT kn=>?_
    refine ae 0 V ?_;exact bz _ _ ⟨1,0,1+hI,0,(⟨hV.n⟩:DigT),_,(h4),kn,(agC V (agC V (agC V (agC V (agC V (agC V agN)))))),(by first|assumption|omega|(simp at *;omega)),(by first|assumption|omega|(simp at *;omega))⟩
   try simp only[BS]at em
   refine wT 1 [] 135 136 [] [(135,(.bool (a4==1)))] V fun _=>?_
   refine az 0 1 (v:=(a4==1)) V V V V (fun et=>?_) (fun et=>?_)
   ·try simp only[BS]at et
    refine aa ?_;refine wm (pT ax 0) V V V ?_;refine aH (aq V V V) V V (m4.dL ex (⟨a5.n⟩:DigT) (9) (HS.callOwn an (i:=8) V) M M z M) ?_;rintro _ oU ⟨hJ,hW,oq,h5,ch,rfl,mW,pj⟩;replace ch:=an.bO ch;refine sgo 5 2 139 141 [] [] (Ha_ (vi (n:=1+hJ) M) (Hr_ 4 6 (Hr_ 6 6 Hn_))) ch V V fun n7 oV ko=>?_
    refine ae 0 V ?_;exact bz _ _ ⟨4,0,1+hJ,0,(⟨hW.n⟩:DigT),_,(h5),ko,(agC V (agC V (agC V (agC V (agC V (agC V agN)))))),(by first|assumption|omega|(simp at *;omega)),(by first|assumption|omega|(simp at *;omega))⟩
   try simp only[BS]at et
   refine wT 1 [] 142 143 [] [(142,(.bool (a4==2)))] V fun _=>?_
   refine az 0 0 (v:=(a4==2)) V V V V (fun ez=>?_) (fun ez=>?_)
   ·try simp only[BS]at ez
    refine aa ?_;refine bn 3 0 144 146 [] [(144,(pT ax 0)),(146,(iI (9+(i:Int))))] (Hr_ 2 1 Hn_) an V V fun _=>?_
    refine aH (aq V V V) V V (m4.dL ex (⟨a5.n⟩:DigT) (9+(i:Int)) (HS.callOwn an (i:=8) V) M M z M) ?_;rintro _ oW ⟨nm,hX,ot,h6,ci,rfl,mX,pk⟩;replace ci:=an.bO ci;refine sgo 4 4 148 149 [] [] (Hr_ 5 6 (Hr_ 7 6 Hn_)) ci V V fun n8 oX kr=>?_
    refine ae 0 V ?_;exact bz _ _ ⟨3,nm,0,0,(⟨hX.n⟩:DigT),_,(h6),kr,(agC V (agC V (agC V (agC V (agC V (agC V agN)))))),(by first|assumption|omega|(simp at *;omega)),(by first|assumption|omega|(simp at *;omega))⟩
   try simp only[BS]at ez
   refine aa ?_;refine bn 3 0 111 113 [] [(111,(pT ax 0)),(113,(iI (9+(i:Int))))] (Hr_ 2 1 Hn_) an V V fun _=>?_
   refine aH (aq V V V) V V (m4.dL ex (⟨a5.n⟩:DigT) (9+(i:Int)) (HS.callOwn an (i:=8) V) M M z M) ?_;rintro _ oY ⟨np,h0,ou,f0,bb,rfl,mY,pl⟩;replace bb:=an.bO bb;replace z:=z.mono f0;refine cj 2 4 115 116 [] [(115,(pT ax 0)),(116,(iI (1+(if(5:Int)<((l.length/6:Nat):Int) then(5:Int) else((l.length/6:Nat):Int)))))] Hn_ (by kernel_rfl) V fun _=>?_
   refine aH (aq V V V) V V (m4.dL ex (⟨h0.n⟩:DigT) (1+(if(5:Int)<((l.length/6:Nat):Int) then(5:Int) else((l.length/6:Nat):Int))) (HS.callOwn bb (i:=8) V) M M z M) ?_;rintro _ oZ ⟨hf,h1,ov,f1,bk,rfl,mZ,pm⟩;replace bk:=bb.bO bk;replace z:=z.mono f1;refine cj 3 7 118 120 [] [(118,(iI (1+hf))),(119,(pT ax 0)),(120,(iI (1+(if(5:Int)<((l.length/6:Nat):Int) then(5:Int) else((l.length/6:Nat):Int)))))] (Ha_ (vi (n:=1+hf) M) Hn_) (by kernel_rfl) V fun _=>?_
   refine aH (aq V V V) V V (m4.dL ex (⟨h1.n⟩:DigT) (1+(if(5:Int)<((l.length/6:Nat):Int) then(5:Int) else((l.length/6:Nat):Int))) (HS.callOwn bk (i:=8) V) M M z M) ?_;rintro _ o0 ⟨hK,h2,ow,h7,co,rfl,m0,pn⟩;replace co:=bk.bO co;refine sgo 9 11 122 126 [] [] (Ha_ (vi (n:=1+hK) M) (Hr_ 13 6 (Hr_ 15 6 (Hr_ 17 6 (Hr_ 19 6 Hn_))))) co V V fun n9 o1 kt=>?_
   refine ae 0 V ?_;exact bz _ _ ⟨2,np,1+hf,1+hK,(⟨h2.n⟩:DigT),_,(fT (fT (f0) f1) h7),kt,(agC V (agC V (agC V (agC V (agC V (agC V agN)))))),(by first|assumption|omega|(simp at *;omega)),(by first|assumption|omega|(simp at *;omega))⟩
  skip;rintro pb oQ ⟨xe,xg,xt,xf,dd,lr,b6,b9,f7,hD,hdd⟩;refine ap _ f7 (fun _=>?_);clear f7;replace A:=A.mono b6;replace E:=E.mono b6;refine aj 4 V ?_;refine wrp 1 150 158 [] [(158,(.bool (((b:Int)==(1+(if(5:Int)<((l.length/6:Nat):Int) then(5:Int) else((l.length/6:Nat):Int)))-1)&&(xe==1))))] (Ha_ (vi (n:=(1+(if(5:Int)<((l.length/6:Nat):Int) then(5:Int) else((l.length/6:Nat):Int)))-1) M) (bt 6 (fun _=>(ql 3 1 (HS.hc b9 (i:=6) V) V V)) Hn_)) V V fun _=>?_
  refine bH (fun f H'=> ∃(ye:Int) (yg:Int) (yt:Int) (F':Fz),Fz.le lr F'/\HS (Base.of H []) F' H' [a3,hg,dk,[],c9,ag,(fP a1 [(sL T xi.length a_),(iI ye),(iI yg),(iI yt),(iI xf)]),al,(fP ax [(iI dd.n)])] R/\aA f [(0,(sL a0 l.length b0)),(4,(pT b1 0)),(5,(pT b4 0)),(6,(iI (1+(if(5:Int)<((l.length/6:Nat):Int) then(5:Int) else((l.length/6:Nat):Int))))),(11,(iI (b:Int))),(12,(pT a1 0))]/\((ye=1/\0<=yt/\yt<((1+(if(5:Int)<((l.length/6:Nat):Int) then(5:Int) else((l.length/6:Nat):Int))))+1/\xf=0/\yg=0\/ye=2/\0<=yt/\yt<((1+(if(5:Int)<((l.length/6:Nat):Int) then(5:Int) else((l.length/6:Nat):Int))))+1/\0<=xf/\xf<((1+(if(5:Int)<((l.length/6:Nat):Int) then(5:Int) else((l.length/6:Nat):Int))))+1/\0<=yg/\yg<9+(i:Int)\/ye=3/\0<=yg/\yg<9+(i:Int)/\yt=0/\xf=0\/ye=4/\1<=yt/\yt<33554432/\xf=0/\yg=0))) (fun c8=>?_) ?_
  ·refine az 0 0 (v:=(((b:Int)==(1+(if(5:Int)<((l.length/6:Nat):Int) then(5:Int) else((l.length/6:Nat):Int)))-1)&&(xe==1))) V V V V (fun b3=>?_) (fun b3=>?_)
   ·try simp only[BS]at b3
    refine sgr 0 159 161 [] [] (Hr_ 1 6 (Hr_ 3 6 (Hr_ 5 6 Hn_))) b9 V V fun nC nM ht=>?_
    exact c8 _ _ ⟨3,0,0,_,fR,ht,(agC V (agC V (agC V (agC V (agC V (agC V agN)))))),(by first|assumption|omega|(simp at *;omega))⟩
   try simp only[BS]at b3
   exact c8 _ _ ⟨xe,xg,xt,_,fR,b9,(agC V (agC V (agC V (agC V (agC V (agC V agN)))))),(by first|assumption|omega|(simp at *;omega))⟩
  skip;rintro nX nL ⟨ye,yg,yt,nH,a6,c5,c4,hY⟩;refine ap _ c4 (fun _=>?_);clear c4;replace E:=E.mono a6;refine aj 1 V ?_;refine aa ?_;refine bn 3 0 162 164 [] [(163,(sL Z bl.length ad)),(164,(aG [(sL T xi.length a_),(iI ye),(iI yg),(iI yt),(iI xf)]))] (Hr_ 1 1 (Hr_ 2 6 Hn_)) c5 V V fun _=>?_
  obtain⟨nI,c0,hu,hn,nF⟩:=OS.frz E c5 (i:=7) V;replace A:=(A.mono a6).mono c0;refine zlo ([(⟨xi,ye,yg,yt,xf⟩:BlkT)]:List BlkT) hu V (RL.cs ⟨T,a_,V,by first|omega|(dsimp only;omega),by first|omega|(dsimp only;omega),by first|omega|(dsimp only;omega),by first|omega|(dsimp only;omega),hn⟩ RL.nl) V fun nU oc oh nN hk c6=>?_
  refine zao 5 A c6 (OS.sv hk c6 (i:=9) V) V V V k_ fun hS k0 k4 nO hm hv=>?_
  refine sgo 2 5 167 167 [] [] (Hr_ 6 1 Hn_) hv V V fun nD nP hw=>?_
  refine ae 2 V ?_;refine wU 1 [] 65 66 [11] [(11,(iI ((b:Int)+1)))] (vi (n:=(b:Int)+1) M) V fun _=>?_
  refine ky _ _ _ ?_ ⟨bl++([(⟨xi,ye,yg,yt,xf⟩:BlkT)]:List BlkT),b+1,k4,hS,k0,_,(fT (fT (fT (fT (fT (a8) a2) a9) b6) a6) c0),(HS.sub hw (a02 _ _)),hm,(agC V (agC V (agC V (agC V (agC V agN))))),V,m_,(by exact eT e2 (blk_mk z2 M)),(by exact ins_snoc e3 M),(by exact eT e5 z4),(by exact first_snoc e6 M),(by first|assumption|omega|(simp at *;omega))⟩;omega
 try simp only[BS]at d3
 refine sgr 1 168 168 [] [] (Hr_ 0 1 (Hr_ 1 0 Hn_)) g4 V V fun nE nQ c7=>?_
 obtain⟨nJ,hh,hz,hr,nG⟩:=OS.frz A c7 (i:=5) V;refine am ⟨.inr V,_,(rC V (ldVN V V (g_ c7 V) V) rN),(⟨params,9+(i:Int),bl⟩:VFnT),Z,ad,_,(fT (fT (fT (fT (c3) a7) b5) a8) hh),(HS.forget hz),V,M,M,hr,(by exact⟨val_mk M M e2,V,by first|omega|(dsimp only;omega),⟨by first|omega|(dsimp only;omega),by first|omega|(dsimp only;omega)⟩,ins_at e3,e5,fi,e6,by first|omega|(dsimp only;omega),w5⟩)⟩
end Go.Proofs.YtgdggmlghemecaaDoor.m5
