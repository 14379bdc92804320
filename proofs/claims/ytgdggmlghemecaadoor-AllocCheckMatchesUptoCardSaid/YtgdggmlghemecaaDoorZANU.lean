/-
The generator that changes one detail of an allocation: what it makes is of bounded size; by a symbolic run. No condition but bounds on lengths.
-/
import Derived.Test.YtgdggmlghemecaaDoorZANV
noncomputable section
namespace Go.Proofs.YtgdggmlghemecaaDoor.nu
open Go.R
set_option maxRecDepth 10000
set_option linter.unusedVariables false
set_option linter.unusedSimpArgs false
variable (ex:FuncId) {F:Fz} {H:Heap} {R:List Fp}
open m1 m2 m3 m4 m5 m6 ma ml mb mc md mf mg mh mi mj na nb nc ni nv
def LoB(n:Nat)(l:List SpiT):Prop:= ∀s∈l,s.oth.length<=n
theorem LoB.at{n:Nat}{l:List SpiT}(h:LoB n l)(j:Nat):(l.getD j default).oth.length<=n:=by
 rw[a03];rcases e:l[j]? with _|x
 ·exact a0I _
 exact h x (a0n e)
theorem LoB.snoc{n:Nat}{l:List SpiT}{x:SpiT}(h:LoB n l)(z:x.oth.length<=n):LoB n (l++[x]):=fun s hs=>by
 rw[a08,a0f]at hs;rcases hs with hs|rfl
 ·exact h s hs
 exact z
theorem LoB.set{n:Nat}{l:List SpiT}{x:SpiT}{i:Nat}(h:LoB n l)(z:x.oth.length<=n):LoB n (l.set i x):=fun s hs=>(List.mem_or_eq_of_mem_set hs).elim (h s) fun e=>e▸z
theorem LoB.up{n m:Nat}{l:List SpiT}(h:LoB n l)(z:n<=m):LoB m l:=fun s hs=>a0e (h s hs) z
theorem LoB.nil{n:Nat}:LoB n []:=fun _ h=>(by cases h)
structure AlB(n:Nat)(a:AllT):Prop where
 l:a.locs.length<=100000
 s:a.spi.length<=n
 o:LoB n a.spi
structure AlC(a m:AllT):Prop where
 l:m.locs.length<=a.locs.length
 s:m.spi.length<=a.spi.length+1
 o: ∀n,LoB n a.spi->LoB (n+1) m.spi
theorem AlC.b{n:Nat}{a m:AllT}(h:AlC a m)(z:AlB n a):AlB (n+1) m:=⟨a0e h.l z.l,a0e h.s (a1l z.s),h.o n z.o⟩
theorem AlB.up{n m:Nat}{a:AllT}(h:AlB n a)(z:n<=m):AlB m a:=⟨h.l,a0e h.s z,h.o.up z⟩
set_option maxHeartbeats 4000000 in
theorem muta_c{d3:Option Addr}{e3:Nat}{d2:Option Addr}{e2:Nat}(a:AllT)(ao:Int)(ai:Int)(av:Int)(hs:HS (.of H []) F H [] R)(kr:SR F (sL d2 a.locs.length e2) a.locs)(kt:SR F (sL d3 a.spi.length e3) a.spi)(oD:in64 a.slots)(qE:in64 ao)(qC:in64 ai)(qD:in64 av)(hT:TB 37 tabC F)(hb:AlB 1000000 a):kKt ex 7 [(aG [(sL d2 a.locs.length e2),(sL d3 a.spi.length e3),(iI a.slots)]),(iI ao),(iI ai),(iI av)] H fun v H'=> ∃(m:AllT) (go:Option Addr) (h1:Nat) (g4:Option Addr) (h2:Nat) (F':Fz),Fz.le F F'/\HS (.of H []) F' H' [] R/\v= .agg ⟨[sL go m.locs.length h1,sL g4 m.spi.length h2,iI m.slots]⟩/\in64 m.slots/\SR F' (sL go m.locs.length h1) m.locs/\SR F' (sL g4 m.spi.length h2) m.spi/\(AlC a m):=by
 have rq:=hb.l;have rr:=hb.s;have pt:=hb.o;have rt:=pt.at;have rv:=cm ao 12 M;have ru:=cm av 16 M;have pj:=cm av 3 M;refine aC Tryd.func7 V V ?_;refine aj 1 V ?_;refine aa ?_;refine aV (aO hs V V) V V ?_;rintro _ H2 _ ⟨b1,rfl,nC,_⟩;refine zn nC V fun b3 H4 kc=>?_
 refine ae 2 V ?_;refine aa ?_;refine bn 2 0 13 14 [] [(14,(sL d2 a.locs.length e2))] (Hr_ 1 0 Hn_) kc V V fun _=>?_
 have kd:=HS.snoc kc;refine zao 2 (OS.nil:OS F (sL none 0 0) ([]:List LocT) []) kd (SR.sv kr kd) V V V k_ fun a7 k7 p7 H8 ad nD=>?_
 have ad:OS F (sL a7 a.locs.length k7) a.locs p7:=ad;refine sgo 2 3 16 16 [] [] (Hr_ 4 0 Hn_) nD V V fun pi H9 kg=>?_
 refine ae 2 V ?_;refine aa ?_;refine bn 2 0 17 18 [] [(18,(sL d3 a.spi.length e3))] (Hr_ 1 0 Hn_) kg V V fun _=>?_
 have hG:=HS.snoc kg;refine zao 3 (OS.nil:OS F (sL none 0 0) ([]:List SpiT) []) hG (SR.sv kt hG) V V V k_ fun ci c0 f6 oP ax k6=>?_
 have ax:OS F (sL ci a.spi.length c0) a.spi f6:=ax;refine sgo 2 3 20 20 [] [] (Hr_ 4 0 Hn_) k6 V V fun ol dn al=>?_
 refine ae 2 V ?_;have oe:=cm av (16:Int);refine wR 3 [(1,.o (iI (au av (16:Int))))] 21 23 [9] [(9,(iI ((au av (16:Int))-2)))] (vA (m1.cw ex av (16) dn M) (vA (vi (n:=(au av (16:Int))-2) M) trivial)) V fun _=>?_
 have og:=cm ao (12:Int);refine bF 1 24 32 [] [(32,(.bool ((decide ((0:Int)<(a.locs.length:Int)))&&(decide (au ao (12:Int)<3)))))] (Hr_ 1 0 (Hc1_ 6 (fun g1=>(m1.cw ex ao (12) dn (by(try simp only[BS]at g1);(first|(dsimp only;omega)|omega)))) Hn_)) al V V fun _=>?_
 refine az 1 3 (v:=((decide ((0:Int)<(a.locs.length:Int)))&&(decide (au ao (12:Int)<3)))) V V V V (fun g5=>?_) (fun g5=>?_)
 ·try simp only[BS]at g5
  have oh:=cm ai (a.locs.length:Int);refine sdr0 3 33 40 [10] [(10,(.pointer (some ⟨sB (sL a7 a.locs.length k7),sO (sL a7 a.locs.length k7)+(au ai (a.locs.length:Int)).toNat *Rp.sz LocT,none⟩)))] (Hr_ 1 0 (Hr_ 4 0 (Hc_ 6 (m1.cw ex ai (a.locs.length:Int) {dn with log:=[]} M) (Ha_ (Sv.ix (j:=au ai (a.locs.length:Int)) (OS.sv ad al (i:=2) rfl) M M) Hn_)))) al rfl rfl rfl fun _=>?_
  refine wU 3 [(1,.o (iI (au ao (12:Int))))] 41 42 [] [(42,(iI (au ao (12:Int))))] (m1.cw ex ao (12) dn M) V fun _=>?_
  refine wT 1 [] 43 44 [] [(43,(.bool (au ao (12:Int)==0)))] V fun _=>?_
  refine bH (fun f H'=> ∃(ll:List LocT) (a0:Fp) (an:Option Addr) (ar:Nat) (F':Fz),Fz.le F F'/\HS (Base.of H []) F' H' [(fP b1 [(sL an ll.length ar),(sL ci a.spi.length c0),(iI a.slots)]),(fP b3 [(sL none 0 0),(sL none 0 0),(iI 0)]),a0,f6] R/\OS F' (sL an ll.length ar) ll a0/\aA f [(4,(pT b1 0)),(8,(pT b3 0))]/\(ll.length<=a.locs.length)) (fun dk=>?_) ?_
  ·refine az 0 1 (v:=(au ao (12:Int)==0)) V V V V (fun g6=>?_) (fun g6=>?_)
   ·try simp only[BS]at g6
    refine aa ?_;refine cj 4 0 45 48 [] [(46,(iI ((au av (16:Int))-2))),(48,(.pointer (some ⟨sB (sL a7 a.locs.length k7),sO (sL a7 a.locs.length k7)+(au ai (a.locs.length:Int)).toNat *Rp.sz LocT+1,none⟩)))] Hn_ (by kernel_rfl) V fun _=>?_
    refine d5 (cy (α:=LocT) (j:=(au ai (a.locs.length:Int)).toNat) (off:=1) (q:=2) (⟨(a.locs.getD (au ai (a.locs.length:Int)).toNat default).inS,(au av (16:Int))-2⟩:LocT) ad al V V V V V V V V (aT (x:=default) M) V (by rintro cs ⟨rfl,ki⟩;exact⟨a06 V,⟨V,by first|(dsimp only;omega)|omega⟩⟩)) V ?_;rintro _ oR nH ⟨hE,hI,_⟩;have nW:=OS.len' hE;refine ae 0 V ?_;exact dk _ _ ⟨a.locs.set (au ai (a.locs.length:Int)).toNat (⟨(a.locs.getD (au ai (a.locs.length:Int)).toNat default).inS,(au av (16:Int))-2⟩:LocT),nH,a7,k7,_,fR,(by first|(simpa only[a0c] using hI)|(simp only[a0c];exact hI)),(OS.norm hE),(agC V (agC V agN)),p_⟩
   try simp only[BS]at g6
   refine wT 1 [] 49 50 [] [(49,(.bool (au ao (12:Int)==1)))] V fun _=>?_
   refine az 0 1 (v:=(au ao (12:Int)==1)) V V V V (fun g7=>?_) (fun g7=>?_)
   ·try simp only[BS]at g7
    refine aa ?_;obtain⟨od,hW⟩:=Sv.view (OS.sv ad al (i:=2) V);have nO:=LocT.fx (hW (au ai (a.locs.length:Int)).toNat);refine cj 8 0 51 58 [] [(56,(.bool (!(a.locs.getD (au ai (a.locs.length:Int)).toNat default).inS))),(58,(.pointer (some ⟨sB (sL a7 a.locs.length k7),sO (sL a7 a.locs.length k7)+(au ai (a.locs.length:Int)).toNat *Rp.sz LocT,none⟩)))] (Hl_ 4 (ql 4 0 (LocT.vw (hW (au ai (a.locs.length:Int)).toNat) M) V V) Hn_) (by kernel_rfl) V fun _=>?_
    refine d5 (cy (α:=LocT) (j:=(au ai (a.locs.length:Int)).toNat) (off:=0) (q:=2) (⟨(!(a.locs.getD (au ai (a.locs.length:Int)).toNat default).inS),(a.locs.getD (au ai (a.locs.length:Int)).toNat default).idx⟩:LocT) ad al V V V V V V V V (aT (x:=default) M) V (by rintro cs ⟨rfl,ki⟩;exact⟨a06 V,⟨V,ki⟩⟩)) V ?_;rintro _ oT nI ⟨hF,hJ,_⟩;have nX:=OS.len' hF;refine ae 0 V ?_;exact dk _ _ ⟨a.locs.set (au ai (a.locs.length:Int)).toNat (⟨(!(a.locs.getD (au ai (a.locs.length:Int)).toNat default).inS),(a.locs.getD (au ai (a.locs.length:Int)).toNat default).idx⟩:LocT),nI,a7,k7,_,fR,(by first|(simpa only[a0c] using hJ)|(simp only[a0c];exact hJ)),(OS.norm hF),(agC V (agC V agN)),p_⟩
   try simp only[BS]at g7
   refine wT 1 [] 59 60 [] [(59,(.bool (au ao (12:Int)==2)))] V fun _=>?_
   refine az 0 0 (v:=(au ao (12:Int)==2)) V V V V (fun g8=>?_) (fun g8=>?_)
   ·try simp only[BS]at g8
    refine aa ?_;refine bn 2 0 61 62 [] [(62,(sL a7 a.locs.length k7))] (Hr_ 1 0 Hn_) al V V fun _=>?_
    refine aV (rs_cutOd (α:=LocT) (i:=1) ad al (q:=2) V V V V (optN e_) M) V V ?_;rintro _ _ _ ⟨m7,nE,rfl,c7,k3⟩;simp only at c7;replace c7:=c7.symm;subst c7;refine sgo 2 3 64 64 [] [] (Hr_ 4 0 Hn_) al V V fun om oU k9=>?_
    refine ae 0 V ?_;exact dk _ _ ⟨a.locs.drop 1,p7,m7,nE,_,fR,k9,k3,(agC V (agC V agN)),p_⟩
   try simp only[BS]at g8
   exact dk _ _ ⟨a.locs,p7,a7,k7,_,fR,al,ad,(agC V (agC V agN)),p_⟩
  skip;rintro pd oQ ⟨ll,a0,an,ar,oJ,hl,k8,dv,hv,hll⟩;refine ap _ hv (fun _=>?_);clear hv;refine aj 3 V ?_;refine sgr 1 65 65 [] [] (Hr_ 0 0 (Hr_ 1 1 Hn_)) k8 V V fun oo oV hK=>?_
  obtain⟨oK,hm,la,et,oF⟩:=OS.frz dv hK (i:=2) V;replace ax:=(ax.mono hl).mono hm;obtain⟨oL,hp,lf,k4,oG⟩:=OS.frz ax la (i:=3) V;replace et:=et.mono hp;refine am ⟨.inr V,_,(rC V (ldVN V V (h_ hK V) V) rN),(⟨ll,a.spi,a.slots⟩:AllT),an,ar,ci,c0,_,(fT (fT (hl) hm) hp),(HS.forget lf),V,M,et,k4,(by first|exact⟨by(dsimp only;omega),by(simp only[a0c];omega),fun n hn=>((hso n hn).up (a1e n)).set (hot n hn)⟩|exact⟨by(dsimp only;omega),by(dsimp only;omega),fun n hn=>(hso n hn).up (a1e n)⟩|exact⟨by(dsimp only;omega),by(simp only[a0c];omega),fun n hn=>(((hso n hn).set ((hso n hn).at _)).set ((hso n hn).at _)).up (a1e n)⟩|exact⟨by(dsimp only;omega),by(simp only[a0m];omega),fun n hn=>hn.up (a1e n)⟩)⟩
 try simp only[BS]at g5
 refine wU 1 [(1,.o (iI (au ao (12:Int))))] 66 68 [] [(68,(.bool (au ao (12:Int)==3)))] (m1.cw ex ao (12) dn M) V fun _=>?_
 let cc:Fp:=(fP b3 [(sL none 0 0),(sL none 0 0),(iI 0)])
 refine bH (fun f H'=> ∃(sn:Int) (F':Fz),Fz.le F F'/\HS (Base.of H []) F' H' [(fP b1 [(sL a7 a.locs.length k7),(sL ci a.spi.length c0),(iI sn)]),cc,p7,f6] R/\aA f [(1,(iI ao)),(2,(iI ai)),(3,(iI av)),(4,(pT b1 0)),(8,(pT b3 0)),(9,(iI ((au av (16:Int))-2)))]/\(in64 sn)) (fun hY=>?_) ?_
 ·refine az 0 0 (v:=(au ao (12:Int)==3)) V V V V (fun g9=>?_) (fun g9=>?_)
  ·try simp only[BS]at g9
   refine sgr 0 69 70 [] [] (Hr_ 2 0 Hn_) al V V fun oq oW lr=>?_
   exact hY _ _ ⟨(au av (16:Int))-2,_,fR,lr,(agC V (agC V (agC V (agC V (agC V (agC V agN)))))),(by first|assumption|omega|(simp at *;omega))⟩
  try simp only[BS]at g9
  exact hY _ _ ⟨a.slots,_,fR,al,(agC V (agC V (agC V (agC V (agC V (agC V agN)))))),(by first|assumption|omega|(simp at *;omega))⟩
 skip;rintro pe jw ⟨sn,mZ,b7,e0,hw,hsn⟩;refine ap _ hw (fun _=>?_);clear hw;replace ax:=ax.mono b7;replace ad:=ad.mono b7;refine aj 3 V ?_;refine wU 1 [(1,.o (iI (au ao (12:Int))))] 71 73 [] [(73,(.bool (au ao (12:Int)==4)))] (m1.cw ex ao (12) jw M) V fun _=>?_
 refine bH (fun f H'=> ∃(z:List SpiT) (ag:Fp) (A:Option Addr) (E:Nat) (F':Fz),Fz.le mZ F'/\HS (Base.of H []) F' H' [(fP b1 [(sL a7 a.locs.length k7),(sL A z.length E),(iI sn)]),cc,p7,ag] R/\OS F' (sL A z.length E) z ag/\aA f [(1,(iI ao)),(2,(iI ai)),(3,(iI av)),(4,(pT b1 0)),(8,(pT b3 0)),(9,(iI ((au av (16:Int))-2)))]/\(z.length<=a.spi.length+1)/\(∀n,LoB n a.spi->LoB n z)) (fun h0=>?_) ?_
 ·refine az 0 0 (v:=(au ao (12:Int)==4)) V V V V (fun ha=>?_) (fun ha=>?_)
  ·try simp only[BS]at ha
   refine aF V ?_;have oi:=cm av (3:Int);refine d8 7 74 80 [] [(75,(sL ci a.spi.length c0)),(80,(aG [(iI ((au av (16:Int))-2)),(iI (1+(au av (3:Int)))),(iI 0),(iI 0),(sL none 0 0)]))] (Hr_ 1 0 (Hc_ 4 (m1.cw ex av (3) {jw with log:=[]} M) (Ha_ (vi (n:=1+(au av (3:Int))) M) Hn_))) e0 rfl rfl fun _=>?_
   refine zld ([(⟨(au av (16:Int))-2,1+(au av (3:Int)),0,0,([]:List Int)⟩:SpiT)]:List SpiT) e0 V (RL.cs ⟨none,0,V,by first|(dsimp only;omega)|omega,by first|(dsimp only;omega)|omega,by first|(dsimp only;omega)|omega,by first|(dsimp only;omega)|omega,SR.nil⟩ RL.nl) V fun pb pk pm ob kx hM=>?_
   refine zad 3 ax hM (OS.sv kx hM (i:=4) V) V V V k_ (⟨.inl V,⟨.inl V,⟨.inl V,⟨.inl V,⟨.inl V,⟨.inl V,⟨.inl V,⟨.inl V,trivial⟩⟩⟩⟩⟩⟩⟩⟩) fun m8 nF nJ oc ky l0=>?_
   refine sdo 2 83 83 [] [] (Hr_ 10 0 Hn_) l0 V V fun ou oX l1=>?_
   refine bB 0 V ?_;exact h0 _ _ ⟨a.spi++([(⟨(au av (16:Int))-2,1+(au av (3:Int)),0,0,([]:List Int)⟩:SpiT)]:List SpiT),nJ,m8,nF,_,fR,(HS.sub l1 (a02 _ _)),ky,(agC V (agC V (agC V (agC V (agC V (agC V agN)))))),(by first|omega|(simp only[a04,a0x,a0m];omega)),(by first|exact fun _ h=>h|exact fun _ h=>h.snoc (a0I _))⟩
  try simp only[BS]at ha
  exact h0 _ _ ⟨a.spi,f6,ci,c0,_,fR,e0,ax,(agC V (agC V (agC V (agC V (agC V (agC V agN)))))),(by first|omega|(simp only[a04,a0x,a0m];omega)),(by first|exact fun _ h=>h|exact fun _ h=>h.snoc (a0I _))⟩
 skip;rintro pg m0 ⟨z,ag,A,E,bz,c6,a3,N,hz,hsp,hso⟩;refine ap _ hz (fun _=>?_);clear hz;replace ad:=ad.mono c6;refine aj 3 V ?_;refine bF 1 84 87 [] [(87,(.bool ((z.length:Int)==0)))] (Hr_ 1 0 Hn_) a3 V V fun _=>?_
 refine az 1 2 (v:=((z.length:Int)==0)) V V V V (fun he=>?_) (fun he=>?_)
 ·try simp only[BS]at he
  refine sgr 1 88 88 [] [] (Hr_ 0 0 (Hr_ 1 1 Hn_)) a3 V V fun ov oY hQ=>?_
  obtain⟨oM,hq,l2,ez,oH⟩:=OS.frz ad hQ (i:=2) V;replace N:=N.mono hq;obtain⟨oN,hr,l3,k5,oI⟩:=OS.frz N l2 (i:=3) V;replace ez:=ez.mono hr;refine am ⟨.inr V,_,(rC V (ldVN V V (h_ hQ V) V) rN),(⟨a.locs,z,sn⟩:AllT),a7,k7,A,E,_,(fT (fT (fT (b7) c6) hq) hr),(HS.forget l3),V,M,ez,k5,(by first|exact⟨by(dsimp only;omega),by(simp only[a0c];omega),fun n hn=>((hso n hn).up (a1e n)).set (hot n hn)⟩|exact⟨by(dsimp only;omega),by(dsimp only;omega),fun n hn=>(hso n hn).up (a1e n)⟩|exact⟨by(dsimp only;omega),by(simp only[a0c];omega),fun n hn=>(((hso n hn).set ((hso n hn).at _)).set ((hso n hn).at _)).up (a1e n)⟩|exact⟨by(dsimp only;omega),by(simp only[a0m];omega),fun n hn=>hn.up (a1e n)⟩)⟩
 try simp only[BS]at he
 have oj:=cm ai (z.length:Int);refine bF 2 89 93 [11] [(11,(iI (au ai (z.length:Int))))] (Hr_ 2 0 (Hc_ 4 (m1.cw ex ai (z.length:Int) m0 M) Hn_)) a3 V V fun _=>?_
 refine aa ?_;obtain⟨c4,hX⟩:=Sv.view (OS.sv N a3 (i:=3) V);obtain⟨nP,nQ,nR,nS,jq⟩:=SpiT.fx (hX (au ai (z.length:Int)).toNat);refine bn 5 0 94 98 [] [(98,(aG [(iI (z.getD (au ai (z.length:Int)).toNat default).reg),(iI (z.getD (au ai (z.length:Int)).toNat default).why),(iI (z.getD (au ai (z.length:Int)).toNat default).blk),(iI (z.getD (au ai (z.length:Int)).toNat default).idx),(sL (cA (c4 (au ai (z.length:Int)).toNat) 4) (z.getD (au ai (z.length:Int)).toNat default).oth.length (cK (c4 (au ai (z.length:Int)).toNat) 4))]))] (Hr_ 1 0 (Ha_ (Sv.ix (j:=au ai (z.length:Int)) (OS.sv N a3 (i:=3) V) M M) (Hl_ 4 (qn 67 0 5 (SpiT.vw (hX (au ai (z.length:Int)).toNat) M) V V V V) Hn_))) a3 V V fun _=>?_
 refine zn a3 V fun e6 oZ l4=>?_
 refine sgo 1 6 1 0 [] [] (Hr_ 6 4 Hn_) l4 V V fun ow o0 hR=>?_
 refine ae 2 V ?_;have oE:=(hso _ pt).at (au ai (z.length:Int)).toNat;refine aa ?_;refine bn 2 0 99 100 [] [(100,(sL (cA (c4 (au ai (z.length:Int)).toNat) 4) (z.getD (au ai (z.length:Int)).toNat default).oth.length (cK (c4 (au ai (z.length:Int)).toNat) 4)))] (Hr_ 1 4 Hn_) hR V V fun _=>?_
 have hS:=HS.snoc hR;refine zao 5 (OS.nil:OS bz (sL none 0 0) ([]:List Int) []) hS (SR.sv jq hS) V V V k_ fun a5 a6 a8 o1 ay l9=>?_
 have ay:OS bz (sL a5 (z.getD (au ai (z.length:Int)).toNat default).oth.length a6) (z.getD (au ai (z.length:Int)).toNat default).oth a8:=ay;refine sgo 2 3 102 102 [] [] (Hr_ 4 4 Hn_) l9 V V fun ox f9 T=>?_
 refine ae 3 V ?_;refine wU 3 [(1,.o (iI (au ao (12:Int))))] 103 104 [] [(104,(iI (au ao (12:Int))))] (m1.cw ex ao (12) f9 M) V fun _=>?_
 refine wT 1 [] 105 106 [] [(105,(.bool (au ao (12:Int)==5)))] V fun _=>?_
 refine bH (fun f H'=> ∃(q0:Int) (q1:Int) (q2:Int) (q3:Int) (ot:List Int) (a1:Fp) (U:Option Addr) (a_:Nat) (F':Fz),Fz.le bz F'/\HS (Base.of H []) F' H' [(fP b1 [(sL a7 a.locs.length k7),(sL A z.length E),(iI sn)]),cc,p7,ag,(fP e6 [(iI q0),(iI q1),(iI q2),(iI q3),(sL U ot.length a_)]),a1] R/\OS F' (sL U ot.length a_) ot a1/\aA f [(4,(pT b1 0)),(8,(pT b3 0)),(11,(iI (au ai (z.length:Int)))),(12,(pT e6 0))]/\(in64 q0)/\(in64 q1)/\(in64 q2)/\(in64 q3)/\(∀n,LoB n a.spi->ot.length<=n+1)) (fun a4=>?_) ?_
 ·refine az 0 1 (v:=(au ao (12:Int)==5)) V V V V (fun hf=>?_) (fun hf=>?_)
  ·try simp only[BS]at hf
   refine sgr 0 107 108 [] [] (Hr_ 2 4 Hn_) T V V fun oy o3 mk=>?_
   exact a4 _ _ ⟨(au av (16:Int))-2,(z.getD (au ai (z.length:Int)).toNat default).why,(z.getD (au ai (z.length:Int)).toNat default).blk,(z.getD (au ai (z.length:Int)).toNat default).idx,(z.getD (au ai (z.length:Int)).toNat default).oth,a8,a5,a6,_,fR,mk,ay,(agC V (agC V (agC V (agC V agN)))),(by first|assumption|omega|(simp at *;omega)),(by first|assumption|omega|(simp at *;omega)),(by first|assumption|omega|(simp at *;omega)),(by first|assumption|omega|(simp at *;omega)),(by intro n hn;(have co:=(hso n hn).at (au ai (z.length:Int)).toNat);first|omega|(simp only[a04,a0x,a0k,a0m];omega))⟩
  try simp only[BS]at hf
  refine wT 1 [] 109 110 [] [(109,(.bool (au ao (12:Int)==6)))] V fun _=>?_
  refine az 0 1 (v:=(au ao (12:Int)==6)) V V V V (fun hg=>?_) (fun hg=>?_)
  ·try simp only[BS]at hg
   refine sgr 0 111 112 [] [] (Hr_ 2 4 Hn_) T V V fun oz o4 mm=>?_
   exact a4 _ _ ⟨(z.getD (au ai (z.length:Int)).toNat default).reg,(au av (16:Int))-2,(z.getD (au ai (z.length:Int)).toNat default).blk,(z.getD (au ai (z.length:Int)).toNat default).idx,(z.getD (au ai (z.length:Int)).toNat default).oth,a8,a5,a6,_,fR,mm,ay,(agC V (agC V (agC V (agC V agN)))),(by first|assumption|omega|(simp at *;omega)),(by first|assumption|omega|(simp at *;omega)),(by first|assumption|omega|(simp at *;omega)),(by first|assumption|omega|(simp at *;omega)),(by intro n hn;(have co:=(hso n hn).at (au ai (z.length:Int)).toNat);first|omega|(simp only[a04,a0x,a0k,a0m];omega))⟩
  try simp only[BS]at hg
  refine wT 1 [] 113 114 [] [(113,(.bool (au ao (12:Int)==7)))] V fun _=>?_
  refine az 0 1 (v:=(au ao (12:Int)==7)) V V V V (fun hh=>?_) (fun hh=>?_)
  ·try simp only[BS]at hh
   refine sgr 0 115 116 [] [] (Hr_ 2 4 Hn_) T V V fun oA o5 mx=>?_
   exact a4 _ _ ⟨(z.getD (au ai (z.length:Int)).toNat default).reg,(z.getD (au ai (z.length:Int)).toNat default).why,(au av (16:Int))-2,(z.getD (au ai (z.length:Int)).toNat default).idx,(z.getD (au ai (z.length:Int)).toNat default).oth,a8,a5,a6,_,fR,mx,ay,(agC V (agC V (agC V (agC V agN)))),(by first|assumption|omega|(simp at *;omega)),(by first|assumption|omega|(simp at *;omega)),(by first|assumption|omega|(simp at *;omega)),(by first|assumption|omega|(simp at *;omega)),(by intro n hn;(have co:=(hso n hn).at (au ai (z.length:Int)).toNat);first|omega|(simp only[a04,a0x,a0k,a0m];omega))⟩
  try simp only[BS]at hh
  refine wT 1 [] 117 118 [] [(117,(.bool (au ao (12:Int)==8)))] V fun _=>?_
  refine az 0 1 (v:=(au ao (12:Int)==8)) V V V V (fun hj=>?_) (fun hj=>?_)
  ·try simp only[BS]at hj
   refine sgr 0 119 120 [] [] (Hr_ 2 4 Hn_) T V V fun oB o6 mI=>?_
   exact a4 _ _ ⟨(z.getD (au ai (z.length:Int)).toNat default).reg,(z.getD (au ai (z.length:Int)).toNat default).why,(z.getD (au ai (z.length:Int)).toNat default).blk,(au av (16:Int))-2,(z.getD (au ai (z.length:Int)).toNat default).oth,a8,a5,a6,_,fR,mI,ay,(agC V (agC V (agC V (agC V agN)))),(by first|assumption|omega|(simp at *;omega)),(by first|assumption|omega|(simp at *;omega)),(by first|assumption|omega|(simp at *;omega)),(by first|assumption|omega|(simp at *;omega)),(by intro n hn;(have co:=(hso n hn).at (au ai (z.length:Int)).toNat);first|omega|(simp only[a04,a0x,a0k,a0m];omega))⟩
  try simp only[BS]at hj
  refine wT 1 [] 121 122 [] [(121,(.bool (au ao (12:Int)==9)))] V fun _=>?_
  refine az 0 1 (v:=(au ao (12:Int)==9)) V V V V (fun hk=>?_) (fun hk=>?_)
  ·try simp only[BS]at hk
   refine aa ?_;refine bn 3 0 123 125 [] [(124,(sL a5 (z.getD (au ai (z.length:Int)).toNat default).oth.length a6)),(125,(iI ((au av (16:Int))-2)))] (Hr_ 1 4 Hn_) T V V fun _=>?_
   refine zlo ([(au av (16:Int))-2]:List Int) T V (RL.cs ⟨V,by first|(dsimp only;omega)|omega⟩ RL.nl) V fun pc pl pn o7 kz hV=>?_
   refine zao 5 ay hV (OS.sv kz hV (i:=6) V) V V V k_ fun m9 nG nK o8 k0 mW=>?_
   refine sgo 2 5 128 128 [] [] (Hr_ 6 4 Hn_) mW V V fun oC o9 mX=>?_
   refine ae 0 V ?_;exact a4 _ _ ⟨(z.getD (au ai (z.length:Int)).toNat default).reg,(z.getD (au ai (z.length:Int)).toNat default).why,(z.getD (au ai (z.length:Int)).toNat default).blk,(z.getD (au ai (z.length:Int)).toNat default).idx,(z.getD (au ai (z.length:Int)).toNat default).oth++([(au av (16:Int))-2]:List Int),nK,m9,nG,_,fR,(HS.sub mX (a02 _ _)),k0,(agC V (agC V (agC V (agC V agN)))),(by first|assumption|omega|(simp at *;omega)),(by first|assumption|omega|(simp at *;omega)),(by first|assumption|omega|(simp at *;omega)),(by first|assumption|omega|(simp at *;omega)),(by intro n hn;(have co:=(hso n hn).at (au ai (z.length:Int)).toNat);first|omega|(simp only[a04,a0x,a0k,a0m];omega))⟩
  try simp only[BS]at hk
  refine wT 1 [] 129 130 [] [(129,(.bool (au ao (12:Int)==10)))] V fun _=>?_
  refine az 0 1 (v:=(au ao (12:Int)==10)) V V V V (fun d4=>?_) (fun d4=>?_)
  ·try simp only[BS]at d4
   refine aF V ?_;have nN:=cm av (((z.getD (au ai (z.length:Int)).toNat default).oth.length:Int)+1);refine d8 8 131 138 [] [(132,(sL a5 (z.getD (au ai (z.length:Int)).toNat default).oth.length a6)),(138,(iI (au av (((z.getD (au ai (z.length:Int)).toNat default).oth.length:Int)+1))))] (Hr_ 1 4 (Hr_ 4 4 (Ha_ (vi (n:=((z.getD (au ai (z.length:Int)).toNat default).oth.length:Int)+1) M) (Hc_ 7 (m1.cw ex av (((z.getD (au ai (z.length:Int)).toNat default).oth.length:Int)+1) {f9 with log:=[]} M) Hn_)))) T rfl rfl fun _=>?_
   refine e9 (id:= .r) (rs_cutOt (α:=Int) (j:=(au av (((z.getD (au ai (z.length:Int)).toNat default).oth.length:Int)+1)).toNat) ay T.log0 (q:=5) V V V V (optN M) M) V V (by rintro _ _ _ ⟨_,_,_,hH,_⟩;simp only at hH;subst hH;exact did_r fun b hb=>absurd hb a0d) (⟨.inl V,⟨.inl V,⟨.inl V,⟨.inl V,⟨.inl V,⟨.inl V,⟨.inl V,⟨.inl V,trivial⟩⟩⟩⟩⟩⟩⟩⟩) ?_;rintro _ _ _ ⟨ko,mY,rfl,b2,h7⟩ i3 hB;simp only at b2;replace b2:=b2.symm;subst b2;have f3:=HS.lg T.log0 T hB;generalize ({{f9 with log:=[]} with log:=i3}:Heap)=nL at f3⊢;refine sdo 2 140 140 [] [] (Hr_ 10 4 Hn_) f3 V V fun nT n8 ih=>?_
   refine bB 0 V ?_;exact a4 _ _ ⟨(z.getD (au ai (z.length:Int)).toNat default).reg,(z.getD (au ai (z.length:Int)).toNat default).why,(z.getD (au ai (z.length:Int)).toNat default).blk,(z.getD (au ai (z.length:Int)).toNat default).idx,(z.getD (au ai (z.length:Int)).toNat default).oth.take ((au av (((z.getD (au ai (z.length:Int)).toNat default).oth.length:Int)+1)).toNat),a8,ko,mY,_,fR,ih,h7,(agC V (agC V (agC V (agC V agN)))),(by first|assumption|omega|(simp at *;omega)),(by first|assumption|omega|(simp at *;omega)),(by first|assumption|omega|(simp at *;omega)),(by first|assumption|omega|(simp at *;omega)),(by intro n hn;(have co:=(hso n hn).at (au ai (z.length:Int)).toNat);first|omega|(simp only[a04,a0x,a0k,a0m];omega))⟩
  try simp only[BS]at d4
  refine wT 1 [] 141 142 [] [(141,(.bool (au ao (12:Int)==11)))] V fun _=>?_
  refine az 1 0 (v:=(au ao (12:Int)==11)) V V V V (fun ea=>?_) (fun ea=>?_)
  ·try simp only[BS]at ea
   refine aF V ?_;obtain⟨Z,b6⟩:=Sv.view (OS.sv N T (i:=3) V);obtain⟨ng,nh,nj,nk,h4⟩:=SpiT.fx (b6 0);obtain⟨nm,np,nq,ny,h5⟩:=SpiT.fx (b6 (au ai (z.length:Int)).toNat);refine d8 15 143 157 [] [(147,(sL A z.length E)),(151,(aG [(iI (z.getD 0 default).reg),(iI (z.getD 0 default).why),(iI (z.getD 0 default).blk),(iI (z.getD 0 default).idx),(sL (cA (Z 0) 4) (z.getD 0 default).oth.length (cK (Z 0) 4))])),(156,(aG [(iI (z.getD (au ai (z.length:Int)).toNat default).reg),(iI (z.getD (au ai (z.length:Int)).toNat default).why),(iI (z.getD (au ai (z.length:Int)).toNat default).blk),(iI (z.getD (au ai (z.length:Int)).toNat default).idx),(sL (cA (Z (au ai (z.length:Int)).toNat) 4) (z.getD (au ai (z.length:Int)).toNat default).oth.length (cK (Z (au ai (z.length:Int)).toNat) 4))])),(157,(.pointer (some ⟨sB (sL A z.length E),sO (sL A z.length E)+(au ai (z.length:Int)).toNat *Rp.sz SpiT,none⟩)))] (Hr_ 1 0 (Hr_ 4 0 (Hr_ 6 0 (Ha_ (Sv.ix (j:=0) (OS.sv N T (i:=3) V) e_ M) (Hl_ 8 (qn 67 0 5 (hc0 (SpiT.vw (b6 0) M)) V V V V) (Hr_ 10 0 (Ha_ (Sv.ix (j:=au ai (z.length:Int)) (OS.sv N T (i:=3) V) M M) (Hl_ 13 (qn 67 0 5 (hc0 (SpiT.vw (b6 (au ai (z.length:Int)).toNat) M)) V V V V) (Ha_ (Sv.ix (j:=au ai (z.length:Int)) (OS.sv N T (i:=3) V) M M) Hn_))))))))) T V V fun _=>?_
   refine gz (id:= .x (ag.map Prod.fst)) (cy (α:=SpiT) (j:=(au ai (z.length:Int)).toNat) (off:=0) (q:=3) (z.getD 0 default) N T.log0 V V V V V V V V (aT (x:=default) M) V (fq (F:=bz) (Y:=(z.getD 0 default)) (cl:=[(iI (z.getD 0 default).reg),(iI (z.getD 0 default).why),(iI (z.getD 0 default).blk),(iI (z.getD 0 default).idx),(sL (cA (Z 0) 4) (z.getD 0 default).oth.length (cK (Z 0) 4))]) ⟨(cA (Z 0) 4),(cK (Z 0) 4),V,by first|(dsimp only;omega)|omega,by first|(dsimp only;omega)|omega,by first|(dsimp only;omega)|omega,by first|(dsimp only;omega)|omega,h4⟩)) V (by rintro _ _ h3 ⟨b4,_,hwr⟩;exact dK V V (Wr.did hwr)) (⟨.inl V,⟨.inl V,⟨.inl V,⟨.inl V,⟨.inl V,⟨.inl V,⟨.inl V,⟨.inl V,⟨.inl V,⟨.inl V,⟨.inr (HS.nin T (i:=0) (j:=3) V V e_ (List.Mem.head _)),⟨.inr trivial,⟨.inl V,⟨.inl V,⟨.inl V,trivial⟩⟩⟩⟩⟩⟩⟩⟩⟩⟩⟩⟩⟩⟩⟩) ?_;rintro _ kl h3 ⟨b4,a2,_⟩ ja hC;replace a2:=HS.lg a2 T hC;generalize ({kl with log:=ja}:Heap)=nM at a2⊢;have nz:=OS.len' b4;refine aK (v:=(.pointer (some ⟨sB (sL A z.length E),sO (sL A z.length E)+0 *Rp.sz SpiT,none⟩))) (id:= .v) (fH (α:=SpiT) (j:=0) V V V V (OS.sv b4 a2.log0 (i:=3) V) e_ M) V V (fE V) (eE _) ?_;refine gz (id:= .x (h3.map Prod.fst)) (cy (α:=SpiT) (j:=0) (off:=0) (q:=3) (z.getD (au ai (z.length:Int)).toNat default) b4 a2.log0 V V V V V V V V (aT (x:=default) M) V (fq (F:=bz) (Y:=(z.getD (au ai (z.length:Int)).toNat default)) (cl:=[(iI (z.getD (au ai (z.length:Int)).toNat default).reg),(iI (z.getD (au ai (z.length:Int)).toNat default).why),(iI (z.getD (au ai (z.length:Int)).toNat default).blk),(iI (z.getD (au ai (z.length:Int)).toNat default).idx),(sL (cA (Z (au ai (z.length:Int)).toNat) 4) (z.getD (au ai (z.length:Int)).toNat default).oth.length (cK (Z (au ai (z.length:Int)).toNat) 4))]) ⟨(cA (Z (au ai (z.length:Int)).toNat) 4),(cK (Z (au ai (z.length:Int)).toNat) 4),V,by first|(dsimp only;omega)|omega,by first|(dsimp only;omega)|omega,by first|(dsimp only;omega)|omega,by first|(dsimp only;omega)|omega,h5⟩)) V (by rintro _ _ dl ⟨c8,_,hwr⟩;exact dK V V (Wr.did hwr)) (⟨.inl V,⟨.inl V,⟨.inl V,⟨.inl V,⟨.inl V,⟨.inl V,⟨.inl V,⟨.inl V,⟨.inl V,⟨.inl V,⟨.inl V,⟨.inl V,⟨.inl V,⟨.inl V,⟨.inl V,⟨.inl V,⟨.inl V,trivial⟩⟩⟩⟩⟩⟩⟩⟩⟩⟩⟩⟩⟩⟩⟩⟩⟩) ?_;rintro _ kn dl ⟨c8,b5,_⟩ jb hD;replace b5:=HS.lg b5 a2 hD;generalize ({kn with log:=jb}:Heap)=e5 at b5⊢;have nA:=OS.len' c8;refine bB 2 V ?_;have ds:((z.set (au ai (z.length:Int)).toNat (z.getD 0 default)).set 0 (z.getD (au ai (z.length:Int)).toNat default)).length=z.length:=by simp only[a0c]
   have b8:OS bz (sL A ((z.set (au ai (z.length:Int)).toNat (z.getD 0 default)).set 0 (z.getD (au ai (z.length:Int)).toNat default)).length E) ((z.set (au ai (z.length:Int)).toNat (z.getD 0 default)).set 0 (z.getD (au ai (z.length:Int)).toNat default)) dl:=by rw[ds];exact c8
   let kk:Fp:=(fP e6 [(iI (z.getD (au ai (z.length:Int)).toNat default).reg),(iI (z.getD (au ai (z.length:Int)).toNat default).why),(iI (z.getD (au ai (z.length:Int)).toNat default).blk),(iI (z.getD (au ai (z.length:Int)).toNat default).idx),(sL a5 (z.getD (au ai (z.length:Int)).toNat default).oth.length a6)])
   have ht:HS (Base.of H []) bz e5 [(fP b1 [(sL a7 a.locs.length k7),(sL A ((z.set (au ai (z.length:Int)).toNat (z.getD 0 default)).set 0 (z.getD (au ai (z.length:Int)).toNat default)).length E),(iI sn)]),cc,p7,dl,kk,a8] R:=Eq.mpr (congrArg (fun nn:Nat=>HS (Base.of H []) bz e5 [(fP b1 [(sL a7 a.locs.length k7),(sL A nn E),(iI sn)]),cc,p7,dl,kk,a8] R) ds) b5;refine sgr 1 159 159 [] [] (Hr_ 0 0 (Hr_ 1 1 Hn_)) ht V V fun nU n9 f4=>?_
   obtain⟨n4,fd,ik,c9,nY⟩:=OS.frz ad f4 (i:=2) V;replace b8:=b8.mono fd;obtain⟨n5,fi,il,h8,nZ⟩:=OS.frz b8 ik (i:=3) V;replace c9:=c9.mono fi;refine am ⟨.inr V,_,(rC V (ldVN V V (h_ f4 V) V) rN),(⟨a.locs,(z.set (au ai (z.length:Int)).toNat (z.getD 0 default)).set 0 (z.getD (au ai (z.length:Int)).toNat default),sn⟩:AllT),a7,k7,A,E,_,(fT (fT (fT (b7) c6) fd) fi),(HS.forget il),V,M,c9,h8,(by first|exact⟨by(dsimp only;omega),by(simp only[a0c];omega),fun n hn=>((hso n hn).up (a1e n)).set (hot n hn)⟩|exact⟨by(dsimp only;omega),by(dsimp only;omega),fun n hn=>(hso n hn).up (a1e n)⟩|exact⟨by(dsimp only;omega),by(simp only[a0c];omega),fun n hn=>(((hso n hn).set ((hso n hn).at _)).set ((hso n hn).at _)).up (a1e n)⟩|exact⟨by(dsimp only;omega),by(simp only[a0m];omega),fun n hn=>hn.up (a1e n)⟩)⟩
  try simp only[BS]at ea
  exact a4 _ _ ⟨(z.getD (au ai (z.length:Int)).toNat default).reg,(z.getD (au ai (z.length:Int)).toNat default).why,(z.getD (au ai (z.length:Int)).toNat default).blk,(z.getD (au ai (z.length:Int)).toNat default).idx,(z.getD (au ai (z.length:Int)).toNat default).oth,a8,a5,a6,_,fR,T,ay,(agC V (agC V (agC V (agC V agN)))),(by first|assumption|omega|(simp at *;omega)),(by first|assumption|omega|(simp at *;omega)),(by first|assumption|omega|(simp at *;omega)),(by first|assumption|omega|(simp at *;omega)),(by intro n hn;(have co:=(hso n hn).at (au ai (z.length:Int)).toNat);first|omega|(simp only[a04,a0x,a0k,a0m];omega))⟩
 skip;rintro ph o2 ⟨q0,q1,q2,q3,ot,a1,U,a_,oO,em,e1,d1,hA,g0,g1,g2,g3,hot⟩;refine ap _ hA (fun _=>?_);clear hA;replace N:=N.mono em;refine aj 3 V ?_;refine aa ?_;refine bn 5 0 160 164 [] [(163,(aG [(iI q0),(iI q1),(iI q2),(iI q3),(sL U ot.length a_)])),(164,(.pointer (some ⟨sB (sL A z.length E),sO (sL A z.length E)+(au ai (z.length:Int)).toNat *Rp.sz SpiT,none⟩)))] (Hr_ 1 0 (Hr_ 3 4 (Ha_ (Sv.ix (j:=au ai (z.length:Int)) (OS.sv N e1 (i:=3) V) M M) Hn_))) e1 V V fun _=>?_
 obtain⟨c3,c5,it,h9,n1⟩:=OS.frz d1 e1 (i:=5) V;replace ad:=(ad.mono em).mono c5;replace N:=N.mono c5;refine d5 (cy (α:=SpiT) (j:=(au ai (z.length:Int)).toNat) (off:=0) (q:=3) (⟨q0,q1,q2,q3,ot⟩:SpiT) N it V V V V V V V V (aT (x:=default) M) V (fq (F:=c3) (Y:=(⟨q0,q1,q2,q3,ot⟩:SpiT)) (cl:=[(iI q0),(iI q1),(iI q2),(iI q3),(sL U ot.length a_)]) ⟨U,a_,V,by first|(dsimp only;omega)|omega,by first|(dsimp only;omega)|omega,by first|(dsimp only;omega)|omega,by first|(dsimp only;omega)|omega,h9⟩)) V ?_;rintro _ f8 e4 ⟨f2,iv,_⟩;have nB:=OS.len' f2;refine ae 2 V ?_;have dt:(z.set (au ai (z.length:Int)).toNat (⟨q0,q1,q2,q3,ot⟩:SpiT)).length=z.length:=by simp only[a0c]
 have b9:OS c3 (sL A (z.set (au ai (z.length:Int)).toNat (⟨q0,q1,q2,q3,ot⟩:SpiT)).length E) (z.set (au ai (z.length:Int)).toNat (⟨q0,q1,q2,q3,ot⟩:SpiT)) e4:=by rw[dt];exact f2
 let h6:Fp:=(fP e6 [(iI q0),(iI q1),(iI q2),(iI q3),(sL U ot.length a_)])
 have hu:HS (Base.of H []) c3 f8 [(fP b1 [(sL a7 a.locs.length k7),(sL A (z.set (au ai (z.length:Int)).toNat (⟨q0,q1,q2,q3,ot⟩:SpiT)).length E),(iI sn)]),cc,p7,e4,h6,[]] R:=Eq.mpr (congrArg (fun nn:Nat=>HS (Base.of H []) c3 f8 [(fP b1 [(sL a7 a.locs.length k7),(sL A nn E),(iI sn)]),cc,p7,e4,h6,[]] R) dt) iv;refine sgr 1 165 165 [] [] (Hr_ 0 0 (Hr_ 1 1 Hn_)) hu V V fun nV oa f5=>?_
 obtain⟨n6,f0,iz,dd,n2⟩:=OS.frz ad f5 (i:=2) V;replace b9:=b9.mono f0;obtain⟨n7,f1,i2,ib,n3⟩:=OS.frz b9 iz (i:=3) V;replace dd:=dd.mono f1;refine am ⟨.inr V,_,(rC V (ldVN V V (h_ f5 V) V) rN),(⟨a.locs,z.set (au ai (z.length:Int)).toNat (⟨q0,q1,q2,q3,ot⟩:SpiT),sn⟩:AllT),a7,k7,A,E,_,(fT (fT (fT (fT (fT (b7) c6) em) c5) f0) f1),(HS.forget i2),V,M,dd,ib,(by first|exact⟨by(dsimp only;omega),by(simp only[a0c];omega),fun n hn=>((hso n hn).up (a1e n)).set (hot n hn)⟩|exact⟨by(dsimp only;omega),by(dsimp only;omega),fun n hn=>(hso n hn).up (a1e n)⟩|exact⟨by(dsimp only;omega),by(simp only[a0c];omega),fun n hn=>(((hso n hn).set ((hso n hn).at _)).set ((hso n hn).at _)).up (a1e n)⟩|exact⟨by(dsimp only;omega),by(simp only[a0m];omega),fun n hn=>hn.up (a1e n)⟩)⟩
end Go.Proofs.YtgdggmlghemecaaDoor.nu
