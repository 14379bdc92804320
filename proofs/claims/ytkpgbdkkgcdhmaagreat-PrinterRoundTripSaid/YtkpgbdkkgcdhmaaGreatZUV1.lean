/-
Symbolic runs of the code that the law reaches, part 2. No condition but bounds on lengths.
-/
import Derived.Test.YtkpgbdkkgcdhmaaGreatZUV0
noncomputable section
namespace Go.Proofs.YtkpgbdkkgcdhmaaGreat
open Go.R
open Inhabited renaming default→n_
open List renaming getD→Y,length→Q
set_option maxRecDepth 10000
set_option maxHeartbeats 1600000
set_option linter.unusedVariables false
set_option linter.unusedSimpArgs false
open l1 w1 w3 pt pa pb pc pd pe pf pg ph ga
namespace gb
variable (ex:FuncId) {F:Fz} {H:Heap} {R:List Fp}
abbrev zGB1:ExpT:=⟨0,0,⟨[]⟩,0,([]:List ExpT)⟩
abbrev zGB2:List StmT:=[]
abbrev zGB3:List ExpT:=[]
abbrev zGB4:List Str:=[⟨[102]⟩,⟨[103]⟩]
abbrev zGB5:List Str:=[⟨[97]⟩,⟨[98]⟩]
abbrev zGB6:List Str:=[⟨[120]⟩,⟨[121]⟩]
abbrev zGB7:List Str:=[⟨[105]⟩,⟨[106]⟩]
def jT{α:Type}(g:RdT->α×RdT):Nat->RdT->List α×RdT
 |0,r=>([],r)
 |k+1,r=>if r.l=[] then([],r) else((g r).1::(jT g k (g r).2).1,(jT g k (g r).2).2)
def bT(f:Int):Nat->RdT->List ExpT×RdT
 |0,r=>([],r)
 |k+1,r=>((ap f 2 r).1::(bT f k (ap f 2 r).2).1,(bT f k (ap f 2 r).2).2)
def nr(r:RdT):RdT:=⟨r.l,r.n+1⟩
def kG(flat:Bool)(r:RdT):Nat:=if(flat=true/\8<=ah (hdG r) 16/\ah (hdG r) 16<12)\/(10<=(au r).n/\10<=ah (hdG r) 16) then 0 else ah (hdG r) 16
def gK(sub:Nat->RdT->List StmT×RdT)(flat:Bool)(f:Int)(r:RdT):StmT×RdT:=
 if kG flat r<6 then(mkS 1 (nmG f (hdG r)) bP 0 zE (ap f 4 (au r)).1 [] [] [],(ap f 4 (au r)).2)
 else if kG flat r<8 then(mkS 2 (Y abG (ah ((hdG r).tdiv 16) 1000%2) n_) bP 0 (ap f 2 (au r)).1 (ap f 3 (ap f 2 (au r)).2).1 [] [] [],(ap f 3 (ap f 2 (au r)).2).2)
 else if kG flat r<10 then(mkS 3 bP bP 0 zE (ap f 3 (au r)).1 [] (sub 3 (ap f 3 (au r)).2).1 (sub 2 (sub 3 (ap f 3 (au r)).2).2).1,(sub 2 (sub 3 (ap f 3 (au r)).2).2).2)
 else if kG flat r<12 then(mkS 4 bP bP 0 zE (ap f 3 (nr (au r))).1 [] (sub 3 (ap f 3 (nr (au r))).2).1 [],(sub 3 (ap f 3 (nr (au r))).2).2)
 else if kG flat r<14 then(mkS 5 bP bP 0 zE (ap f 3 (au r)).1 [] [] [],(ap f 3 (au r)).2)
 else if kG flat r<15 then(mkS 6 (nmG f (hdG r)) (Y zGB4 (ah ((hdG r).tdiv 16) 1000%2) n_) 0 zE zE (bT f (2-ah ((hdG r).tdiv 16) 1000%2) (au r)).1 [] [],(bT f (2-ah ((hdG r).tdiv 16) 1000%2) (au r)).2)
 else(mkS 7 bP bP (ah ((hdG r).tdiv 16) 1000) zE zE [] [] [],au r)
def subG(g:RdT->StmT×RdT)(E:Nat)(r:RdT):List StmT×RdT:=jT g (ah (hdG r) (E+1)) (au r)
def cj(f:Int):Nat->RdT->StmT×RdT
 |0,r=>gK (λ_ r=>([],r)) true f r
 |d+1,r=>gK (subG (cj f d)) false f r
def aS(f:Int)(d:Nat)(E:Nat)(r:RdT):List StmT×RdT:=subG (cj f d) E r
def rdG(l:List Int):RdT:=⟨l.take (if(60:Int)<(Q l:Int) then(60:Int) else(Q l:Int)).toNat,0⟩
def cn(l:List Int):List StmT×RdT:=aS 0 3 5 (au (rdG l))
def eF(l:List Int):ExpT×RdT:=ap 0 3 (cn l).2
def cW(l:List Int):List StmT×RdT:=aS 1 2 3 (eF l).2
def ii(l:List Int):ExpT×RdT:=ap 1 3 (cW l).2
def bm(l:List Int):PrgT:=
 ⟨[⟨⟨[97]⟩,1+(ah (hdG (rdG l)) 4:Int)⟩,⟨⟨[98]⟩,1+(ah ((hdG (rdG l)).tdiv 4) 4:Int)⟩],
   [⟨⟨[102]⟩,[⟨[120]⟩,⟨[121]⟩],[⟨[105]⟩,⟨[106]⟩],(cn l).1,(eF l).1⟩,⟨⟨[103]⟩,[⟨[110]⟩],[⟨[105]⟩],(cW l).1,(ii l).1⟩]⟩
theorem take60(l:List Int):Q (l.take (if(60:Int)<(Q l:Int) then(60:Int) else(Q l:Int)).toNat)<=60:=by rw[a0V];split<;>omega
theorem dX9(x:ExpT):(⟨x.j,x.n,⟨x.pp.b⟩,x.op,x.I⟩:ExpT)=x:=by cases x;rfl
theorem ne_nil{l:List Int}(h: ¬(Q l)=0):l≠ []:=λe=>h (by rw[e];rfl)
theorem eq_nil{l:List Int}(h:Q l=0):l=[]:=a0e h
theorem row_y{α:Type}{g:RdT->α×RdT}{k:Nat}{r:RdT}(h:0<k)(E:r.l≠ []):jT g k r=((g r).1::(jT g (k-1) (g r).2).1,(jT g (k-1) (g r).2).2):=by
 obtain⟨n,rfl⟩: ∃n,k=n+1:=⟨k-1,M⟩
 rw[jT,if_neg E];rfl
theorem row_n{α:Type}{g:RdT->α×RdT}{k:Nat}{r:RdT}(h: ¬(0<k/\0<Q r.l)):jT g k r=([],r):=by
 cases k with
 |zero=>rfl
 |succ n=>rw[jT,if_pos (eq_nil M)]
theorem args_y{f:Int}{k:Nat}{r:RdT}(h:0<k):bT f k r=((ap f 2 r).1::(bT f (k-1) (ap f 2 r).2).1,(bT f (k-1) (ap f 2 r).2).2):=by
 obtain⟨n,rfl⟩: ∃n,k=n+1:=⟨k-1,M⟩
 rfl
theorem row_s{α:Type}{g:RdT->α×RdT}{k:Nat}{r:RdT}{l:List α}(h:0<k)(E:r.l≠ []):(l++(jT g k r).1,(jT g k r).2)=((l++[(g r).1])++(jT g (k-1) (g r).2).1,(jT g (k-1) (g r).2).2):=by rw[row_y h E,a0b];rfl
theorem args_s{f:Int}{k j:Nat}{r:RdT}{l:List ExpT}(h:j<k):(l++(bT f (k-j) r).1,(bT f (k-j) r).2)=((l++[(ap f 2 r).1])++(bT f (k-(j+1)) (ap f 2 r).2).1,(bT f (k-(j+1)) (ap f 2 r).2).2):=by rw[args_y M,a0b];rfl
theorem args_n{f:Int}{k:Nat}{r:RdT}(h:k=0):bT f k r=([],r):=by rw[h];rfl
theorem kG_lt(b:Bool)(r:RdT):kG b r<16:=by have:=di (n:=hdG r) (m:=16) e_;unfold kG;split<;>omega
theorem kG_1{deep:Nat}{r:RdT}(h:(2<deep/\8<=ah (hdG r) 16/\ah (hdG r) 16<12)\/(10<=(au r).n/\10<=ah (hdG r) 16)):kG (decide (2<deep)) r=0:=by unfold kG;exact if_pos (h.imp (λk=>⟨decide_eq_true k.1,k.2⟩) id)
theorem kG_2{deep:Nat}{r:RdT}(h: ¬((2<deep/\8<=ah (hdG r) 16/\ah (hdG r) 16<12)\/(10<=(au r).n/\10<=ah (hdG r) 16))):kG (decide (2<deep)) r=ah (hdG r) 16:=by unfold kG;exact if_neg λk=>h (k.imp (λq=>⟨of_decide_eq_true q.1,q.2⟩) id)
theorem oZ{deep:Nat}{r:RdT}(h:8<=kG (decide (2<deep)) r)(E:kG (decide (2<deep)) r<12):deep<=2:=by
 unfold kG at h E;split at h
 ·omega
 next c=>
 rw[if_neg c]at E;rcases a0p 2 deep with O|O
 ·exact absurd (.inl ⟨decide_eq_true O,h,E⟩) c
 exact O
theorem kG_loops{flat:Bool}{r:RdT}(h:10<=kG flat r):(au r).n<10:=by
 unfold kG at h;split at h
 ·omega
 next c=>omega
def sbG(f:Int)(deep:Nat):Nat->RdT->List StmT×RdT:=if 2<deep then(λ_ r=>([],r)) else subG (cj f (3-(deep+1)))
theorem st_eq{f:Int}{r:RdT}{deep:Nat}(hd:deep<=3):cj f (3-deep) r=gK (sbG f deep) (decide (2<deep)) f r:=by
 unfold sbG;rcases a0p 2 deep with h|h
 ·rw[if_pos h,decide_eq_true h,show 3-deep=0 by omega];rfl
 rw[if_neg M,decide_eq_false M,show 3-deep=(3-(deep+1))+1 by omega];rfl
theorem sb_eq{f:Int}{deep:Nat}(h:deep<=2):sbG f deep=aS f (3-(deep+1)):=by unfold sbG;rw[if_neg M];rfl
section
variable {f:Int} {r:RdT} {deep:Nat} (hd:deep<=3)
include hd
theorem st_A(h:kG (decide (2<deep)) r<6):cj f (3-deep) r=(mkS 1 (nmG f (hdG r)) bP 0 zE (ap f 4 (au r)).1 [] [] [],(ap f 4 (au r)).2):=by rw[st_eq hd,gK,if_pos h]
theorem st_B(E: ¬kG (decide (2<deep)) r<6)(h:kG (decide (2<deep)) r<8):cj f (3-deep) r=(mkS 2 (Y abG (ah ((hdG r).tdiv 16) 1000%2) n_) bP 0 (ap f 2 (au r)).1 (ap f 3 (ap f 2 (au r)).2).1 [] [] [],(ap f 3 (ap f 2 (au r)).2).2):=by rw[st_eq hd,gK,if_neg E,if_pos h]
theorem st_C(E: ¬kG (decide (2<deep)) r<8)(h:kG (decide (2<deep)) r<10):cj f (3-deep) r=(mkS 3 bP bP 0 zE (ap f 3 (au r)).1 [] (aS f (3-(deep+1)) 3 (ap f 3 (au r)).2).1 (aS f (3-(deep+1)) 2 (aS f (3-(deep+1)) 3 (ap f 3 (au r)).2).2).1,(aS f (3-(deep+1)) 2 (aS f (3-(deep+1)) 3 (ap f 3 (au r)).2).2).2):=by have:=oZ (deep:=deep) (r:=r) M M;rw[st_eq hd,sb_eq this,gK,if_neg M,if_neg E,if_pos h]
theorem st_D(E: ¬kG (decide (2<deep)) r<10)(h:kG (decide (2<deep)) r<12):cj f (3-deep) r=(mkS 4 bP bP 0 zE (ap f 3 (nr (au r))).1 [] (aS f (3-(deep+1)) 3 (ap f 3 (nr (au r))).2).1 [],(aS f (3-(deep+1)) 3 (ap f 3 (nr (au r))).2).2):=by have:=oZ (deep:=deep) (r:=r) M M;rw[st_eq hd,sb_eq this,gK,if_neg M,if_neg M,if_neg E,if_pos h]
theorem st_E(E: ¬kG (decide (2<deep)) r<12)(h:kG (decide (2<deep)) r<14):cj f (3-deep) r=(mkS 5 bP bP 0 zE (ap f 3 (au r)).1 [] [] [],(ap f 3 (au r)).2):=by rw[st_eq hd,gK,if_neg M,if_neg M,if_neg M,if_neg E,if_pos h]
theorem st_F(E: ¬kG (decide (2<deep)) r<14)(h:kG (decide (2<deep)) r<15):cj f (3-deep) r=(mkS 6 (nmG f (hdG r)) (Y zGB4 (ah ((hdG r).tdiv 16) 1000%2) n_) 0 zE zE (bT f (2-ah ((hdG r).tdiv 16) 1000%2) (au r)).1 [] [],(bT f (2-ah ((hdG r).tdiv 16) 1000%2) (au r)).2):=by rw[st_eq hd,gK,if_neg M,if_neg M,if_neg M,if_neg M,if_neg E,if_pos h]
theorem st_G(E: ¬kG (decide (2<deep)) r<15):cj f (3-deep) r=(mkS 7 bP bP (ah ((hdG r).tdiv 16) 1000) zE zE [] [] [],au r):=by rw[st_eq hd,gK,if_neg M,if_neg M,if_neg M,if_neg M,if_neg M,if_neg E]
end
def GenAll(ex:FuncId)(N:Nat):Prop:=
 (∀{U:Option Addr} {al:Nat} {E:Nat} (r:RdT) (u:Int) (deep:Nat) (an:Nat) {F:Fz} {H:Heap} {R:List Fp} (hs:HS (.of H [E]) F H [[(E,.cells [(sL U (Q r.l) al),(iI r.n)] none false)]] R) (hr_0:SR F (sL U (Q r.l) al) r.l) (hr_1:in64 r.n) (hd:deep<=3) (hm5:an<=5) (hm:2 *(4-deep)+1<N),C Tryz.prog 0 (KX ex) 18 [(pT E 0),(iI u),(iI (deep:Int)),(iI (an:Int))] H λv H'=> ∃ax,∃(kx:Nat) (x:List StmT) (O:RdT),∃T,∃(Z:Nat),∃F',F.le F'/\HS (.of H [E]) F' H' [[(E,.cells [(sL T (Q O.l) Z),(iI O.n)] none false)]] R/\v=sL ax (Q x) kx/\SR F' (sL ax (Q x) kx) x/\in64 O.n/\SR F' (sL T (Q O.l) Z) O.l/\x=(aS u (3-deep) an r).1/\O=(aS u (3-deep) an r).2)/\
 (∀{U:Option Addr} {al:Nat} {E:Nat} (r:RdT) (u:Int) (deep:Nat) {F:Fz} {H:Heap} {R:List Fp} (hs:HS (.of H [E]) F H [[(E,.cells [(sL U (Q r.l) al),(iI r.n)] none false)]] R) (hr_0:SR F (sL U (Q r.l) al) r.l) (hr_1:in64 r.n) (hd:deep<=3) (hm:2 *(4-deep)<N),C Tryz.prog 0 (KX ex) 48 [(pT E 0),(iI u),(iI (deep:Int))] H λv H'=> ∃(x:StmT),∃a7,∃(a8:Nat),∃ar,∃(a3:Nat),∃aA,∃(a4:Nat),∃a1,∃(a5:Nat),∃a2,∃(a6:Nat) (O:RdT),∃T,∃(Z:Nat),∃F',F.le F'/\HS (.of H [E]) F' H' [[(E,.cells [(sL T (Q O.l) Z),(iI O.n)] none false)]] R/\v= .agg ⟨[iI x.j,tX x.pp.b,tX x.K.b,iI x.n,iI x.G2.j,iI x.G2.n,tX x.G2.pp.b,iI x.G2.op,sL a7 (Q x.G2.I) a8,iI x.val.j,iI x.val.n,tX x.val.pp.b,iI x.val.op,sL ar (Q x.val.I) a3,sL aA (Q x.y) a4,sL a1 (Q x.G4) a5,sL a2 (Q x.G7) a6]⟩/\in64 x.j/\in64 x.n/\in64 x.G2.j/\in64 x.G2.n/\in64 x.G2.op/\in64 x.val.j/\in64 x.val.n/\in64 x.val.op/\SR F' (sL a7 (Q x.G2.I) a8) x.G2.I/\SR F' (sL ar (Q x.val.I) a3) x.val.I/\SR F' (sL aA (Q x.y) a4) x.y/\SR F' (sL a1 (Q x.G4) a5) x.G4/\SR F' (sL a2 (Q x.G7) a6) x.G7/\in64 O.n/\SR F' (sL T (Q O.l) Z) O.l/\x=(cj u (3-deep) r).1/\O=(cj u (3-deep) r).2)
theorem gstmts_c_s{a8 bn cp}(r:RdT)(u:Int)(deep:Nat)(ar:Nat)(hs:HS (.of H [cp]) F H [(fP cp [(S_ a8 r.l bn),r.n])] R)(e0:Sr F a8 r.l bn)(g8:in64 r.n)(hd:deep<=3)(fd:ar<=5)(N:Nat)(ih:GenAll ex N)(hm:2 *(4-deep)+1<N+1):kKt ex 18 [(pT cp 0),u,(deep:Int),(ar:Int)] H λv H'=> ∃ax,∃(kx:Nat) (x:List StmT) (r':RdT),∃a7,∃(bl:Nat),∃F',F.le F'/\HS (.of H [cp]) F' H' [(fP cp [(S_ a7 r'.l bl),r'.n])] R/\v=sL ax (Q x) kx/\Sr F' ax x kx/\in64 r'.n/\Sr F' a7 r'.l bl/\x=(aS u (3-deep) ar r).1/\r'=(aS u (3-deep) ar r).2:=by
 refine ay Tryz.func18 V V (aj 1 V (wr 2 [] 8 8 [] [(8,(sL _ 0 0))] trivial V V λ_=>wr 3 [] 1 0 [9] [(9,(sL _ 0 0))] trivial V V λ_=>ab (zm (pT cp 0) ?_)));refine zc (ga.kJ ex r (g_ hs V) e0 M) ?_;rintro _ H3 ⟨x3,fu,ea,em,F3,d4,bf,rfl,ee,bw,rfl,rfl,h3⟩;replace bf:=hs.bO bf;have fb:=aF (hdG r) (ar+1);refine wro 4 2 [(4,.o (.int _ _))] 13 15 [10] [(10,(.int _ _))] (vA (vi) (vA (ga.aE ex _ (ar+1) H3 M) trivial)) V V λ_=>ai 2 V ?_
 have d5:=HS.snoc bf;refine ak (λ(mm:Nat) f H'=> ∃(l:List StmT) (k:Nat) (rr:RdT),∃Z,∃(al:Nat),∃an O,∃(T:Nat),∃F',F3.le F'/\HS _ F' H' [[(cp,.cells [(S_ O rr.l T),(.int _ rr.n)] _ _)],an] R/\OZ F' Z l al an/\Sr F' O rr.l T/\aI f [(0,(pT cp 0)),(1,(.int _ u)),(2,(.int _ _)),(9,(S_ Z l al)),(10,(.int _ (k:Int)))]/\mm=k+1/\(aS u _ _ r=(l++(jT _ k rr).1,(jT (cj u (3-deep)) k rr).2))/\(Q l+k<=6)/\(in64 rr.n)) _ ⟨zGB2,_,_,_,0,[],_,_,_,fR,d5,(OS.nil:OS _ _ _ []),bw,f_,V,k_,(by have:=di (n:=hdG r) (m:=ar+1) M;show 0+_<=_;omega),M⟩ ?_;rintro fk f6 H6 ⟨l,k,rr,Z,al,an,O,T,F6,b0,a5,U,E,b1,rfl,hw,hl,hn⟩ d6;refine aw _ b1 (λ_=>?_);clear b1;refine aj 2 V (wrp 1 16 25 [] [(25,((decide ((0:Int)<(k:Int)))&&(decide ((0:Int)<(Q rr.l:Int)))))] (dj 6 (λ_=>(ql 26 0 (h_ a5 V) V V)) Hn_) V V λ_=>zI 3 5 (λc9=>?_) λc9=>?_)
 ·refine ab (wro 4 0 [] 28 31 [] [(28,(sL _ _ _)),(29,(pT cp 0)),(30,(.int _ u)),(31,(.int _ _))] trivial V V λ_=>zc (ih.2 rr u _ (g_ a5 V) E M M M) ?_);rintro _ e5 ⟨f1,d2,d8,ch,c8,ci,dk,co,dn,cL,dt,e2,d1,d7,e3,a9,a4,rfl,c0,c3,c4,c5,c6,c7,b3,b4,a6,aA,a1,a2,a3,d3,bt,rfl,rfl⟩;replace a4:=a5.bO a4;have U:=U.ac a9;refine zlo _ a4 V (RL.cs (StmT.mq a6 aA a1 a2 a3) RL.nl) V λe8 fi fq e6 b5 bb=>zao 1 U bb (OS.sv b5 bb (i:=2) V) V V V M λbF b2 d9 e7 b6 b8=>za (sL bF _ b2) (ai 2 V (wr 1 [(1,.e ((k-1:Nat):Int))] 26 27 [10] [(10,(.int _ _))] (vA (ve M M) trivial) V V λ_=>?_))
  refine d6 _ _ _ ?_ ⟨_,_,_,bF,b2,d9,_,_,_,(fT (b0) a9),(HS.sub b8 (a06 _ _)),b6,bt,f_,V,(by rw[hw];exact row_s M (ne_nil M)),(by rw[a00,a0v];omega),M⟩;omega
 refine wr 1 [] 8 8 [35] [(8,(sL _ _ _))] trivial V V λ_=>?_
 have⟨e4,ba,b9,b7,e1⟩:=OS.Gi U a5 (i:=1) V;have E:=E.ac ba;refine ag ⟨.inr V,_,V,_,_,l,rr,_,_,_,(fT (fT (d4) b0) ba),(HS.G9 b9),V,b7,M,E,(by(rw[hw,row_n M]<;>first|rfl|exact(a0k _).symm)),(by(rw[hw,row_n M]<;>first|rfl|exact(a0k _).symm))⟩
theorem gstmt_c_s{d9 f6 ar}(r:RdT)(u:Int)(deep:Nat)(hs:HS (.of H [ar]) F H [(fP ar [(S_ d9 r.l f6),r.n])] R)(ro:Sr F d9 r.l f6)(sQ:in64 r.n)(hd:deep<=3)(N:Nat)(ih:GenAll ex N)(hm:2 *(4-deep)<N+1):kKt ex 48 [(pT ar 0),u,(deep:Int)] H λv H'=> ∃(x:StmT),∃et,∃(go:Nat),∃c3,∃(c9:Nat),∃c4,∃(dk:Nat),∃c5,∃(dn:Nat),∃c6,∃(dt:Nat) (r':RdT),∃d8,∃(f5:Nat),∃F',F.le F'/\HS (.of H [ar]) F' H' [(fP ar [(S_ d8 r'.l f5),r'.n])] R/\v= .agg ⟨[iI x.j,tX x.pp.b,tX x.K.b,iI x.n,iI x.G2.j,iI x.G2.n,tX x.G2.pp.b,iI x.G2.op,sL et (Q x.G2.I) go,iI x.val.j,iI x.val.n,tX x.val.pp.b,iI x.val.op,sL c3 (Q x.val.I) c9,sL c4 (Q x.y) dk,sL c5 (Q x.G4) dn,sL c6 (Q x.G7) dt]⟩/\in64 x.j/\in64 x.n/\in64 x.G2.j/\in64 x.G2.n/\in64 x.G2.op/\in64 x.val.j/\in64 x.val.n/\in64 x.val.op/\Sr F' et x.G2.I go/\Sr F' c3 x.val.I c9/\Sr F' c4 x.y dk/\Sr F' c5 x.G4 dn/\Sr F' c6 x.G7 dt/\in64 r'.n/\Sr F' d8 r'.l f5/\x=(cj u (3-deep) r).1/\r'=(cj u (3-deep) r).2:=by
 refine ay Tryz.func48 V V (aj 1 V (ab (zn hs V λb1 H2 hz=>ai 2 V (ab ?_))));refine zm (pT ar 0) (zc (ga.kJ ex r (g_ hz V) ro M) ?_);rintro _ H3 ⟨x3,rE,hf,hv,F3,ba,c7,rfl,pZ,T,rfl,rfl,h3⟩;replace c7:=hz.bO c7;refine za (.int _ _) (ai 2 V (ab (zm _ (zc (ga.gnames_c ex u (HS.call c7)) ?_))));rintro _ H4 ⟨c0,c8,x4,F4,a9,E,rfl,a7,rfl⟩;replace E:=HS.G8 c7 V E;have T:=T.ac a9;refine za (sL c0 _ c8) (ai 2 V ?_);have rF:in64 (hdG r)->in64 (Int.tdiv (hdG r) 16):=λh=>vq h e_
 have rv:=aF (Int.tdiv (hdG r) 16) 1000;refine wr 2 [(2,.o (.int _ _))] 19 21 [9] [(9,(.int _ _))] (vA (vA (show(16:Int)≠0 from by decide) (vq M e_)) (vA (ga.aE ex (Int.tdiv _ 16) 1000 H4 M) trivial)) V V λ_=>?_
 have rx:=aF (hdG r) 16;refine wr 3 [(1,.o (.int _ _))] 22 23 [10] [(10,(.int _ _))] (vA (ga.aE ex _ 16 H4 M) trivial) V V λ_=>wrp 1 24 44 [] [(44,((((decide ((2:Int)<(deep:Int)))&&(decide ((8:Int)<=((ah _ 16:Nat):Int))))&&(decide (((ah _ 16:Nat):Int)<12)))||((decide ((10:Int)<=(au r).n))&&(decide ((10:Int)<=((ah _ 16:Nat):Int))))))] (dj 14 (λ_=>(ql 3 1 (h_ E V) V V)) Hn_) V V λ_=>jg (λf H'=> ∃(k:Nat),H'=H4/\aI f [(0,(pT ar 0)),(1,u),(2,(deep:Int)),(6,(pT b1 0)),(8,(sL c0 (Q (bo u)) c8)),(9,((ah (Int.tdiv (hdG r) 16) 1000:Nat):Int)),(10,(k:Int))]/\(k=kG (decide (2<deep)) r)) (λf4=>?_) ?_
 ·refine zI 0 0 (λm7=>?_) λm7=>?_
  ·refine wr 0 [] 1 0 [10] [(10,(.int _ 0))] trivial V V λ_=>?_
   exact f4 _ _ ⟨0,V,f_,(kG_1 M).symm⟩
  exact f4 _ _ ⟨_,V,f_,(kG_2 M).symm⟩
 skip;rintro rn H4 ⟨k,rfl,e6,hk⟩;refine aw _ e6 (λ_=>?_);clear e6;have ry:=kG_lt (decide (2<deep)) r;refine aj 4 V (wr 1 [] 45 47 [] [(45,(decide ((k:Int)<6)))] trivial V V λ_=>zd 1 1 (λm9=>?_) λm9=>?_)
 ·refine az V (zfm (sL c0 _ c8) (zfm _ (zfm _ (bh (gY V V (SR.sv a7 E.G5)) V V (mS V) (lC _) (wfv (ap_mod V V (by(have:=nm_pos u;omega)) V) ?_)))));refine wfv (v:=(.pointer (some ⟨_,sO (sL c0 _ c8)+(Int.tmod _ _).toNat *Rp.sz Str,_⟩))) (dw V V V V (SR.sv a7 E.G5) (nm_ge _ _) (nm_lti _ _)) ?_;have⟨qg,hJ,hF⟩:=Sv.at (SR.sv a7 E.G5) (aT (x:=n_) (show(Int.tmod ((ah (Int.tdiv (hdG r) 16) 1000:Nat):Int) (Q (bo u):Int)).toNat<Q (bo u) from by exact nm_lt _ _));obtain rfl:=hJ;refine zl 0 hF (zfm (pT ar 0) (zfm _ (wcD [ar] (j:=0) E V V (ga.fN ex _ u 0 (HS.Gh E.G5 (i:=0) V) T M M) V V (⟨.inl V,.inl V,.inr (SR.nin a7 E (i:=0) V (by(have:=nm_pos u;omega))),l_⟩) ?_)));rintro _ qS ⟨rG,ea,f7,qC,l3,o7,ci,hA,bF,rfl,i0,i1,i2,d2,n4,g0,rfl,rfl⟩;refine⟨_,_,_,bF,λp0 bF=>?_⟩;refine wfv (v:=(aG [(iI 1),(tX (Y (bo u) ((Int.tmod ((ah (Int.tdiv (hdG r) 16) 1000:Nat):Int) (Q (bo u):Int)).toNat) n_).b),(tX []),(iI 0),(iI 0),(iI 0),(tX []),(iI 0),N_,((ap u (4-0) (au r)).1).j,((ap u (4-0) (au r)).1).n,(tX ((ap u (4-0) (au r)).1).pp.b),((ap u (4-0) (au r)).1).op,(sL ea (Q ((ap u (4-0) (au r)).1).I) f7),N_,N_,N_])) (lp V V K_) (ef (ck (q:=1) bF.G5 V V V V V V V V V) V (by rintro _ _ _ ⟨_,hwr⟩;exact dl V V (Wr.did hwr)) (kb V) ?_);rintro _ k6 _ ⟨bb,_⟩ h8 hh;replace bb:=HS.lg bb bF hh;generalize ({k6 with log:=h8}:Heap)=p1 at bb⊢;refine fE (aj 1 V (ag ⟨.inr V,_,(rC V (bV V V (i_ bb V) V) rN),(⟨1,_,_,0,zGB1,_,zGB3,zGB2,zGB2⟩:StmT),_,0,_,_,_,0,_,0,_,0,_,_,_,_,(fT (fT (ba) a9) hA),(HS.G9 bb),V,M,M,M,M,M,M,M,M,(SR.nil:SR ci _ _),d2,(SR.nil:SR ci _ _),(SR.nil:SR ci _ _),(SR.nil:SR ci _ _),M,g0,(by(rw[st_A (r:=r) hd M]<;>first|rfl|(simp only[dX9,Nat.reduceSub];done)|(simp only[dX9,Nat.reduceSub];rfl))),(by(rw[st_A (r:=r) hd M]<;>first|rfl|(simp only[dX9,Nat.reduceSub];done)|(simp only[dX9,Nat.reduceSub];rfl)))⟩))
 refine wr 1 [] 59 61 [] [(59,(decide ((k:Int)<8)))] trivial V V λ_=>zd 1 1 (λnc=>?_) λnc=>?_
 ·refine az V (kv (ja zGB5 E.G5 V V V V ⟨_,_,V,V,⟨_,[],V,V,V⟩⟩ V) V V (λ_ _ _ _=>did_n V V V) trivial ?_);rintro _ k7 rB ⟨lx,o4,rfl,a4,aA,_⟩ h9 hl;replace aA:=HS.lg aA E hl;generalize ({k7 with log:=h9}:Heap)=p2 at aA⊢;refine zfm _ (wfv (v:=(.int _ (((ah _ _)%2:Nat):Int))) (ap_mod V V e_ V) (wfv (v:=(.pointer (some ⟨_,sO (sL lx _ o4)+((ah _ _)%2) *Rp.sz Str,_⟩))) (dw (j:=(((ah _ _)%2:Nat):Int)) V V V V (OS.sv a4 aA.G5 (i:=2) V) M (by(show _<2;omega))) ?_));have⟨qh,hK,hG⟩:=Sv.at (OS.sv a4 aA.G5 (i:=2) V) (aT (x:=n_) (show(ah (Int.tdiv (hdG r) 16) 1000)%2<Q zGB5 from by(show _<2;omega)));obtain rfl:=hK;refine zl 0 hG (zfm (pT ar 0) (zfm _ (wcD [ar] (j:=0) aA V V (ga.fN ex _ u 2 (HS.Gh aA.G5 (i:=0) V) T M M) V V (⟨.inl V,.inl V,.inr (os_nin (m:=0) a4 aA (i:=2) (j:=0) V V e_ e_),.inr trivial,.inr trivial,.inr trivial,.inr (HS.ownlt E (i:=0) V),trivial⟩) ?_)));rintro _ qT ⟨rH,ee,f9,qD,l5,o8,qM,ez,bf,rfl,i3,i9,jw,a5,n5,g1,rfl,rfl⟩;refine⟨_,_,_,bf,λp3 bf=>?_⟩;have a4:=a4.ac ez;refine zfm (pT ar 0) (zfm _ (wcD [ar] (j:=0) bf V V (ga.fN ex _ u 1 (HS.Gh bf.G5 (i:=0) V) g1 M M) V V (⟨.inl V,.inl V,.inl V,.inl V,.inl V,.inr (os_nin (m:=0) a4 bf (i:=2) (j:=0) V V e_ e_),.inr trivial,.inr trivial,.inr trivial,.inr (HS.ownlt E (i:=0) V),trivial⟩) ?_));rintro _ qU ⟨rI,em,gm,qE,ma,o9,d6,e0,b0,rfl,jA,j1,j2,d3,n6,g2,rfl,rfl⟩;refine⟨_,_,_,b0,λp4 b0=>?_⟩;have a5:=a5.ac e0;refine wfv (v:=(aG [(iI 2),(tX (Y zGB5 ((ah (Int.tdiv (hdG r) 16) 1000)%2) n_).b),(tX []),(iI 0),((ap u (4-2) (au r)).1).j,((ap u (4-2) (au r)).1).n,(tX ((ap u (4-2) (au r)).1).pp.b),((ap u (4-2) (au r)).1).op,(sL ee (Q ((ap u (4-2) (au r)).1).I) f9),(((ap u (4-1) ((ap u (4-2) (au r)).2)).1).j),(((ap u (4-1) ((ap u (4-2) (au r)).2)).1).n),(tX ((ap u (4-1) ((ap u (4-2) (au r)).2)).1).pp.b),(((ap u (4-1) ((ap u (4-2) (au r)).2)).1).op),(sL em (Q (((ap u (4-1) ((ap u (4-2) (au r)).2)).1).I)) gm),N_,N_,N_])) (lp V V K_) (ef (id:= .x [b1]) (ck (q:=1) b0.G5 V V V V V V V V V) V (by rintro _ _ _ ⟨_,hwr⟩;exact dl V V (Wr.did hwr)) (kb V) ?_);rintro _ k8 _ ⟨bl,_⟩ ia ho;replace bl:=HS.lg bl b0 ho;generalize ({k8 with log:=ia}:Heap)=p5 at bl⊢;refine fE (aj 1 V (ag ⟨.inr V,_,(rC V (bV V V (i_ bl V) V) rN),(⟨2,_,_,0,_,_,zGB3,zGB2,zGB2⟩:StmT),_,_,_,_,_,0,_,0,_,0,_,_,_,_,(fT (fT (fT (ba) a9) ez) e0),(HS.G9 bl),V,M,M,M,M,M,M,M,M,a5,d3,(SR.nil:SR d6 _ _),(SR.nil:SR d6 _ _),(SR.nil:SR d6 _ _),M,g2,(by(rw[st_B (r:=r) hd M M]<;>first|rfl|(simp only[dX9,Nat.reduceSub];done)|(simp only[dX9,Nat.reduceSub];rfl))),(by(rw[st_B (r:=r) hd M M]<;>first|rfl|(simp only[dX9,Nat.reduceSub];done)|(simp only[dX9,Nat.reduceSub];rfl)))⟩))
 refine wr 1 [] 74 76 [] [(74,(decide ((k:Int)<10)))] trivial V V λ_=>zd 1 1 (λnn=>?_) λnn=>?_
 ·have sk:=oZ (deep:=deep) (r:=r) M M;refine ab (cu 2 0 77 78 [] [(77,(pT ar 0)),(78,(.int _ u))] Hn_ V V λ_=>zc (ga.fN ex _ u 1 (g_ E V) T M M) ?_);rintro _ qV ⟨rJ,m1,pS,qF,mf,pi,qN,hB,b5,rfl,kd,ki,kk,a6,n7,g3,rfl,rfl⟩;replace b5:=E.bO b5;refine cu 1 3 80 80 [] [(80,(aG [_,_,_,_,_,_,_,_,_,_,_,_,_,_,_,_,_]))] Hn_ V V λ_=>zn b5 V λrl qW hS=>sgo 1 5 1 0 [] [] (Hr_ 5 2 Hn_) hS V V λqi qX fb=>ai 2 V (ab (cu 4 0 81 84 [] [(81,(pT ar 0)),(82,(.int _ u)),(84,(.int _ _))] (Ha_ (vi) Hn_) V V λ_=>?_))
  refine zc (ih.1 _ u (deep+1) 3 (g_ fb V) g3 M M M M) ?_;rintro _ qY ⟨qb,qy,rK,qG,mg,pj,qO,e1,b6,rfl,bw,oo,g4,rfl,rfl⟩;replace b6:=fb.bO b6;refine sgo 2 5 86 86 [] [] (Hr_ 6 2 Hn_) b6 V V λqj qZ fd=>ai 2 V (ab (cu 4 0 87 90 [] [(87,(pT ar 0)),(88,(.int _ u)),(90,(.int _ _))] (Ha_ (vi) Hn_) V V λ_=>zc (ih.1 _ u (deep+1) 2 (g_ fd V) g4 M M M M) ?_))
  rintro _ q0 ⟨qc,qz,rL,qH,mp,pl,hx,b4,b7,rfl,ht,ox,g5,rfl,rfl⟩;replace b7:=fd.bO b7;replace a6:=(a6.ac e1).ac b4;have bw:=bw.ac b4;refine sgo 2 5 92 92 [] [] (Hr_ 6 2 Hn_) b7 V V λqk q1 hT=>ai 2 V (sgr 1 93 93 [] [] (Hr_ 0 2 (Hr_ 1 1 Hn_)) hT V V λqm q2 fi=>ag ⟨.inr V,_,(rC V (bV V V (i_ fi V) V) rN),(⟨3,_,_,0,zGB1,_,zGB3,_,_⟩:StmT),_,0,_,_,_,0,_,_,_,_,_,_,_,_,(fT (fT (fT (fT (ba) a9) hB) e1) b4),(HS.G9 fi),V,M,M,M,M,M,M,M,M,(SR.nil:SR hx _ _),a6,(SR.nil:SR hx _ _),bw,ht,M,g5,(by(rw[st_C (r:=r) hd M M]<;>first|rfl|(simp only[dX9,Nat.reduceSub];done)|(simp only[dX9,Nat.reduceSub];rfl))),(by(rw[st_C (r:=r) hd M M]<;>first|rfl|(simp only[dX9,Nat.reduceSub];done)|(simp only[dX9,Nat.reduceSub];rfl)))⟩)
 refine wr 1 [] 94 96 [] [(94,(decide ((k:Int)<12)))] trivial V V λ_=>zd 1 1 (λc45=>?_) λc45=>?_
 ·have sk:=oZ (deep:=deep) (r:=r) M M;have s2:=kG_loops (flat:=decide (2<deep)) (r:=r) M;refine sgr 2 97 103 [] [] (Hr_ 3 0 (Ha_ (vi) (Hr_ 7 0 Hn_))) E V V λqo q3 fk=>ab (cu 2 0 104 105 [] [(104,(pT ar 0)),(105,(.int _ u))] Hn_ V V λ_=>zc (ga.fN ex (⟨(au r).l,(au r).n+1⟩:RdT) u 1 (g_ fk V) T M M) ?_)
  rintro _ q4 ⟨rM,m2,pU,qI,ms,pm,qP,hC,b8,rfl,kl,kn,kt,a8,o0,g6,rfl,rfl⟩;replace b8:=fk.bO b8;refine cu 1 3 107 107 [] [(107,(aG [_,_,_,_,_,_,_,_,_,_,_,_,_,_,_,_,_]))] Hn_ V V λ_=>zn b8 V λrm q5 hV=>sgo 1 5 1 0 [] [] (Hr_ 5 2 Hn_) hV V V λqp q6 fq=>ai 2 V (ab (cu 4 0 108 111 [] [(108,(pT ar 0)),(109,(.int _ u)),(111,(.int _ _))] (Ha_ (vi) Hn_) V V λ_=>?_))
  refine zc (ih.1 _ u (deep+1) 3 (g_ fq V) g6 M M M M) ?_;rintro _ q7 ⟨qd,qA,rO,qJ,mv,pv,d7,e2,b9,rfl,hu,o1,g7,rfl,rfl⟩;replace b9:=fq.bO b9;have a8:=a8.ac e2;refine sgo 2 5 113 113 [] [] (Hr_ 6 2 Hn_) b9 V V λqq q8 hW=>ai 2 V (sgr 1 114 114 [] [] (Hr_ 0 2 (Hr_ 1 1 Hn_)) hW V V λqr q9 fu=>ag ⟨.inr V,_,(rC V (bV V V (i_ fu V) V) rN),(⟨4,_,_,0,zGB1,_,zGB3,_,zGB2⟩:StmT),_,0,_,_,_,0,_,_,_,0,_,_,_,_,(fT (fT (fT (ba) a9) hC) e2),(HS.G9 fu),V,M,M,M,M,M,M,M,M,(SR.nil:SR d7 _ _),a8,(SR.nil:SR d7 _ _),hu,(SR.nil:SR d7 _ _),M,g7,(by(rw[st_D (r:=r) hd M M]<;>first|rfl|(simp only[dX9,Nat.reduceSub];done)|(simp only[dX9,Nat.reduceSub];rfl))),(by(rw[st_D (r:=r) hd M M]<;>first|rfl|(simp only[dX9,Nat.reduceSub];done)|(simp only[dX9,Nat.reduceSub];rfl)))⟩)
 refine wr 1 [] 115 117 [] [(115,(decide ((k:Int)<14)))] trivial V V λ_=>zd 1 1 (λn1=>?_) λn1=>?_
 ·refine ab (cu 2 0 118 119 [] [(118,(pT ar 0)),(119,(.int _ u))] Hn_ V V λ_=>zc (ga.fN ex _ u 1 (g_ E V) T M M) ?_);rintro _ ra ⟨rP,m3,pV,qK,mx,px,co,hD,ch,rfl,kx,kA,k0,d4,o2,g8,rfl,rfl⟩;replace ch:=E.bO ch;refine sgo 2 3 121 121 [] [] (Hr_ 4 1 Hn_) ch V V λqs rb f1=>ai 1 V (ag ⟨.inr V,_,(rC V (bV V V (i_ f1 V) V) rN),(⟨5,_,_,0,zGB1,_,zGB3,zGB2,zGB2⟩:StmT),_,0,_,_,_,0,_,0,_,0,_,_,_,_,(fT (fT (ba) a9) hD),(HS.G9 f1),V,M,M,M,M,M,M,M,M,(SR.nil:SR co _ _),d4,(SR.nil:SR co _ _),(SR.nil:SR co _ _),(SR.nil:SR co _ _),M,g8,(by(rw[st_E (r:=r) hd M M]<;>first|rfl|(simp only[dX9,Nat.reduceSub];done)|(simp only[dX9,Nat.reduceSub];rfl))),(by(rw[st_E (r:=r) hd M M]<;>first|rfl|(simp only[dX9,Nat.reduceSub];done)|(simp only[dX9,Nat.reduceSub];rfl)))⟩)
 refine wr 1 [] 122 124 [] [(122,(decide ((k:Int)<15)))] trivial V V λ_=>zd 1 3 (λn2=>?_) λn2=>?_
 ·refine az V ?_;have⟨qe,h5⟩:=Sv.Gg (SR.sv a7 E);refine cC 7 125 131 [] [(131,(tX (Y (bo u) _ _).b))] (Ha_ (show(Q (bo u):Int)≠0 from by(have:=nm_pos u;omega)) (Ha_ (Sv.ix (SR.sv a7 E) (nm_ge _ _) (nm_lti _ _)) (Hl_ 6 (ql 9 0 (hc0 (vS (h5 (Int.tmod _ _).toNat) (nm_lt _ _))) V V) Hn_))) E V V λ_=>kv (ja zGB4 E.G5 V V V V ⟨_,_,V,V,⟨_,[],V,V,V⟩⟩ V) V V (λ_ _ _ _=>did_n V V V) (kb V) ?_
  rintro _ k9 pX ⟨rj,rz,rfl,e8,a1,_⟩ ik hp;replace a1:=HS.lg a1 E hp;generalize ({k9 with log:=ik}:Heap)=p6 at a1⊢;have⟨qf,h6⟩:=Sv.Gg (OS.sv e8 a1 (i:=2) V);refine cC 5 133 137 [] [(137,(aG [_,_,_,_,_,_,_,_,_,_,_,_,_,_,_,_,_]))] (Ha_ (show(2:Int)≠0 from by decide) (Ha_ (Sv.ix (OS.sv e8 a1 (i:=2) V) M (show(((ah _ _)%2:Nat):Int)<(2:Int) from by omega)) (Hl_ 11 (ql 9 0 (hc0 (vS (h6 ((ah _ _)%2)) (show(ah _ _)%2<2 from by omega))) V V) Hn_))) a1 V V λ_=>kv (nG a1.G5 V) V V (λ_ _ _ _=>did_n V V V) (kb V) ?_
  rintro _ ll _ ⟨hy,rfl,b2,_⟩ it hq;replace b2:=HS.lg b2 a1 hq;generalize ({ll with log:=it}:Heap)=p7 at b2⊢;refine sdo 1 1 0 [] [] (Hr_ 14 3 Hn_) b2 V V λqt rc hX=>aQ 3 V (wr 2 [] 1 0 [14] [(14,(.int _ 0))] trivial V V λ_=>?_)
  have h0:=HS.snoc hX;refine ak (λ(mm:Nat) f H'=> ∃(al:List ExpT) (j:Nat) (rr:RdT),∃a2,∃(a3:Nat),∃an U,∃(Z:Nat),∃F',F4.le F'/\HS _ F' H' [[(ar,.cells [(S_ a2 rr.l a3),(.int _ rr.n)] _ _)],[(b1,.cells [_,(tX []),(tX []),_,_,_,(tX []),_,_,_,_,(tX []),_,_,_,_,_] _ _)],pX,[(hy,.cells [_,_,_,_,_,_,_,_,_,_,_,_,_,_,(S_ U al Z),_,_] _ _)],an] R/\Sr F' a2 rr.l a3/\OZ F' U al Z an/\aI f [(0,(pT ar 0)),(1,u),(6,(pT b1 0)),(9,((ah (Int.tdiv (hdG r) 16) 1000:Nat):Int)),(13,(pT hy 0)),(14,(j:Int))]/\mm=2-ah ((hdG r).tdiv 16) 1000%2-j/\(bT u (2-ah ((hdG r).tdiv 16) 1000%2) (au r)=(al++(bT u (2-ah ((hdG r).tdiv 16) 1000%2-j) rr).1,(bT u (2-ah ((hdG r).tdiv 16) 1000%2-j) rr).2))/\(in64 rr.n)/\(j<=2-ah ((hdG r).tdiv 16) 1000%2)/\(Q al=j)) _ ⟨zGB3,0,(au r),hf,hv,[],none,0,_,fR,h0,T,(OS.nil:OS _ N_ zGB3 []),f_,V,k_,M,M,k_⟩ ?_;rintro qB rq re ⟨al,j,rr,a2,a3,an,U,Z,qQ,e3,bn,ax,O,e7,rfl,hw,hn,hj,hal⟩ h7;refine aw _ e7 (λ_=>?_);clear e7;refine aj 2 V (wr 1 [(3,.e ((2-((ah _ _)%2):Nat):Int))] 138 142 [] [(142,(decide ((j:Int)<((2-((ah _ _)%2):Nat):Int))))] (vA (show(2:Int)≠0 from by decide) (vA (ve (n:=2-(((ah _ _)%2:Nat):Int)) (m:=((2-((ah (Int.tdiv (hdG r) 16) 1000)%2):Nat):Int)) M M) trivial)) V V λ_=>zd 3 5 (λn3=>?_) λn3=>?_)
  ·refine az V (cC 4 145 148 [] [(146,(sL _ _ _)),(147,(pT ar 0)),(148,(.int _ u))] (Hr_ 1 3 Hn_) bn V V λ_=>wcD [ar] (j:=0) bn V V (ga.fN ex rr u 2 (HS.Gh bn.G5 (i:=0) V) ax M M) V V (⟨.inl V,.inl V,.inr (HS.nin bn (i:=3) (j:=0) V V e_ (List.Mem.head _)),l_⟩) ?_);rintro _ rf ⟨rQ,m6,pW,qL,m0,pA,qR,e4,b3,rfl,k3,k4,k5,d5,o3,g9,rfl,rfl⟩;refine⟨_,_,_,b3,λp8 b3=>?_⟩;have O:=O.ac e4;refine kv (ja [(ap u _ rr).1] b3.G5 V V V V ⟨_,[],V,(ExpT.mkr ⟨_,_,V,M,M,M,d5⟩),V⟩ V) V V (λ_ _ _ _=>did_n V V V) (kb V) ?_;rintro _ lr rD ⟨rk,rA,rfl,hH,bt,_⟩ iv hr;replace bt:=HS.lg bt b3 hr;generalize ({lr with log:=iv}:Heap)=p9 at bt⊢;refine zad 4 O bt (OS.sv hH bt (i:=5) V) V V V M (kb V) λlz o6 pY qa hI h1=>sdo 2 152 152 [] [] (Hr_ 8 3 Hn_) h1 V V λqu rg h2=>aQ 2 V (wr 1 [] 143 144 [14] [(14,(.int _ _))] (vA (vi) trivial) V V λ_=>?_)
   refine h7 _ _ _ ?_ ⟨_,j+1,_,_,_,pY,lz,o6,_,(fT (e3) e4),(HS.sub h2 (a06 _ _)),g9,hI,f_,V,(by rw[hw];exact args_s M),M,M,(by rw[a00,a0v];omega)⟩;omega
  refine sgr 1 153 153 [] [] (Hr_ 0 3 (Hr_ 1 1 Hn_)) bn V V λqv rh f2=>?_
  have⟨cL,e5,h4,hQ,qx⟩:=OS.Gi O f2 (i:=4) V;have ax:=ax.ac e5;refine ag ⟨.inr V,_,(rC V (bV V V (i_ f2 V) V) rN),(⟨6,_,_,0,zGB1,zGB1,al,zGB2,zGB2⟩:StmT),_,0,_,0,_,_,_,0,_,0,rr,_,_,_,(fT (fT (fT (ba) a9) e3) e5),(HS.G9 h4),V,M,M,M,M,M,M,M,M,(SR.nil:SR cL _ _),(SR.nil:SR cL _ _),hQ,(SR.nil:SR cL _ _),(SR.nil:SR cL _ _),M,ax,(by(rw[st_F (r:=r) hd M M,hw,args_n M]<;>first|rfl|(rw[a0k]<;>rfl)|(simp only[dX9,Nat.reduceSub];done)|(simp only[dX9,Nat.reduceSub];rfl))),(by(rw[st_F (r:=r) hd M M,hw,args_n M]<;>first|rfl|(rw[a0k]<;>rfl)|(simp only[dX9,Nat.reduceSub];done)|(simp only[dX9,Nat.reduceSub];rfl)))⟩
 refine sgr 1 154 155 [] [] (Hr_ 2 1 Hn_) E V V λqw ri f3=>ag ⟨.inr V,_,(rC V (bV V V (i_ f3 V) V) rN),(⟨7,_,_,((ah _ _:Nat):Int),zGB1,zGB1,zGB3,zGB2,zGB2⟩:StmT),_,0,_,0,_,0,_,0,_,0,_,_,_,_,(fT (ba) a9),(HS.G9 f3),V,M,M,M,M,M,M,M,M,(SR.nil:SR F4 _ _),(SR.nil:SR F4 _ _),(SR.nil:SR F4 _ _),(SR.nil:SR F4 _ _),(SR.nil:SR F4 _ _),M,T,(by(rw[st_G (r:=r) hd M]<;>first|rfl|(simp only[dX9,Nat.reduceSub];done)|(simp only[dX9,Nat.reduceSub];rfl))),(by(rw[st_G (r:=r) hd M]<;>first|rfl|(simp only[dX9,Nat.reduceSub];done)|(simp only[dX9,Nat.reduceSub];rfl)))⟩
theorem iV(ex:FuncId): ∀N,GenAll ex N
 |0=>⟨by intros;omega,by intros;omega⟩
 |N+1=>⟨by intros;apply gstmts_c_s ex (N:=N) (ih:=iV ex N)<;>assumption,by intros;apply gstmt_c_s ex (N:=N) (ih:=iV ex N)<;>assumption⟩
theorem gstmts_c{O U an}(r:RdT)(u:Int)(deep:Nat)(al:Nat)(hs:HS (.of H [an]) F H [(fP an [(S_ O r.l U),r.n])] R)(a2:Sr F O r.l U)(a3:in64 r.n)(hd:deep<=3)(Z:al<=5):kKt ex 18 [(pT an 0),u,(deep:Int),(al:Int)] H λv H'=> ∃ax,∃(kx:Nat) (x:List StmT) (r':RdT),∃E,∃(T:Nat),∃F',F.le F'/\HS (.of H [an]) F' H' [(fP an [(S_ E r'.l T),r'.n])] R/\v=sL ax (Q x) kx/\Sr F' ax x kx/\in64 r'.n/\Sr F' E r'.l T/\x=(aS u (3-deep) al r).1/\r'=(aS u (3-deep) al r).2:=by apply(iV ex (2 *(4-deep)+1+1)).1<;>first|assumption|exact a0y _
theorem gstmt_c{a1 a4 ar}(r:RdT)(u:Int)(deep:Nat)(hs:HS (.of H [ar]) F H [(fP ar [(S_ a1 r.l a4),r.n])] R)(bw:Sr F a1 r.l a4)(bF:in64 r.n)(hd:deep<=3):kKt ex 48 [(pT ar 0),u,(deep:Int)] H λv H'=> ∃(x:StmT),∃a2,∃(a5:Nat),∃E,∃(Z:Nat),∃O,∃(al:Nat),∃T,∃(an:Nat),∃U,∃(ax:Nat) (r':RdT),∃aA,∃(a3:Nat),∃F',F.le F'/\HS (.of H [ar]) F' H' [(fP ar [(S_ aA r'.l a3),r'.n])] R/\v= .agg ⟨[iI x.j,tX x.pp.b,tX x.K.b,iI x.n,iI x.G2.j,iI x.G2.n,tX x.G2.pp.b,iI x.G2.op,sL a2 (Q x.G2.I) a5,iI x.val.j,iI x.val.n,tX x.val.pp.b,iI x.val.op,sL E (Q x.val.I) Z,sL O (Q x.y) al,sL T (Q x.G4) an,sL U (Q x.G7) ax]⟩/\in64 x.j/\in64 x.n/\in64 x.G2.j/\in64 x.G2.n/\in64 x.G2.op/\in64 x.val.j/\in64 x.val.n/\in64 x.val.op/\Sr F' a2 x.G2.I a5/\Sr F' E x.val.I Z/\Sr F' O x.y al/\Sr F' T x.G4 an/\Sr F' U x.G7 ax/\in64 r'.n/\Sr F' aA r'.l a3/\x=(cj u (3-deep) r).1/\r'=(cj u (3-deep) r).2:=by apply(iV ex (2 *(4-deep)+1)).2<;>first|assumption|exact a0y _
theorem gprog_c{nd qi}(l:List Int)(hs:Hb H F H [] R)(hl:Sr F nd l qi):kKt ex 6 [(S_ nd l qi)] H λv H'=> ∃(x:PrgT),∃e1,∃(fd:Nat),∃e2,∃(fi:Nat),∃F',F.le F'/\Hb H F' H' [] R/\v= .agg ⟨[sL e1 (Q x.d) fd,sL e2 (Q x.U) fi]⟩/\Sr F' e1 x.d fd/\Sr F' e2 x.U fi/\x=bm l:=by
 have rk:=take60 l;refine ay Tryz.func6 V V (aj 1 V (ab (zn hs V λb1 H2 i2=>ai 2 V (ab ?_))));refine zlo ([]:List Int) i2 V RL.nl V λa3 k3 p3 H4 i0 e8=>wro 4 1 [] 7 10 [] [(7,(sL nd _ qi)),(10,(.int _ (if(60:Int)<(Q l:Int) then(60:Int) else(Q l:Int))))] trivial V V λ_=>bd (rs_cutt hl e8 V V V (optN M) M) V V ?_
 rintro _ _ _ ⟨a6,k6,rfl,et,i1⟩;simp only at et;replace et:=et.symm;subst et;refine zao 1 i0 e8 (SR.sv i1 e8) V V V M λa7 k7 p7 H8 e6 i3=>?_
 have e6:OS F (sL a7 (Q (l.take (if(60:Int)<(Q l:Int) then(60:Int) else(Q l:Int)).toNat)) k7) (l.take (if(60:Int)<(Q l:Int) then(60:Int) else(Q l:Int)).toNat) p7:=e6;refine wro 1 7 [] 13 13 [] [(13,(aG [(sL a7 (Q (l.take (if(60:Int)<(Q l:Int) then(60:Int) else(Q l:Int)).toNat)) k7),_]))] trivial V V λ_=>bd (aW i3 V V) V V ?_
 rintro _ pl _ ⟨a5,rfl,g8,_⟩;refine za _ (ai 2 V (ab (zm (pT a5 0) ?_)));have⟨o0,g3,e7,g5,m1⟩:=OS.Gi e6 g8 (i:=1) V;refine zc (ga.kJ ex (⟨_,0⟩:RdT) (HS.Gh e7 (i:=2) V) g5 M) ?_;rintro _ f7 ⟨qd,n3,hV,kd,ox,g2,em,rfl,h4,b9,rfl,rfl,p5⟩;replace em:=e7.bO em;refine za (.int _ _) (ai 2 V (ab ?_));have mp:=aF (hdG (⟨(l.take (if(60:Int)<(Q l:Int) then(60:Int) else(Q l:Int)).toNat),0⟩:RdT)) 4;have oo:in64 (hdG (⟨(l.take (if(60:Int)<(Q l:Int) then(60:Int) else(Q l:Int)).toNat),0⟩:RdT))->in64 (Int.tdiv (hdG (⟨(l.take (if(60:Int)<(Q l:Int) then(60:Int) else(Q l:Int)).toNat),0⟩:RdT)) 4):=λh=>vq h e_
 have ms:=aF (Int.tdiv (hdG (⟨(l.take (if(60:Int)<(Q l:Int) then(60:Int) else(Q l:Int)).toNat),0⟩:RdT)) 4) 4;refine cu 9 0 17 25 [] [(20,(aG [_,_])),(25,(aG [_,_]))] (Hc_ 1 (ga.aE ex _ 4 f7 M) (Ha_ (vi) (Ha_ (vA (show(4:Int)≠0 from by decide) (vq M e_)) (Hc_ 6 (ga.aE ex (Int.tdiv _ 4) 4 f7 M) (Ha_ (vi) Hn_))))) V V λ_=>zlo ([_,_]:List ArrT) em V (RL.cs ⟨V,M⟩ (RL.cs ⟨V,M⟩ RL.nl)) V λf9 gm p6 pm d4 g9=>cu 1 10 27 27 [] [(27,(aG [(sL f9 (Q ([(⟨_,_⟩:ArrT),(⟨_,_⟩:ArrT)]:List ArrT)) gm),_]))] Hn_ V V λ_=>zn g9 V λp4 pv he=>sgo 1 12 1 0 [] [] (Hr_ 12 4 Hn_) he V V λmv px hf=>ai 2 V ?_
 refine ab (zlo zGB6 hf V j_ V λhJ i9 p8 pA g4 hg=>zlo zGB7 hg V j_ V λhK jw p9 pS d5 hh=>cu 1 2 30 30 [] [(30,(aG [_,_,_,_,_,_,_,_,_]))] Hn_ V V λ_=>zlo ([⟨[110]⟩]:List Str) hh V (RL.cs V RL.nl) V λhQ jA qa pU d6 hj=>zlo ([⟨[105]⟩]:List Str) hj V (RL.cs V RL.nl) V λhS j1 qb pV d7 hk=>?_);refine cu 1 5 33 33 [] [(33,(aG [_,_,_,_,_,_,_,_,_]))] Hn_ V V λ_=>?_
 have⟨o1,a9,hm,d8,m2⟩:=OS.Gi g4 hk (i:=5) V;have d5:=d5.ac a9;have⟨o2,ba,hn,d9,m3⟩:=OS.Gi d5 hm (i:=6) V;replace d6:=(d6.ac a9).ac ba;have⟨o3,bb,ho,ea,m6⟩:=OS.Gi d6 hn (i:=7) V;replace d7:=((d7.ac a9).ac ba).ac bb;have⟨o4,bf,hp,g6,m7⟩:=OS.Gi d7 ho (i:=8) V;replace d8:=((d8.ac ba).ac bb).ac bf;replace d9:=(d9.ac bb).ac bf;have ea:=ea.ac bf;replace b9:=(((b9.ac a9).ac ba).ac bb).ac bf;refine zlo ([(⟨_,zGB6,zGB7,zGB2,zGB1⟩:FunT),(⟨_,_,_,zGB2,zGB1⟩:FunT)]:List FunT) hp V (RL.cs ⟨hJ,i9,hK,jw,_,0,_,0,V,M,M,M,d8,d9,SR.nil,SR.nil⟩ (RL.cs ⟨hQ,jA,hS,j1,_,0,_,0,V,M,M,M,ea,g6,SR.nil,SR.nil⟩ RL.nl)) V λa4 a8 qc pW bF hq=>sgo 2 7 35 35 [] [] (Hr_ 8 4 Hn_) hq V V λmx pX b0=>ai 2 V ?_
 generalize ch:([(⟨⟨[102]⟩,zGB6,zGB7,zGB2,zGB1⟩:FunT),(⟨⟨[103]⟩,([⟨[110]⟩]:List Str),([⟨[105]⟩]:List Str),zGB2,zGB1⟩:FunT)]:List FunT)=E at bF b0⊢;have h9:Q E=2:=by rw[←ch];rfl
 refine az V (cC 3 36 38 [] [(37,(sL a4 _ a8)),(38,(pT a5 0))] (Hr_ 1 4 Hn_) b0 V V λ_=>wcD [a5] (j:=2) b0 V V (gstmts_c ex _ (0) 0 5 (HS.Gh b0.G5 (i:=2) V) b9 M M M) V V (⟨.inl V,.inr (HS.nin b0 (i:=4) (j:=2) V V e_ (List.Mem.head _)),l_⟩) ?_);rintro _ pY ⟨mg,nn,qe,n4,hW,ki,o6,dt,bl,rfl,f5,h5,fk,rfl,rfl⟩;refine⟨_,_,_,bl,λll bl=>?_⟩;have bF:=bF.ac dt;refine cC 2 40 41 [] [(41,(.pointer (some ⟨_,sO (sL a4 _ a8)+0 *Rp.sz FunT+3,_⟩)))] (Ha_ (Sv.ix (OS.sv bF bl (i:=9) V)) Hn_) bl V V λ_=>ef (jS (q:=9) (⟨(Y E 0 _).pp,(Y E 0 _).A,(Y E 0 _).B,(aS _ _ 5 _).1,(⟨(Y E 0 _).val.j,(Y E 0 _).val.n,(Y E 0 _).val.pp,(Y E 0 _).val.op,(Y E 0 _).val.I⟩:ExpT)⟩:FunT) bF bl.G5 V V V V V V V V (aT (x:=n_) M) V (by rintro cs ⟨b3,b7,b4,b8,c3,dk,c4,dn,rfl,c5,c6,c7,b5,b6,c8,c9⟩;exact⟨a0d V,⟨b3,b7,b4,b8,_,_,c4,dn,V,c5,c6,c7,b5,b6,f5,c9⟩⟩)) V (by rintro _ _ go ⟨Z,_,hwr⟩;exact dl V V (Wr.did hwr)) (kb V) ?_
 rintro _ hF go ⟨Z,aA,_⟩ hu f1;replace aA:=HS.lg aA bl f1;generalize ({hF with log:=hu}:Heap)=lr at aA⊢;have k4:=OS.len' Z;generalize ci:E.set 0 (⟨(Y E 0 n_).pp,(Y E 0 n_).A,(Y E 0 n_).B,(aS (0:Int) (3-0) 5 (au (⟨(l.take (if(60:Int)<(Q l:Int) then(60:Int) else(Q l:Int)).toNat),0⟩:RdT))).1,(⟨(Y E 0 n_).val.j,(Y E 0 n_).val.n,(Y E 0 n_).val.pp,(Y E 0 n_).val.op,(Y E 0 n_).val.I⟩:ExpT)⟩:FunT)=T at Z⊢;have ia:Q T=Q E:=by rw[←ci];exact a0u
 refine aQ 2 V (az V (cC 3 42 44 [] [(43,(sL a4 _ a8)),(44,(pT a5 0))] (Hr_ 1 4 Hn_) aA V V λ_=>wcD [a5] (j:=2) aA V V (ga.fN ex _ (0) 1 (HS.Gh aA.G5 (i:=2) V) fk M M) V V (⟨.inl V,.inr (HS.nin aA (i:=4) (j:=2) V V e_ (List.Mem.head _)),l_⟩) ?_));rintro _ pZ ⟨qf,h2,kt,n5,hX,kk,o7,d1,bn,rfl,hy,hz,hA,ez,h6,fq,rfl,rfl⟩;refine⟨_,_,_,bn,λlx bn=>?_⟩;have Z:=Z.ac d1;refine cC 2 46 47 [] [(47,(.pointer (some ⟨_,sO (sL a4 _ a8)+0 *Rp.sz FunT+4,_⟩)))] (Ha_ (Sv.ix (OS.sv Z bn (i:=9) V)) Hn_) bn V V λ_=>ef (id:= .x (go.map Prod.fst)) (jS (q:=9) (⟨(Y T 0 _).pp,(Y T 0 _).A,(Y T 0 _).B,(Y T 0 _).G6,(⟨((ap _ _ _).1).j,((ap _ _ _).1).n,⟨((ap _ _ _).1).pp.b⟩,((ap _ _ _).1).op,((ap _ _ _).1).I⟩:ExpT)⟩:FunT) Z bn.G5 V V V V V V V V (aT (x:=n_) M) V (by rintro cs ⟨b3,b7,b4,b8,c3,dk,c4,dn,rfl,c5,c6,c7,b5,b6,c8,c9⟩;exact⟨a0d V,⟨b3,b7,b4,b8,c3,dk,_,_,V,M,M,M,b5,b6,c8,ez⟩⟩)) V (by rintro _ _ g0 ⟨al,_,hwr⟩;exact dl V V (Wr.did hwr)) (kb V) ?_
 rintro _ hG g0 ⟨al,a1,_⟩ hv f2;replace a1:=HS.lg a1 bn f2;generalize ({hG with log:=hv}:Heap)=lz at a1⊢;have k5:=OS.len' al;generalize co:T.set 0 (⟨(Y T 0 n_).pp,(Y T 0 n_).A,(Y T 0 n_).B,(Y T 0 n_).G6,(⟨((ap (0:Int) (4-1) ((aS (0:Int) (3-0) 5 (au (⟨(l.take (if(60:Int)<(Q l:Int) then(60:Int) else(Q l:Int)).toNat),0⟩:RdT))).2)).1).j,((ap (0:Int) (4-1) ((aS (0:Int) (3-0) 5 (au (⟨(l.take (if(60:Int)<(Q l:Int) then(60:Int) else(Q l:Int)).toNat),0⟩:RdT))).2)).1).n,⟨((ap (0:Int) (4-1) ((aS (0:Int) (3-0) 5 (au (⟨(l.take (if(60:Int)<(Q l:Int) then(60:Int) else(Q l:Int)).toNat),0⟩:RdT))).2)).1).pp.b⟩,((ap (0:Int) (4-1) ((aS (0:Int) (3-0) 5 (au (⟨(l.take (if(60:Int)<(Q l:Int) then(60:Int) else(Q l:Int)).toNat),0⟩:RdT))).2)).1).op,((ap (0:Int) (4-1) ((aS (0:Int) (3-0) 5 (au (⟨(l.take (if(60:Int)<(Q l:Int) then(60:Int) else(Q l:Int)).toNat),0⟩:RdT))).2)).1).I⟩:ExpT)⟩:FunT)=O at al⊢;have ik:Q O=Q T:=by rw[←co];exact a0u
 refine aQ 2 V (az V (cC 3 48 50 [] [(49,(sL a4 _ a8)),(50,(pT a5 0))] (Hr_ 1 4 Hn_) a1 V V λ_=>wcD [a5] (j:=2) a1 V V (gstmts_c ex _ (1) 1 3 (HS.Gh a1.G5 (i:=2) V) fq M M M) V V (⟨.inl V,.inr (HS.nin a1 (i:=4) (j:=2) V V e_ (List.Mem.head _)),l_⟩) ?_));rintro _ p0 ⟨mm,n1,qg,n6,h0,kl,o8,d2,bt,rfl,f6,h7,fu,rfl,rfl⟩;refine⟨_,_,_,bt,λl3 bt=>?_⟩;have al:=al.ac d2;refine cC 2 52 53 [] [(53,(.pointer (some ⟨_,sO (sL a4 _ a8)+1 *Rp.sz FunT+3,_⟩)))] (Ha_ (Sv.ix (OS.sv al bt (i:=9) V)) Hn_) bt V V λ_=>ef (id:= .x (g0.map Prod.fst)) (jS (q:=9) (⟨(Y O 1 _).pp,(Y O 1 _).A,(Y O 1 _).B,(aS _ _ 3 _).1,(⟨(Y O 1 _).val.j,(Y O 1 _).val.n,(Y O 1 _).val.pp,(Y O 1 _).val.op,(Y O 1 _).val.I⟩:ExpT)⟩:FunT) al bt.G5 V V V V V V V V (aT (x:=n_) M) V (by rintro cs ⟨b3,b7,b4,b8,c3,dk,c4,dn,rfl,c5,c6,c7,b5,b6,c8,c9⟩;exact⟨a0d V,⟨b3,b7,b4,b8,_,_,c4,dn,V,c5,c6,c7,b5,b6,f6,c9⟩⟩)) V (by rintro _ _ g1 ⟨an,_,hwr⟩;exact dl V V (Wr.did hwr)) (kb V) ?_
 rintro _ hH g1 ⟨an,a2,_⟩ hw f3;replace a2:=HS.lg a2 bt f3;generalize ({hH with log:=hw}:Heap)=l5 at a2⊢;have k8:=OS.len' an;generalize cL:O.set 1 (⟨(Y O 1 n_).pp,(Y O 1 n_).A,(Y O 1 n_).B,(aS (1:Int) (3-1) 3 ((ap (0:Int) (4-1) ((aS (0:Int) (3-0) 5 (au (⟨(l.take (if(60:Int)<(Q l:Int) then(60:Int) else(Q l:Int)).toNat),0⟩:RdT))).2)).2)).1,(⟨(Y O 1 n_).val.j,(Y O 1 n_).val.n,(Y O 1 n_).val.pp,(Y O 1 n_).val.op,(Y O 1 n_).val.I⟩:ExpT)⟩:FunT)=U at an⊢;have it:Q U=Q O:=by rw[←cL];exact a0u
 refine aQ 2 V (az V (cC 3 54 56 [] [(55,(sL a4 _ a8)),(56,(pT a5 0))] (Hr_ 1 4 Hn_) a2 V V λ_=>wcD [a5] (j:=2) a2 V V (ga.fN ex _ (1) 1 (HS.Gh a2.G5 (i:=2) V) fu M M) V V (⟨.inl V,.inr (HS.nin a2 (i:=4) (j:=2) V V e_ (List.Mem.head _)),l_⟩) ?_));rintro _ p1 ⟨qh,h3,kx,n7,h1,kn,o9,d3,bw,rfl,hB,hC,hD,e0,h8,k0,rfl,rfl⟩;refine⟨_,_,_,bw,λma bw=>?_⟩;replace d4:=(((((((d4.ac a9).ac ba).ac bb).ac bf).ac dt).ac d1).ac d2).ac d3;have an:=an.ac d3;refine cC 2 58 59 [] [(59,(.pointer (some ⟨_,sO (sL a4 _ a8)+1 *Rp.sz FunT+4,_⟩)))] (Ha_ (Sv.ix (OS.sv an bw (i:=9) V)) Hn_) bw V V λ_=>ef (id:= .x (g1.map Prod.fst)) (jS (q:=9) (⟨(Y U 1 _).pp,(Y U 1 _).A,(Y U 1 _).B,(Y U 1 _).G6,(⟨((ap _ _ _).1).j,((ap _ _ _).1).n,⟨((ap _ _ _).1).pp.b⟩,((ap _ _ _).1).op,((ap _ _ _).1).I⟩:ExpT)⟩:FunT) an bw.G5 V V V V V V V V (aT (x:=n_) M) V (by rintro cs ⟨b3,b7,b4,b8,c3,dk,c4,dn,rfl,c5,c6,c7,b5,b6,c8,c9⟩;exact⟨a0d V,⟨b3,b7,b4,b8,c3,dk,_,_,V,M,M,M,b5,b6,c8,e0⟩⟩)) V (by rintro _ _ kA ⟨ax,_,hwr⟩;exact dl V V (Wr.did hwr)) (kb V) ?_
 rintro _ hI kA ⟨ax,b2,_⟩ hx f4;replace b2:=HS.lg b2 bw f4;generalize ({hI with log:=hx}:Heap)=mf at b2⊢;have k9:=OS.len' ax;generalize c0:U.set 1 (⟨(Y U 1 n_).pp,(Y U 1 n_).A,(Y U 1 n_).B,(Y U 1 n_).G6,(⟨((ap (1:Int) (4-1) ((aS (1:Int) (3-1) 3 ((ap (0:Int) (4-1) ((aS (0:Int) (3-0) 5 (au (⟨(l.take (if(60:Int)<(Q l:Int) then(60:Int) else(Q l:Int)).toNat),0⟩:RdT))).2)).2)).2)).1).j,((ap (1:Int) (4-1) ((aS (1:Int) (3-1) 3 ((ap (0:Int) (4-1) ((aS (0:Int) (3-0) 5 (au (⟨(l.take (if(60:Int)<(Q l:Int) then(60:Int) else(Q l:Int)).toNat),0⟩:RdT))).2)).2)).2)).1).n,⟨((ap (1:Int) (4-1) ((aS (1:Int) (3-1) 3 ((ap (0:Int) (4-1) ((aS (0:Int) (3-0) 5 (au (⟨(l.take (if(60:Int)<(Q l:Int) then(60:Int) else(Q l:Int)).toNat),0⟩:RdT))).2)).2)).2)).1).pp.b⟩,((ap (1:Int) (4-1) ((aS (1:Int) (3-1) 3 ((ap (0:Int) (4-1) ((aS (0:Int) (3-0) 5 (au (⟨(l.take (if(60:Int)<(Q l:Int) then(60:Int) else(Q l:Int)).toNat),0⟩:RdT))).2)).2)).2)).1).op,((ap (1:Int) (4-1) ((aS (1:Int) (3-1) 3 ((ap (0:Int) (4-1) ((aS (0:Int) (3-0) 5 (au (⟨(l.take (if(60:Int)<(Q l:Int) then(60:Int) else(Q l:Int)).toNat),0⟩:RdT))).2)).2)).2)).1).I⟩:ExpT)⟩:FunT)=e3 at ax⊢;have iv:Q e3=Q U:=by rw[←c0];exact a0u
 refine aQ 2 V ?_;have qL:Q E=Q e3:=M
 simp+zetaDelta only[qL]at ax b2;refine sgr 1 60 60 [] [] (Hr_ 0 4 (Hr_ 1 0 Hn_)) b2 V V λm0 p2 fb=>?_
 have⟨pi,e4,hr,ee,m9⟩:=OS.Gi d4 fb (i:=3) V;have ax:=ax.ac e4;have⟨pj,e5,ht,g7,nc⟩:=OS.Gi ax hr (i:=9) V;have ee:=ee.ac e5;refine ag ⟨.inr V,_,(rC V (bV V V (h_ fb V) V) rN),(⟨_,e3⟩:PrgT),f9,gm,a4,a8,_,(fT (fT (fT (fT (fT (fT (fT (fT (fT (fT (fT (g3) g2) a9) ba) bb) bf) dt) d1) d2) d3) e4) e5),(HS.G3 ht),V,ee,g7,(by(rw[←c0,←cL,←co,←ci,←ch];simp only[dX9,Nat.reduceSub,Nat.sub_zero];rfl))⟩
end gb
open gb
namespace ca
variable (ex:FuncId) {F:Fz} {H:Heap} {R:List Fp}
instance :DecidableEq Str:=λa b=>decidable_of_iff (a.b=b.b) ⟨λh=>by cases a;cases b;simp_all,λh=>by rw[h]⟩
mutual
def ndE:ExpT->Nat
 |⟨_,_,_,_,ks⟩=>1+hR ks
def hR:List ExpT->Nat
 | []=>0
 |e::l=>ndE e+hR l
end
mutual
def ndS:StmT->Nat
 |⟨_,_,_,_,a,v,ar,t,e⟩=>1+ndE a+ndE v+hR ar+fw t+fw e
def fw:List StmT->Nat
 | []=>0
 |s::l=>ndS s+fw l
end
mutual
def dpE:ExpT->Nat
 |⟨_,_,_,_,ks⟩=>j5 ks
def j5:List ExpT->Nat
 | []=>0
 |e::l=>max (1+dpE e) (j5 l)
end
mutual
def nS:StmT->Nat
 |⟨_,_,_,_,_,_,_,t,e⟩=>1+nSs t+nSs e
def nSs:List StmT->Nat
 | []=>0
 |s::l=>nS s+nSs l
end
mutual
def wS:StmT->Nat
 |⟨k,_,_,_,_,_,_,t,e⟩=>(if k=4 then 1 else 0)+wSs t+wSs e
def wSs:List StmT->Nat
 | []=>0
 |s::l=>wS s+wSs l
end
mutual
def dS:StmT->Nat->Nat
 |⟨_,_,_,_,_,_,_,t,e⟩,d=>max d (max (dSs t (d+1)) (dSs e (d+1)))
def dSs:List StmT->Nat->Nat
 | [],_=>0
 |s::l,d=>max (dS s d) (dSs l d)
end
mutual
def tdS:StmT->Bool
 |⟨_,_,_,_,a,v,ar,t,e⟩=>decide (20<dpE a)||decide (20<dpE v)||dF t||dF e||ar.any λx=>decide (20<dpE x)
def dF:List StmT->Bool
 | []=>false
 |s::l=>tdS s||dF l
end
def inNm(s:List UInt8):Bool:=cO (Y s 0 0)&&s.all br&&decide (1<=Q s)&&decide (Q s<=16)
def vnm(s:List UInt8):Bool:=inNm s&& !ig s
def binO(o:Int):Bool:=decide (4<=o)&&decide (o<=18)
def wfN(k n:Int)(nm:List UInt8)(o c:Int):Bool:=
 if k=1 then(((c==0)&&(nm==[]))&&(o==0))
 else if k=2 then((((c==0)&&(n==0))&&(o==0))&&vnm nm)
 else if k=3 then((((c==1)&&(n==0))&&(o==0))&&vnm nm)
 else if k=4 then(((n==0)&&(nm==[]))&&(((c==2)&&binO o)||((c==1)&&((o==20)||(o==21)))))
 else if k=5 then((((c==3)&&(n==0))&&(nm==[]))&&(o==0))
 else false
mutual
def wfE:ExpT->Bool
 |⟨k,n,nm,o,ks⟩=>eQ ks&&wfN k n nm.b o (Q ks:Int)
def eQ:List ExpT->Bool
 | []=>true
 |e::l=>wfE e&&eQ l
end
def isZ(e:ExpT):Bool:=(((((e.j==0)&&(e.n==0))&&(e.pp.b==[]))&&(e.op==0))&&((Q e.I:Int)==0))
def onV(s:StmT):Bool:=(((((s.pp.b==[])&&(s.K.b==[]))&&(s.n==0))&&isZ s.G2)&&((Q s.y:Int)==0))
def flS(s:StmT):Bool:=((Q s.G4:Int)==0)&&((Q s.G7:Int)==0)
def wfK(s:StmT):Bool:=
 if s.j=1 then((((((flS s&&vnm s.pp.b)&&(s.K.b==[]))&&(s.n==0))&&isZ s.G2)&&((Q s.y:Int)==0))&&wfE s.val)
 else if s.j=2 then((((((flS s&&vnm s.pp.b)&&(s.K.b==[]))&&(s.n==0))&&wfE s.G2)&&((Q s.y:Int)==0))&&wfE s.val)
 else if s.j=3 then(onV s&&wfE s.val)
 else if s.j=4 then((onV s&&wfE s.val)&&((Q s.G7:Int)==0))
 else if s.j=5 then((flS s&&onV s)&&wfE s.val)
 else if s.j=6 then(((((flS s&&vnm s.pp.b)&&vnm s.K.b)&&(s.n==0))&&isZ s.G2)&&isZ s.val)
 else if s.j=7 then(((((((flS s&&(s.pp.b==[]))&&(s.K.b==[]))&&decide (0<=s.n))&&decide (s.n<=1000000))&&isZ s.G2)&&isZ s.val)&&((Q s.y:Int)==0))
 else false
mutual
def wfS:StmT->Bool
 |⟨k,nm,to,n,a,v,ar,t,e⟩=>eQ ar&&wfK ⟨k,nm,to,n,a,v,ar,t,e⟩&&dB t&&dB e
def dB:List StmT->Bool
 | []=>true
 |s::l=>wfS s&&dB l
end
def dpG:List FunT->Bool
 | []=>false
 |f::l=>(decide (6<Q f.A)||decide (8<Q f.B)||decide (200<nSs f.G6)||decide (16<wSs f.G6)||decide (20<dSs f.G6 0)||dF f.G6||decide (20<dpE f.val))||dpG l
def exL(p:PrgT):Bool:=decide (4<Q p.d)||decide (8<Q p.U)||(p.d.any λa=>decide (a.len<1)||decide (16<a.len))||dpG p.U
def wfF(f:FunT):Bool:=(([f.pp]++f.A++f.B).all λs=>vnm s.b)&&dB f.G6&&wfE f.val
def wfP(p:PrgT):Bool:=(p.d.all λa=>vnm a.pp.b)&&p.U.all wfF
def eI(l:List Str)(s:List UInt8):Bool:=l.any λx=>x.b==s
def iy:List Str->List Str->Bool
 |_,[]=>false
 |seen,s::l=>eI seen s.b||iy (seen++[s]) l
def dupF(E:List Str):List Str->List FunT->Bool
 |_,[]=>false
 |fs,f::l=>eI fs f.pp.b||iy E (f.A++f.B)||dupF E (fs++[f.pp]) l
def dupP(p:PrgT):Bool:=iy [] (p.d.map (·.pp))||dupF (p.d.map (·.pp)) [] p.U
mutual
def dfE(vs aa:List Str):ExpT->Bool
 |⟨k,_,nm,_,ks⟩=>fC vs aa ks&&((k !=2)||eI vs nm.b)&&((k !=3)||eI aa nm.b)
def fC(vs aa:List Str):List ExpT->Bool
 | []=>true
 |e::l=>dfE vs aa e&&fC vs aa l
end
def ffN(s:List UInt8):List FunT->Nat->Int
 | [],_=> -1
 |f::l,i=>if f.pp.b=s then(i:Int) else ffN s l (i+1)
def ffP(p:PrgT)(s:List UInt8):Int:=ffN s p.U 0
def swK(vs aa:List Str)(p:PrgT)(s:StmT):Bool:=if s.j=1 then eI vs s.pp.b else if s.j=6 then(eI vs s.pp.b&&decide (0<=ffP p s.K.b)) else if s.j=2 then eI aa s.pp.b else true
def dfK(vs aa:List Str)(p:PrgT)(s:StmT):Bool:=fC vs aa s.y&&dfE vs aa s.G2&&dfE vs aa s.val&&swK vs aa p s
mutual
def dfS(vs aa:List Str)(p:PrgT):StmT->Bool
 |⟨k,nm,to,n,a,v,ar,t,e⟩=>dfK vs aa p ⟨k,nm,to,n,a,v,ar,t,e⟩&&i5 vs aa p t&&i5 vs aa p e
def i5(vs aa:List Str)(p:PrgT):List StmT->Bool
 | []=>true
 |s::l=>dfS vs aa p s&&i5 vs aa p l
end
def arK(p:PrgT)(s:StmT):Bool:= !((s.j==6)&&((Q s.y:Int) !=(Q (Y p.U (ffP p s.K.b).toNat n_).A:Int)))
mutual
def arS(p:PrgT):StmT->Bool
 |⟨k,nm,to,n,a,v,ar,t,e⟩=>arK p ⟨k,nm,to,n,a,v,ar,t,e⟩&&nv p t&&nv p e
def nv(p:PrgT):List StmT->Bool
 | []=>true
 |s::l=>arS p s&&nv p l
end
def arN(p:PrgT):List Str:=p.d.map (·.pp)
def dfF(p:PrgT)(f:FunT):Bool:=i5 (f.A++f.B) (arN p) p f.G6&&dfE (f.A++f.B) (arN p) f.val
def arF(p:PrgT)(f:FunT):Bool:=nv p f.G6
def chk(p:PrgT):Int:=
 if exL p=true then 6 else if wfP p=false then 2 else if dupP p=true then 4
 else if p.U.all (dfF p)=false then 3
 else if p.U.all (arF p)=false then 5 else 0
theorem dX(x:ExpT):(⟨x.j,x.n,⟨x.pp.b⟩,x.op,x.I⟩:ExpT)=x:=by cases x;rfl
theorem cz{α:Type}{l:List α}{i:Nat}{d:α}(h:i<Q l):l.drop i=Y l i d::l.drop (i+1):=by rw[a0O h,a09,a08 h];rfl
theorem ew{α:Type}{l:List α}{i:Nat}(h:Q l<=i):l.drop i=[]:=a0Z h
theorem nd_e(e:ExpT):ndE e=1+hR e.I:=by cases e;rw[ndE]
theorem kX: ∀l:List ExpT,Q l<=hR l
 | []=>a0h _
 |e::l=>by have:=kX l;have:=nd_e e;rw[hR,a02];omega
theorem oO: ∀{l:List ExpT} {i:Nat},i<Q l->ndE (Y l i n_)<=hR l
 |e::l,0,_=>by rw[hR];exact Nat.le_add_right _ _
 |e::l,i+1,h=>by have:=oO (l:=l) (i:=i) (by simpa using h);rw[hR];exact a0i this (Nat.le_add_left _ _)
theorem dp_e(e:ExpT):dpE e=j5 e.I:=by cases e;rw[dpE]
theorem nd_mem: ∀{l:List ExpT} {x:ExpT},x∈l->ndE x<=hR l
 |e::l,x,h=>by
  rw[hR];rcases a0n.1 h with rfl|h
  ·omega
  have:=nd_mem h;omega
theorem exI{P:ExpT->Prop}(h: ∀e:ExpT,(∀x∈e.I,P x)->P e): ∀(n:Nat) (e:ExpT),ndE e<=n->P e
 |0,e,q=>by rw[nd_e]at q;omega
 |n+1,e,q=>h e λx E=>exI h n x (by have:=nd_mem E;rw[nd_e]at q;omega)
theorem dps_le: ∀{l:List ExpT},(∀x∈l,dpE x<ndE x)->j5 l<=hR l
 | [],_=>a0h _
 |e::l,h=>by
  rw[j5,hR];have:=h e (a0m ..);have:=dps_le (l:=l) λx E=>h x (a0c _ E)
  omega
theorem dp_le(e:ExpT):dpE e<ndE e:=exI (P:=λe=>dpE e<ndE e) (λe h=>by rw[dp_e,nd_e];have:=dps_le h;omega) _ e (a07 _)
theorem dp_drop{l:List ExpT}{i:Nat}(h:i<Q l):j5 (l.drop i)=max (1+dpE (Y l i n_)) (j5 (l.drop (i+1))):=by rw[cz (d:=n_) h,j5]
theorem dp_end{l:List ExpT}{i:Nat}(h:Q l<=i):j5 (l.drop i)=0:=by rw[ew h,j5]
theorem ns_s(s:StmT):ndS s=1+ndE s.G2+ndE s.val+hR s.y+fw s.G4+fw s.G7:=by cases s;rw[ndS]
theorem nL: ∀l:List StmT,Q l<=fw l
 | []=>a0h _
 |s::l=>by have:=nL l;have:=ns_s s;rw[fw,a02];omega
theorem ns_at: ∀{l:List StmT} {i:Nat},i<Q l->ndS (Y l i n_)<=fw l
 |e::l,0,_=>by rw[fw];exact Nat.le_add_right _ _
 |e::l,i+1,h=>by have:=ns_at (l:=l) (i:=i) (by simpa using h);rw[fw];exact a0i this (Nat.le_add_left _ _)
theorem n_s(s:StmT):nS s=1+nSs s.G4+nSs s.G7:=by cases s;rw[nS]
theorem w_s(s:StmT):wS s=(if s.j=4 then 1 else 0)+wSs s.G4+wSs s.G7:=by cases s;rw[wS]
theorem d_s(s:StmT)(d:Nat):dS s d=max d (max (dSs s.G4 (d+1)) (dSs s.G7 (d+1))):=by cases s;rw[dS]
theorem ns_mem: ∀{l:List StmT} {x:StmT},x∈l->ndS x<=fw l
 |e::l,x,h=>by
  rw[fw];rcases a0n.1 h with rfl|h
  ·omega
  have:=ns_mem h;omega
theorem stI{P:StmT->Prop}(h: ∀s:StmT,(∀x∈s.G4,P x)->(∀x∈s.G7,P x)->P s): ∀(n:Nat) (s:StmT),ndS s<=n->P s
 |0,s,q=>by rw[ns_s]at q;omega
 |n+1,s,q=>h s (λx E=>stI h n x (by have:=ns_mem E;rw[ns_s]at q;omega)) λx E=>stI h n x (by have:=ns_mem E;rw[ns_s]at q;omega)
theorem nwd_l: ∀{l:List StmT},(∀s∈l,nS s<=ndS s/\wS s<=ndS s/\∀d,dS s d<=d+ndS s)->nSs l<=fw l/\wSs l<=fw l/\∀d,dSs l d<=d+fw l
 | [],_=>⟨a07 _,a07 _,λ_=>a0h _⟩
 |s::l,h=>by
  have⟨T,U,E⟩:=h s (a0m ..);have⟨Z,b2,O⟩:=nwd_l (l:=l) λx hx=>h x (a0c _ hx)
  rw[nSs,wSs,fw];refine⟨M,M,λd=>?_⟩;rw[dSs];have:=E d;have:=O d;omega
theorem nwd_s(s:StmT):nS s<=ndS s/\wS s<=ndS s/\∀d,dS s d<=d+ndS s:=stI (P:=λs=>nS s<=ndS s/\wS s<=ndS s/\∀d,dS s d<=d+ndS s) (λs T U=>by
  have⟨Z,a2,E⟩:=nwd_l T;have⟨b1,b2,O⟩:=nwd_l U;rw[n_s,w_s,ns_s];refine⟨M,by split<;>omega,λd=>?_⟩;rw[d_s];have:=E (d+1);have:=O (d+1);omega) _ s (a07 _)
theorem n_le(l:List StmT):nSs l<=fw l:=(nwd_l λs _=>nwd_s s).1
theorem w_le(l:List StmT):wSs l<=fw l:=(nwd_l λs _=>nwd_s s).2.1
theorem d_le(l:List StmT)(d:Nat):dSs l d<=d+fw l:=(nwd_l λs _=>nwd_s s).2.2 d
theorem n_drop{l:List StmT}{i:Nat}(h:i<Q l):nSs (l.drop i)=1+nSs (Y l i n_).G4+nSs (Y l i n_).G7+nSs (l.drop (i+1)):=by rw[cz (d:=n_) h,nSs,n_s]
theorem w_drop{l:List StmT}{i:Nat}(h:i<Q l):wSs (l.drop i)=(if(Y l i n_).j=4 then 1 else 0)+wSs (Y l i n_).G4+wSs (Y l i n_).G7+wSs (l.drop (i+1)):=by rw[cz (d:=n_) h,wSs,w_s]
theorem d_drop{l:List StmT}{i d:Nat}(h:i<Q l):dSs (l.drop i) d=max (max d (max (dSs (Y l i n_).G4 (d+1)) (dSs (Y l i n_).G7 (d+1)))) (dSs (l.drop (i+1)) d):=by rw[cz (d:=n_) h,dSs,d_s]
theorem td_s(s:StmT):tdS s=(decide (20<dpE s.G2)||decide (20<dpE s.val)||dF s.G4||dF s.G7||s.y.any λx=>decide (20<dpE x)):=by cases s;rw[tdS]
theorem td_drop{l:List StmT}{i:Nat}(h:i<Q l):dF (l.drop i)=((decide (20<dpE (Y l i n_).G2)||decide (20<dpE (Y l i n_).val)||dF (Y l i n_).G4||dF (Y l i n_).G7||(Y l i n_).y.any λx=>decide (20<dpE x))||dF (l.drop (i+1))):=by rw[cz (d:=n_) h,dF,td_s]
theorem td_end{l:List StmT}{i:Nat}(h:Q l<=i):dF (l.drop i)=false:=by rw[ew h,dF]
theorem iT{α:Type} [Inhabited α]{p:α->Bool}{l:List α}{i:Nat}(h:i<Q l):(l.drop i).any p=(p (Y l i n_)||(l.drop (i+1)).any p):=by rw[cz (d:=n_) h,a22]
theorem any_end{α:Type}{p:α->Bool}{l:List α}{i:Nat}(h:Q l<=i):(l.drop i).any p=false:=by rw[ew h,List.any_nil]
theorem all_drop{α:Type} [Inhabited α]{p:α->Bool}{l:List α}{i:Nat}(h:i<Q l):(l.drop i).all p=(p (Y l i n_)&&(l.drop (i+1)).all p):=by rw[cz (d:=n_) h,a0l]
theorem m5{α:Type}{p:α->Bool}{l:List α}{i:Nat}(h:Q l<=i):(l.drop i).all p=true:=by rw[ew h,a1o]
def anD(l:List ExpT)(b:Bool):Bool:=(l.any λx=>decide (20<dpE x))||b
theorem td_y{l:List StmT}{i:Nat}(h:i<Q l)(c:(((20:Int)<(dpE (Y l i n_).G2:Int)\/(20:Int)<(dpE (Y l i n_).val:Int))\/dF (Y l i n_).G4=true)\/dF (Y l i n_).G7=true):dF (l.drop i)=true:=by
 rw[td_drop h];rcases c with((c|c)|c)|c
 ·rw[decide_eq_true (show 20<dpE (Y l i n_).G2 by omega)];rfl
 ·rw[decide_eq_true (show 20<dpE (Y l i n_).val by omega),a1I];rfl
 ·rw[c,a1I];rfl
 rw[c,a1I];rfl
theorem td_n{l:List StmT}{i:Nat}(h:i<Q l)(c:((¬(20:Int)<(dpE (Y l i n_).G2:Int)/\¬(20:Int)<(dpE (Y l i n_).val:Int))/\dF (Y l i n_).G4=false)/\dF (Y l i n_).G7=false):dF (l.drop i)=anD (Y l i n_).y (dF (l.drop (i+1))):=by rw[td_drop h,decide_eq_false (show ¬20<dpE (Y l i n_).G2 by omega),decide_eq_false (show ¬20<dpE (Y l i n_).val by omega),c.1.2,c.2];rfl
theorem an_y{l:List ExpT}{i:Nat}{b:Bool}(h:i<Q l)(c:(20:Int)<(dpE (Y l i n_):Int)):anD (l.drop i) b=true:=by unfold anD;rw[iT h,decide_eq_true (show 20<dpE (Y l i n_) by omega)];rfl
theorem an_n{l:List ExpT}{i:Nat}{b:Bool}(h:i<Q l)(c: ¬(20:Int)<(dpE (Y l i n_):Int)):anD (l.drop i) b=anD (l.drop (i+1)) b:=by unfold anD;rw[iT h,decide_eq_false (show ¬20<dpE (Y l i n_) by omega)];rfl
theorem an_e{l:List ExpT}{i:Nat}{b:Bool}(h:Q l<=i):anD (l.drop i) b=b:=by unfold anD;rw[any_end h];rfl
def SmP(p:PrgT):Prop:=Q p.d<4611686018427387904/\(Q p.U)<4611686018427387904/\∀f∈p.U,Q f.A<1000000000/\(Q f.B)<1000000000/\fw f.G6<4611686018427387904/\ndE f.val<4611686018427387904
theorem cr{α:Type} [Inhabited α]{l:List α}{i:Nat}(h:i<Q l):Y l i n_∈l:=by rw[a09,a08 h];exact a18 h
def lnB(a:ArrT):Bool:=decide (a.len<1)||decide (16<a.len)
theorem ar_y{l:List ArrT}{i:Nat}(h:i<Q l)(c:(Y l i n_).len<1\/16<(Y l i n_).len):(l.drop i).any lnB=true:=by rw[iT h];unfold lnB;rcases c with c|c<;>rw[decide_eq_true c]<;>simp
theorem ar_n{l:List ArrT}{i:Nat}(h:i<Q l)(c: ¬(Y l i n_).len<1/\¬16<(Y l i n_).len):(l.drop i).any lnB=(l.drop (i+1)).any lnB:=by rw[iT h];unfold lnB;rw[decide_eq_false c.1,decide_eq_false c.2];rfl
def dgB(f:FunT):Bool:=decide (6<Q f.A)||decide (8<Q f.B)||decide (200<nSs f.G6)||decide (16<wSs f.G6)||decide (20<dSs f.G6 0)||dF f.G6||decide (20<dpE f.val)
theorem dg_b{l:List FunT}{i:Nat}(h:i<Q l):dpG (l.drop i)=(dgB (Y l i n_)||dpG (l.drop (i+1))):=by rw[cz (d:=n_) h,dpG];rfl
theorem dg_y{l:List FunT}{i:Nat}(h:i<Q l)(c:((((((6:Int)<(Q (Y l i n_).A:Int)\/(8:Int)<(Q (Y l i n_).B:Int))\/(200:Int)<(nSs (Y l i n_).G6:Int))\/(16:Int)<(wSs (Y l i n_).G6:Int))\/(20:Int)<(dSs (Y l i n_).G6 0:Int))\/dF (Y l i n_).G6=true)\/(20:Int)<(dpE (Y l i n_).val:Int)):dpG (l.drop i)=true:=by rw[dg_b h];unfold dgB;rw[a0E];left;simp only[a0E,decide_eq_true_eq];exact c.imp (λc=>c.imp (λc=>by omega) id) (λc=>by omega)
theorem dg_n{l:List FunT}{i:Nat}(h:i<Q l)(c:(((((¬(6:Int)<(Q (Y l i n_).A:Int)/\¬(8:Int)<(Q (Y l i n_).B:Int))/\¬(200:Int)<(nSs (Y l i n_).G6:Int))/\¬(16:Int)<(wSs (Y l i n_).G6:Int))/\¬(20:Int)<(dSs (Y l i n_).G6 0:Int))/\dF (Y l i n_).G6=false)/\¬(20:Int)<(dpE (Y l i n_).val:Int)):dpG (l.drop i)=dpG (l.drop (i+1)):=by rw[dg_b h];unfold dgB;rw[decide_eq_false (show ¬6<(Q (Y l i n_).A) by omega),decide_eq_false (show ¬8<(Q (Y l i n_).B) by omega),decide_eq_false (show ¬200<nSs (Y l i n_).G6 by omega),decide_eq_false (show ¬16<wSs (Y l i n_).G6 by omega),decide_eq_false (show ¬20<dSs (Y l i n_).G6 0 by omega),c.1.2,decide_eq_false (show ¬20<dpE (Y l i n_).val by omega)];rfl
theorem dg_e{l:List FunT}{i:Nat}(h:Q l<=i):dpG (l.drop i)=false:=by rw[ew h,dpG]
theorem ex_1{p:PrgT}(c:(4:Int)<(Q p.d:Int)\/(8:Int)<(Q p.U:Int)):exL p=true:=by
 unfold exL;rcases c with c|c
 ·rw[decide_eq_true (show 4<(Q p.d) by omega)];rfl
 rw[decide_eq_true (show 8<(Q p.U) by omega),a1I];rfl
theorem ex_0{p:PrgT}(c: ¬(4:Int)<(Q p.d:Int)/\¬(8:Int)<(Q p.U:Int)):exL p=(p.d.any lnB||dpG p.U):=by unfold exL;rw[decide_eq_false (show ¬4<(Q p.d) by omega),decide_eq_false (show ¬8<(Q p.U) by omega)];rfl
theorem ex_2{p:PrgT}{b:Bool}(c: ¬(4:Int)<(Q p.d:Int)/\¬(8:Int)<(Q p.U:Int))(h:p.d.any lnB=b)(hb:b=true):exL p=true:=by rw[ex_0 c,h,hb];rfl
theorem ex_3{p:PrgT}{b:Bool}(c: ¬(4:Int)<(Q p.d:Int)/\¬(8:Int)<(Q p.U:Int))(h:p.d.any lnB=false)(g:dpG p.U=b)(hb:b=true):exL p=true:=by rw[ex_0 c,h,g,hb];rfl
theorem ex_4{p:PrgT}(c: ¬(4:Int)<(Q p.d:Int)/\¬(8:Int)<(Q p.U:Int))(h:p.d.any lnB=false)(g:dpG p.U=false):exL p=false:=by rw[ex_0 c,h,g];rfl
theorem nwd_end{l:List StmT}{i d:Nat}(h:Q l<=i):nSs (l.drop i)=0/\wSs (l.drop i)=0/\dSs (l.drop i) d=0:=by rw[ew h,nSs,wSs,dSs];exact⟨V,V,V⟩
theorem depth_c_aux: ∀(fuel:Nat) {T} {Z:Nat} (e:ExpT) {F} {H:Heap} {R:List Fp} (hs:Hb H F H [] R) (a1:in64 e.j) (a2:in64 e.n) (a3:in64 e.op) (E:Sr F T e.I Z) (hn:ndE e<4611686018427387904),ndE e<fuel->kKt ex 69 [(aG [e.j,e.n,(tX e.pp.b),e.op,(S_ T e.I Z)])] H λv H'=> ∃(x:Int),∃F',F.le F'/\Hb H F' H' [] R/\v=iI x/\x=((dpE e:Nat):Int):=by
 intro fuel;induction fuel with
 |zero=>intros;omega
 |succ fuel ih=>
 intro T Z e F H R hs a1 a2 a3 E hn a5;have b0:=nd_e e;have b2:=kX e.I;have a8:=dp_e e;refine ay Tryz.func69 V V (aj 1 V (ab (bd (aW hs V V) V V ?_)));rintro _ H2 _ ⟨b1,rfl,a6,_⟩;refine za _ (ai 2 V (wr 3 [] 1 0 [3] [(3,(.int _ 0))] trivial V V λ_=>wr 2 [] 1 0 [4] [(4,(.int _ 0))] trivial V V λ_=>ak (λ(mm:Nat) f H'=> ∃(m:Int) (i:Nat),∃F',F.le F'/\HS _ F' H' [[(b1,.cells [_,_,_,_,_] _ _)]] R/\aI f [(1,(pT b1 0)),(3,(.int _ m)),(4,(.int _ (i:Int)))]/\mm=Q e.I-i/\((dpE e:Int)=max m (j5 (e.I.drop i):Int))/\(0<=m)/\(i<=Q e.I)) _ ⟨0,0,_,fR,a6,f_,V,(by rw[a8,a0R];omega),M,M⟩ ?_));rintro bw f5 H5 ⟨m,i,F5,al,O,an,rfl,h1,h0,hi⟩ a7;refine aw _ an (λ_=>?_);clear an;have E:=E.ac al;refine aj 2 V (bQ 1 5 9 [] [(9,(decide ((i:Int)<(Q e.I:Int))))] (Hr_ 2 0 Hn_) O V V λ_=>zd 3 5 (λc7=>?_) λc7=>?_)
 ·have qa:=oO (l:=e.I) (i:=i) M;have qb:=dp_drop (l:=e.I) (i:=i) M;have qc:=dp_le (Y e.I i n_);refine ab ?_;have⟨bt,ax⟩:=Sv.Gg (SR.sv E O);have⟨ba,bb,bf,a4⟩:=ExpT.fx (ax i);refine cS 6 0 12 17 [] [(12,(.int _ m)),(17,(aG [_,_,_,_,_]))] (Hr_ 2 0 (Ha_ (Sv.ix (SR.sv E O)) (Hl_ 5 (qn 46 0 5 (ExpT.vw (ax i)) V V V V) Hn_))) O V V λ_=>zc (ih _ (HS.call O) M M M a4 M M) ?_
  rintro _ bn ⟨bF,bl,aA,U,rfl,rfl⟩;replace U:=HS.G8 O V U;refine cu 3 7 19 20 [3] [(3,(.int _ (if 1+((dpE (Y e.I i _):Nat):Int)>m then 1+((dpE (Y e.I i _):Nat):Int) else m)))] (Ha_ (vi) Hn_) V V λ_=>ai 2 V (wr 1 [] 10 11 [4] [(4,(.int _ _))] (vA (vi) trivial) V V λ_=>?_)
  refine a7 _ _ _ ?_ ⟨_,i+1,_,(fT (al) aA),U,f_,V,M,M,M⟩;omega
 have qb:=dp_end (l:=e.I) (i:=i) M;refine wr 1 [] 2 2 [21] [(2,(.int _ m))] trivial V V λ_=>ag ⟨.inr V,_,V,m,_,(al),(HS.G3 O),V,M⟩
theorem pC{E O}(e:ExpT)(hs:Hb H F H [] R)(T:in64 e.j)(U:in64 e.n)(Z:in64 e.op)(al:Sr F E e.I O)(hn:ndE e<4611686018427387904):kKt ex 69 [(aG [e.j,e.n,(tX e.pp.b),e.op,(S_ E e.I O)])] H λv H'=> ∃(x:Int),∃F',F.le F'/\Hb H F' H' [] R/\v=iI x/\x=((dpE e:Nat):Int):=
 depth_c_aux ex (ndE e+1) e hs T U Z al hn (a0y _)
theorem count_c_aux: ∀(fuel:Nat) {a6} {a7:Nat} (l:List StmT) (deep:Nat) {F} {H:Heap} {R:List Fp} (hs:Hb H F H [] R) (hl:Sr F a6 l a7) (hn:deep+fw l<4611686018427387904),fw l<fuel->kKt ex 67 [(S_ a6 l a7),(iI (deep:Int))] H λv H'=> ∃(n:Int) (w:Int) (d:Int),∃F',F.le F'/\Hb H F' H' [] R/\v= .tuple ⟨[iI n,iI w,iI d]⟩/\n=((nSs l:Nat):Int)/\w=((wSs l:Nat):Int)/\d=((dSs l deep:Nat):Int):=by
 intro fuel;induction fuel with
 |zero=>intros;omega
 |succ fuel ih=>
 intro a6 a7 l deep F H R hs hl hn fq;have e8:=nL l;have fb:=n_le l;have fd:=w_le l;have fi:=d_le l deep;refine ay Tryz.func67 V V (aj 1 V (wr 2 [] 4 6 [] [(4,(.int _ 0)),(5,(.int _ 0)),(6,(.int _ 0))] trivial V V λ_=>wr 3 [] 1 0 [7,8,9] [(7,(.int _ 0)),(8,(.int _ 0)),(9,(.int _ 0))] trivial V V λ_=>wr 2 [] 1 0 [10] [(10,(.int _ 0))] trivial V V λ_=>ak (λ(mm:Nat) f H'=> ∃(n:Nat) (w:Nat) (m:Int) (i:Nat),∃F',F.le F'/\HS _ F' H' [] R/\aI f [(0,(sL a6 _ a7)),(1,(.int _ _)),(7,(.int _ (n:Int))),(8,(.int _ (w:Int))),(9,(.int _ m)),(10,(.int _ (i:Int)))]/\mm=Q l-i/\(nSs l=n+nSs (l.drop i))/\(wSs l=w+wSs (l.drop i))/\((dSs l deep:Int)=max m (dSs (l.drop i) deep:Int))/\(0<=m)/\(i<=Q l)) _ ⟨0,0,0,0,_,fR,hs,f_,V,(by rw[a0R];omega),(by rw[a0R];omega),(by rw[a0R];omega),M,M⟩ ?_));rintro e3 f4 H4 ⟨n,w,m,i,F4,Z,O,a3,rfl,h1,h2,h3,h0,hi⟩ bt;refine aw _ a3 (λ_=>?_);clear a3;have hl:=hl.ac Z;refine aj 2 V (wr 1 [] 17 20 [] [(20,(.bool (decide ((i:Int)<(Q l:Int)))))] trivial V V λ_=>zd 4 5 (λc6=>?_) λc6=>?_)
 ·have qa:=ns_at (l:=l) (i:=i) M;have qs:=ns_s (Y l i n_);have qb:=n_drop (l:=l) (i:=i) M;have qc:=w_drop (l:=l) (i:=i) M;have qd:=d_drop (l:=l) (i:=i) (d:=deep) M;refine wr 2 [] 23 24 [7] [(7,(.int _ _))] (vA (vi) trivial) V V λ_=>wr 3 [] 25 27 [9] [(9,(.int _ (if(deep:Int)>m then(deep:Int) else m)))] trivial V V λ_=>?_
  have⟨et,a4⟩:=Sv.Gg (SR.sv hl O);have⟨b8,b9,ch,ci,co,cL,a9,ba,d3,bw,bF,b0,b1⟩:=StmT.fx (a4 i);refine wrp 1 28 33 [] [(33,(.bool ((Y l i _).j==4)))] (Ha_ (Sv.ix (SR.sv hl O)) (Hl_ 4 (ql 3 0 (StmT.vw (a4 i)) V V) Hn_)) V V λ_=>jg (λf H'=> ∃(w2:Nat),H'=H4/\aI f [(0,(S_ a6 l a7)),(1,(iI (deep:Int))),(7,(iI ((n:Int)+1))),(8,(iI (w2:Int))),(9,(iI (if(deep:Int)>m then(deep:Int) else m))),(10,(iI (i:Int)))]/\(w2=w+(if(Y l i n_).j=4 then 1 else 0))) (λaA=>?_) ?_
  ·refine zI 0 0 (λa8=>?_) λa8=>?_
   ·refine wr 0 [] 34 35 [8] [(8,(.int _ _))] (vA (vi) trivial) V V λ_=>?_
    exact aA _ _ ⟨_,V,f_,(by(rw[if_pos M];done))⟩
   exact aA _ _ ⟨w,V,f_,(by(rw[if_neg M];omega))⟩
  skip;rintro e1 H4 ⟨w2,rfl,al,e2⟩;refine aw _ al (λ_=>?_);clear al;refine aj 2 V (ab ?_);have⟨d7,an⟩:=Sv.Gg (SR.sv hl O);have⟨c0,c3,c4,c5,c7,c8,bb,bf,d4,b2,b3,a1,b4⟩:=StmT.fx (an i);refine cu 7 0 37 43 [] [(41,(sL _ _ _)),(43,(.int _ _))] (Ha_ (Sv.ix (SR.sv hl O)) (Hl_ 4 (ql 51 15 (StmT.vw (an i)) V V) (Ha_ (vi) Hn_))) V V λ_=>zc (ih _ (deep+1) (HS.call O) a1 M M) ?_
  rintro _ ee ⟨e4,e6,ez,d9,U,E,rfl,rfl,rfl,rfl⟩;replace E:=HS.G8 O V E;have hl:=hl.ac U;refine cu 7 8 45 47 [11,12,13,36] [(11,(.int _ _)),(12,(.int _ _)),(13,(.int _ _))] Hn_ V V λ_=>ai 2 V (ab ?_)
  have⟨d8,ax⟩:=Sv.Gg (SR.sv hl E);have⟨c9,dk,dn,dt,d1,d2,bl,bn,d5,b5,b6,b7,a2⟩:=StmT.fx (ax i);refine cu 7 0 49 55 [] [(53,(sL _ _ _)),(55,(.int _ _))] (Ha_ (Sv.ix (SR.sv hl E)) (Hl_ 4 (ql 51 16 (StmT.vw (ax i)) V V) (Ha_ (vi) Hn_))) V V λ_=>zc (ih _ (deep+1) (HS.call E) a2 M M) ?_
  rintro _ em ⟨e5,e7,e0,ea,a5,T,rfl,rfl,rfl,rfl⟩;replace T:=HS.G8 E V T;refine cu 7 8 57 59 [14,15,16,48] [(14,(.int _ _)),(15,(.int _ _)),(16,(.int _ _))] Hn_ V V λ_=>ai 1 V (wr 2 [] 60 74 [7,8,9] [(7,(.int _ _)),(8,(.int _ _)),(9,(.int _ (if(if((dSs _ _:Nat):Int)>((dSs _ _:Nat):Int) then((dSs _ _:Nat):Int) else((dSs _ _:Nat):Int))>(if(deep:Int)>m then(deep:Int) else m) then(if((dSs _ _:Nat):Int)>((dSs _ _:Nat):Int) then((dSs _ _:Nat):Int) else((dSs _ _:Nat):Int)) else(if(deep:Int)>m then(deep:Int) else m))))] (vA (vi) (vA (vi) (vA (vi) (vA (vi) trivial)))) V V λ_=>wr 1 [] 21 22 [10] [(10,(.int _ _))] (vA (vi) trivial) V V λ_=>?_)
  refine bt _ _ _ ?_ ⟨((n+1)+(nSs (Y l i _).G4))+(nSs (Y l i _).G7),_,_,i+1,_,(fT (fT (Z) U) a5),T,f_,V,M,M,M,M,M⟩;omega
 have qb:=nwd_end (l:=l) (i:=i) (d:=deep) M;refine wr 1 [] 4 6 [75,76,77] [(4,(.int _ _)),(5,(.int _ _)),(6,(.int _ m))] trivial V V λ_=>ag ⟨.inr V,_,V,_,_,m,_,(Z),(HS.G3 O),V,M,M,M⟩
theorem count_c{E O}(l:List StmT)(deep:Nat)(hs:Hb H F H [] R)(T:Sr F E l O)(U:deep+fw l<4611686018427387904):kKt ex 67 [(S_ E l O),(deep:Int)] H λv H'=> ∃(n:Int) (w:Int) (d:Int),∃F',F.le F'/\Hb H F' H' [] R/\v= .tuple ⟨[iI n,iI w,iI d]⟩/\n=((nSs l:Nat):Int)/\w=((wSs l:Nat):Int)/\d=((dSs l deep:Nat):Int):=
 count_c_aux ex (fw l+1) l deep hs T U (a0y _)
theorem oA: ∀(fuel:Nat) {bF} {b6:Nat} (l:List StmT) {F} {H:Heap} {R:List Fp} (hs:Hb H F H [] R) (hl:Sr F bF l b6) (hn:fw l<4611686018427387904),fw l<fuel->kKt ex 68 [(S_ bF l b6)] H λv H'=> ∃(x:Bool),∃F',F.le F'/\Hb H F' H' [] R/\v= .bool x/\x=dF l:=by
 intro fuel;induction fuel with
 |zero=>intros;omega
 |succ fuel ih=>
 intro bF b6 l F H R hs hl hn g5;have f7:=nL l;refine ay Tryz.func68 V V (aj 1 V (wr 3 [] 2 2 [] [(2,false)] trivial V V λ_=>wr 2 [] 1 0 [3] [(3,(.int _ 0))] trivial V V λ_=>ak (λ(mm:Nat) f H'=> ∃(i:Nat),∃F',F.le F'/\HS _ F' H' [] R/\aI f [(0,(sL bF _ b6)),(3,(.int _ (i:Int)))]/\mm=Q l-i/\(dF l=dF (l.drop i))/\(i<=Q l)) _ ⟨0,_,fR,hs,f_,V,k_,M⟩ ?_));rintro fu f3 H3 ⟨i,F3,a9,bw,b8,rfl,h1,hi⟩ c7;refine aw _ b8 (λ_=>?_);clear b8;have hl:=hl.ac a9;refine aj 2 V (wr 1 [] 6 9 [] [(9,(decide ((i:Int)<(Q l:Int))))] trivial V V λ_=>zd 4 5 (λc5=>?_) λc5=>?_)
 ·have qa:=ns_at (l:=l) (i:=i) M;have qs:=ns_s (Y l i n_);have hg:=kX (Y l i n_).y;refine ab ?_;have⟨al,ch⟩:=Sv.Gg (SR.sv hl bw);have⟨d4,d5,d6,d7,d8,d9,dn,dt,c3,a8,Z,aA,O⟩:=StmT.fx (ch i);refine cu 4 0 12 15 [] [(15,(aG [_,_,_,_,_,_,_,_,_,_,_,_,_,_,_,_,_]))] (Ha_ (Sv.ix (SR.sv hl bw)) (Hl_ 3 (qn 63 0 17 (StmT.vw (ch i)) V V V V) Hn_)) V V λ_=>zn bw V λb9 e3 cL=>sgo 1 5 1 0 [] [] (Hr_ 5 0 Hn_) cL V V λea e4 bb=>ai 3 V (dq 16 35 [] [(35,((((decide ((20:Int)<((dpE (Y l i n_).G2:Nat):Int)))||(decide ((20:Int)<((dpE (Y l i n_).val:Nat):Int))))||dF (Y l i n_).G4)||dF (Y l i n_).G7))] (λH'=> ∃F',F3.le F'/\Hb H F' H' [(fP b9 [(Y l i n_).j,(tX (Y l i n_).pp.b),(tX (Y l i n_).K.b),(Y l i n_).n,(Y l i n_).G2.j,(Y l i n_).G2.n,(tX (Y l i n_).G2.pp.b),(Y l i n_).G2.op,(sL (cA (al i) 8) (Q (Y l i n_).G2.I) (cK (al i) 8)),(Y l i n_).val.j,(Y l i n_).val.n,(tX (Y l i n_).val.pp.b),(Y l i n_).val.op,(sL (cA (al i) 13) (Q (Y l i n_).val.I) (cK (al i) 13)),(sL (cA (al i) 14) (Q (Y l i n_).y) (cK (al i) 14)),(sL (cA (al i) 15) (Q (Y l i n_).G4) (cK (al i) 15)),(sL (cA (al i) 16) (Q (Y l i n_).G7) (cK (al i) 16))])] R) ?_ ?_)
  ·refine ab (ad (v:=(pT b9 4)) (bI V V) V V (ad (v:=(aG [_,_,_,_,_])) (cm (i:=4) V V V (h_ bb V) V V V) V V (zc (pC ex _ (HS.call bb) M M M c3 M) ?_)));rintro _ e6 ⟨f1,em,an,a1,rfl,rfl⟩;replace a1:=HS.G8 bb V a1;have⟨a8,aA,O⟩:=M3 an a8 aA O;refine ad (bK V V V V) V V (zm (.bool (decide ((20:Int)<((dpE (Y l i _).G2:Nat):Int)))) (bM V V (λE=>?_) (λE=>?_)))
   ·have bl:=E;try simp only[BS]at bl
    refine ad (v:=(pT b9 9)) (bI V V) V V (aC V E (ad (v:=(aG [_,_,_,_,_])) (cm (i:=9) V V V (h_ a1 V) V V V) V V (aC V E (zc (pC ex _ (HS.call a1) M M M a8 M) ?_))));rintro _ e7 ⟨f2,et,a4,a2,rfl,rfl⟩;replace a2:=HS.G8 a1 V a2;have⟨aA,O⟩:=M2 a4 aA O;refine aC V E (ad (bK V V V V) V V (ad (v:=(.bool (decide ((20:Int)<((dpE (Y l i _).val:Nat):Int))))) (aH V E V) V V (zm (.bool (decide ((20:Int)<((dpE (Y l i _).val:Nat):Int)))) (bM V V (λT=>?_) (λT=>?_)))))
    ·have bn:=T;try simp only[BS]at bn
     refine ad (v:=(pT b9 15)) (bI V V) V V (aC V T (ad (aU (i:=15) V V (h_ a2 V) V V) V V (aC V T (zc (ih _ (HS.call a2) aA M M) ?_))));rintro _ e8 ⟨f4,ez,ba,a3,rfl,rfl⟩;replace a3:=HS.G8 a2 V a3;have O:=O.ac ba;refine ad (v:=(.bool (dF (Y l i _).G4))) (aH V T V) V V (zm (.bool (dF (Y l i _).G4)) (bM V V (λU=>?_) (λU=>?_)))
     ·have bt:=U;try simp only[BS]at bt
      refine ad (v:=(pT b9 16)) (bI V V) V V (aC V U (ad (aU (i:=16) V V (h_ a3 V) V V) V V (aC V U (zc (ih _ (HS.call a3) O M M) ?_))));rintro _ fb ⟨f5,e0,co,bf,rfl,rfl⟩;replace bf:=HS.G8 a3 V bf;refine ad (v:=(.bool (dF (Y l i _).G7))) (aH V U V) V V (aB ?_);exact ao ⟨V,⟨_,(fT (fT (fT (fT fR an) a4) ba) co),HS.sub bf (List.Sublist.refl _)⟩,(by repeat' first|exact Lr|refine Lu V ?_),(agC (congrArg _ (show dF (Y l i _).G7=((((decide ((20:Int)<((dpE (Y l i _).G2:Nat):Int)))||(decide ((20:Int)<((dpE (Y l i _).val:Nat):Int))))||dF (Y l i _).G4)||dF (Y l i _).G7) by simp only[↓E,↓T,↓U,BT])) agN)⟩
     have bt:=U;try simp only[BS]at bt
     refine ae V U V (ae V U V (ad (v:=(.bool true)) (aq V U V) V V (aB ?_)));exact ao ⟨V,⟨_,(fT (fT (fT fR an) a4) ba),HS.sub a3 (List.Sublist.refl _)⟩,(by repeat' first|exact Lr|refine Lu V ?_),(agC (congrArg _ (show true=((((decide ((20:Int)<((dpE (Y l i _).G2:Nat):Int)))||(decide ((20:Int)<((dpE (Y l i _).val:Nat):Int))))||dF (Y l i _).G4)||dF (Y l i _).G7) by simp only[↓E,↓T,↓U,BT])) agN)⟩
    have bn:=T;try simp only[BS]at bn
    refine ae V T V (ae V T V (ad (v:=(.bool true)) (aq V T V) V V (zm (.bool true) (ae V V V (ae V V V ?_)))));refine ae V V V (ad (v:=(.bool true)) (aq V V V) V V (aB ?_));exact ao ⟨V,⟨_,(fT (fT fR an) a4),HS.sub a2 (List.Sublist.refl _)⟩,(by repeat' first|exact Lr|refine Lu V ?_),(agC (congrArg _ (show true=((((decide ((20:Int)<((dpE (Y l i _).G2:Nat):Int)))||(decide ((20:Int)<((dpE (Y l i _).val:Nat):Int))))||dF (Y l i _).G4)||dF (Y l i _).G7) by simp only[↓E,↓T,BT])) agN)⟩
   have bl:=E;try simp only[BS]at bl
   refine ae V E V (ae V E V (ae V E V (ad (v:=(.bool true)) (aq V E V) V V (zm (.bool true) (ae V V V ?_)))));refine ae V V V (ae V V V (ad (v:=(.bool true)) (aq V V V) V V (zm (.bool true) (ae V V V (ae V V V ?_)))));refine ae V V V (ad (v:=(.bool true)) (aq V V V) V V (aB ?_));exact ao ⟨V,⟨_,(fT fR an),HS.sub a1 (List.Sublist.refl _)⟩,(by repeat' first|exact Lr|refine Lu V ?_),(agC (congrArg _ (show true=((((decide ((20:Int)<((dpE (Y l i _).G2:Nat):Int)))||(decide ((20:Int)<((dpE (Y l i _).val:Nat):Int))))||dF (Y l i _).G4)||dF (Y l i _).G7) by simp only[↓E,BT])) agN)⟩
  skip;rintro fq e5 ⟨c4,a5,b4⟩;have Z:=Z.ac a5;refine aj 1 V (zI 1 2 (λb0=>?_) λb0=>?_)
  ·have ci:=td_y (l:=l) (i:=i) M (by simpa only[dX] using b0);refine wr 1 [] 2 2 [] [(2,true)] trivial V V λ_=>ag ⟨.inr V,_,V,_,_,(fT (a9) a5),(HS.G3 b4),V,(h1.trans ci).symm⟩
  have ds:=td_n (l:=l) (i:=i) M (by simpa only[dX] using b0);refine wr 2 [] 1 0 [5] [(5,(.int _ 0))] trivial V V λ_=>ak (λ(mm:Nat) f H'=> ∃(k:Nat),∃F',c4.le F'/\HS _ F' H' _ R/\aI f [(0,(sL bF _ b6)),(3,(.int _ _)),(4,(pT b9 0)),(5,(.int _ (k:Int)))]/\mm=Q (Y l i n_).y-k/\(dF (l.drop i)=anD ((Y l i _).y.drop k) _)/\(k<=Q (Y l i n_).y)) _ ⟨0,_,fR,b4,f_,V,(ds),M⟩ ?_
  rintro ee fk fd ⟨k,e1,a6,ax,b3,rfl,g1,hk⟩ c0;refine aw _ b3 (λ_=>?_);clear b3;have Z:=Z.ac a6;refine aj 2 V (bQ 1 36 40 [] [(40,(decide ((k:Int)<(Q (Y l i _).y:Int))))] (Hr_ 2 0 Hn_) ax V V λ_=>zd 4 5 (λc6=>?_) λc6=>?_)
  ·have qk:=oO (l:=(Y l i n_).y) (i:=k) M;refine ab ?_;have⟨d3,b5⟩:=Sv.Gg (SR.sv Z ax);have⟨c8,c9,dk,b7⟩:=ExpT.fx (b5 k);refine cS 5 0 43 47 [] [(47,(aG [_,_,_,_,_]))] (Hr_ 1 0 (Ha_ (Sv.ix (SR.sv Z ax)) (Hl_ 4 (qn 46 0 5 (ExpT.vw (b5 k)) V V V V) Hn_))) ax V V λ_=>zc (pC ex _ (HS.call ax) M M M b7 M) ?_
   rintro _ fi ⟨f6,e2,b2,a7,rfl,rfl⟩;replace a7:=HS.G8 ax V a7;refine cu 1 6 49 49 [] [(49,(decide ((20:Int)<((dpE (Y (Y l i _).y k _):Nat):Int))))] Hn_ V V λ_=>ai 1 V (zd 1 2 (λb1=>?_) λb1=>?_)
   ·have ci:=an_y (l:=(Y l i n_).y) (i:=k) (b:=dF (l.drop (i+1))) M (by simpa only[dX] using b1);refine wr 1 [] 2 2 [] [(2,true)] trivial V V λ_=>ag ⟨.inr V,_,V,_,_,(fT (fT (fT (a9) a5) a6) b2),(HS.G3 a7),V,(h1.trans (g1.trans ci)).symm⟩
   have ds:=an_n (l:=(Y l i n_).y) (i:=k) (b:=dF (l.drop (i+1))) M (by simpa only[dX] using b1);refine wr 1 [] 41 42 [5] [(5,(.int _ _))] (vA (vi) trivial) V V λ_=>?_
   refine c0 _ _ _ ?_ ⟨k+1,_,(fT (a6) b2),a7,f_,V,(g1.trans ds),M⟩;omega
  refine wr 1 [] 10 11 [3] [(3,(.int _ _))] (vA (vi) trivial) V V λ_=>?_
  refine c7 _ _ _ ?_ ⟨i+1,_,(fT (fT (a9) a5) a6),(HS.sub ax (a06 _ _)),f_,V,(h1.trans (g1.trans (an_e M))),M⟩;omega
 refine wr 1 [] 2 2 [] [(2,false)] trivial V V λ_=>ag ⟨.inr V,_,V,_,_,(a9),(HS.G3 bw),V,(h1.trans (td_end M)).symm⟩
theorem tooDeep_c{E O}(l:List StmT)(hs:Hb H F H [] R)(T:Sr F E l O)(U:fw l<4611686018427387904):kKt ex 68 [(S_ E l O)] H λv H'=> ∃(x:Bool),∃F',F.le F'/\Hb H F' H' [] R/\v= .bool x/\x=dF l:=
 oA ex (fw l+1) l hs T U (a0y _)
theorem exceeds_c{bw b5 bt b4}(p:PrgT)(hs:Hb H F H [] R)(a7:Sr F bt p.d b4)(a3:Sr F bw p.U b5)(hn:SmP p):kKt ex 32 [(aG [(S_ bt p.d b4),(S_ bw p.U b5)])] H λv H'=> ∃(x:Bool),∃F',F.le F'/\Hb H F' H' [] R/\v= .bool x/\x=exL p:=by
 have⟨hv,hw,ho⟩:=hn;refine ay Tryz.func32 V V (aj 1 V (ab (bd (aW hs V V) V V ?_)));rintro _ H2 _ ⟨b1,rfl,co,_⟩;refine za (.bool false) (ai 3 V (bQ 1 9 18 [] [(18,((decide ((4:Int)<(Q p.d:Int)))||(decide ((8:Int)<(Q p.U:Int)))))] (Hr_ 1 0 (dj 6 (λ_=>(ql 23 1 (h_ co V) V V)) Hn_)) co V V λ_=>zI 1 3 (λc4=>?_) λc4=>?_))
 ·have bl:=c4;refine wr 1 [] 2 2 [] [(2,true)] trivial V V λ_=>ag ⟨.inr V,_,V,_,_,fR,(HS.G3 co),V,(ex_1 bl).symm⟩
 have bl:=c4;refine wr 2 [] 1 0 [3] [(3,(.int _ 0))] trivial V V λ_=>ak (λ(mm:Nat) f H'=> ∃(i:Nat),∃F',F.le F'/\HS _ F' H' [[(b1,.cells [_,_] _ _)]] R/\aI f [(1,(pT b1 0)),(3,(.int _ (i:Int)))]/\mm=Q p.d-i/\(p.d.any lnB=(p.d.drop i).any lnB)/\(i<=Q p.d)) _ ⟨0,_,fR,co,f_,V,k_,M⟩ ?_
 rintro f2 f7 H7 ⟨i,F7,a8,aA,dk,rfl,h1,hi⟩ d7;refine aw _ dk (λ_=>?_);clear dk;have⟨a7,a3⟩:=M2 a8 a7 a3;refine aj 2 V (bQ 1 19 23 [] [(23,(decide ((i:Int)<(Q p.d:Int))))] (Hr_ 2 0 Hn_) aA V V λ_=>zd 4 6 (λc9=>?_) λc9=>?_)
 ·have⟨ez,b3⟩:=Sv.Gg (SR.sv a7 aA);have d8:=ArrT.fx (b3 i);refine bQ 1 26 41 [] [(41,((decide ((Y p.d i _).len<1))||(decide ((16:Int)<(Y p.d i _).len))))] (Hr_ 1 0 (Ha_ (Sv.ix (SR.sv a7 aA)) (Hl_ 5 (ql 3 1 (ArrT.vw (b3 i)) V V) (dj 9 (λ_=>(ql 22 0 (h_ aA V) V V)) (Ha_ (λ(g1:_)=>(Sv.ix (SR.sv a7 aA) (by(try simp only[BS]at g1);(first|omega|(dsimp only;omega))) (by(try simp only[BS]at g1);(first|omega|(dsimp only;omega))))) (dj 13 (λg1=>(ql 3 1 (ArrT.vw (b3 i) (by(try simp only[BS]at g1);(first|omega|(dsimp only;omega)))) V V)) Hn_)))))) aA V V λ_=>zI 1 2 (λcL=>?_) λcL=>?_
  ·have c8:=ar_y (l:=p.d) (i:=i) M cL;refine wr 1 [] 2 2 [] [(2,true)] trivial V V λ_=>ag ⟨.inr V,_,V,_,_,(a8),(HS.G3 aA),V,(ex_2 bl h1 c8).symm⟩
  have et:=ar_n (l:=p.d) (i:=i) M cL;refine wr 1 [] 24 25 [3] [(3,(.int _ _))] (vA (vi) trivial) V V λ_=>?_
  refine d7 _ _ _ ?_ ⟨i+1,_,(a8),aA,f_,V,(h1.trans et),M⟩;omega
 have h2:=h1.trans (any_end M);refine wr 2 [] 1 0 [4] [(4,(.int _ 0))] trivial V V λ_=>ak (λ(mm:Nat) f H'=> ∃(i:Nat),∃F',F7.le F'/\HS _ F' H' _ R/\aI f [(1,(pT b1 0)),(4,(.int _ (i:Int)))]/\mm=Q p.U-i/\(dpG p.U=dpG (p.U.drop i))/\(i<=Q p.U)) _ ⟨0,_,fR,aA,f_,V,k_,M⟩ ?_
 rintro e1 fu e6 ⟨i,e2,a9,a4,c5,rfl,g1,hk⟩ d3;refine aw _ c5 (λ_=>?_);clear c5;have a3:=a3.ac a9;refine aj 2 V (bQ 1 42 46 [] [(46,(decide ((i:Int)<(Q p.U:Int))))] (Hr_ 2 0 Hn_) a4 V V λ_=>zd 4 5 (λd5=>?_) λd5=>?_)
 ·have hu:=ho (Y p.U i n_) (cr M);refine ab ?_;have⟨an,c7⟩:=Sv.Gg (SR.sv a3 a4);have⟨d9,ea,ee,ba,bb,a6,a1⟩:=FunT.fx (c7 i);refine cS 5 0 49 53 [] [(53,(aG [_,_,_,_,_,_,_,_,_]))] (Hr_ 1 0 (Ha_ (Sv.ix (SR.sv a3 a4)) (Hl_ 4 (qn 53 0 9 (FunT.vw (c7 i)) V V V V) Hn_))) a4 V V λ_=>zn a4 V λbf e7 d2=>sgo 1 6 1 0 [] [] (Hr_ 6 1 Hn_) d2 V V λe0 e8 b0=>ai 2 V (ab (cS 2 0 55 56 [] [(56,(sL _ _ _))] (Hr_ 1 1 Hn_) b0 V V λ_=>?_))
  refine zc (count_c ex _ 0 (HS.call b0) a6 M) ?_;rintro _ fb ⟨f3,f4,fq,d4,a2,E,rfl,rfl,rfl,rfl⟩;replace E:=HS.G8 b0 V E;have⟨ba,bb,a6,a1⟩:=M4 a2 ba bb a6 a1;refine cu 7 3 58 60 [6,7,8,54] [(6,(.int _ _)),(7,(.int _ _)),(8,(.int _ _))] Hn_ V V λ_=>ai 2 V (dq 61 93 [] [(93,(((((((decide ((6:Int)<(Q (Y p.U i n_).A:Int)))||(decide ((8:Int)<(Q (Y p.U i n_).B:Int))))||(decide ((200:Int)<((nSs (Y p.U i n_).G6:Nat):Int))))||(decide ((16:Int)<((wSs (Y p.U i n_).G6:Nat):Int))))||(decide ((20:Int)<((dSs (Y p.U i n_).G6 0:Nat):Int))))||dF (Y p.U i n_).G6)||(decide ((20:Int)<((dpE (Y p.U i n_).val:Nat):Int)))))] (λH'=> ∃F',d4.le F'/\Hb H F' H' [(fP b1 [(S_ bt p.d b4),(S_ bw p.U b5)]),(fP bf [(tX (Y p.U i n_).pp.b),(sL (cA (an i) 1) (Q (Y p.U i n_).A) (cK (an i) 1)),(sL (cA (an i) 2) (Q (Y p.U i n_).B) (cK (an i) 2)),(sL (cA (an i) 3) (Q (Y p.U i n_).G6) (cK (an i) 3)),(Y p.U i n_).val.j,(Y p.U i n_).val.n,(tX (Y p.U i n_).val.pp.b),(Y p.U i n_).val.op,(sL (cA (an i) 8) (Q (Y p.U i n_).val.I) (cK (an i) 8))])] R) ?_ ?_)
  ·refine ab (ad (v:=(pT bf 1)) (bI V V) V V (ad (aU (i:=1) V V (i_ E V) V V) V V (ad (gY V V (SR.sv ba E)) V V (ad (bK V V V V) V V (zm (.bool (decide ((6:Int)<(Q (Y p.U i _).A:Int)))) ?_)))));refine bM V V (λO=>?_) (λO=>?_)
   ·have b6:=O;try simp only[BS]at b6
    refine ad (v:=(pT bf 2)) (bI V V) V V (aC V O (ad (aU (i:=2) V V (i_ E V) V V) V V (aC V O (ad (gY V V (SR.sv bb E)) V V (aC V O ?_)))));refine ad (bK V V V V) V V (ad (v:=(.bool (decide ((8:Int)<(Q (Y p.U i _).B:Int))))) (aH V O V) V V (zm (.bool (decide ((8:Int)<(Q (Y p.U i _).B:Int)))) (bM V V (λT=>?_) (λT=>?_))))
    ·have b7:=T;try simp only[BS]at b7
     refine zm _ (aC V T (ad (bK V V V V) V V (ad (v:=(.bool (decide ((200:Int)<((nSs (Y p.U i _).G6:Nat):Int))))) (aH V T V) V V (zm (.bool (decide ((200:Int)<((nSs (Y p.U i _).G6:Nat):Int)))) (bM V V (λZ=>?_) (λZ=>?_))))))
     ·have b8:=Z;try simp only[BS]at b8
      refine zm _ (aC V Z (ad (bK V V V V) V V (ad (v:=(.bool (decide ((16:Int)<((wSs (Y p.U i _).G6:Nat):Int))))) (aH V Z V) V V (zm (.bool (decide ((16:Int)<((wSs (Y p.U i _).G6:Nat):Int)))) (bM V V (λax=>?_) (λax=>?_))))))
      ·have b9:=ax;try simp only[BS]at b9
       refine zm _ (aC V ax (ad (bK V V V V) V V (ad (v:=(.bool (decide ((20:Int)<((dSs _ 0:Nat):Int))))) (aH V ax V) V V (zm (.bool (decide ((20:Int)<((dSs _ 0:Nat):Int)))) (bM V V (λal=>?_) (λal=>?_))))))
       ·have ch:=al;try simp only[BS]at ch
        refine ad (v:=(pT bf 3)) (bI V V) V V (aC V al (ad (aU (i:=3) V V (i_ E V) V V) V V (aC V al (zc (tooDeep_c ex _ (HS.call E) a6 M) ?_))));rintro _ fi ⟨f5,e4,bF,a5,rfl,rfl⟩;replace a5:=HS.G8 E V a5;have a1:=a1.ac bF;refine ad (v:=(.bool (dF (Y p.U i _).G6))) (aH V al V) V V (zm (.bool (dF (Y p.U i _).G6)) (bM V V (λU=>?_) (λU=>?_)))
        ·have ci:=U;try simp only[BS]at ci
         refine ad (v:=(pT bf 4)) (bI V V) V V (aC V U (ad (v:=(aG [_,_,_,_,_])) (cm (i:=4) V V V (i_ a5 V) V V V) V V (aC V U (zc (pC ex _ (HS.call a5) M M M a1 M) ?_))));rintro _ fk ⟨f6,e5,d1,b2,rfl,rfl⟩;replace b2:=HS.G8 a5 V b2;refine aC V U (ad (bK V V V V) V V (ad (v:=(.bool (decide ((20:Int)<((dpE (Y p.U i _).val:Nat):Int))))) (aH V U V) V V (aB ?_)));exact ao ⟨V,⟨_,(fT (fT fR bF) d1),HS.sub b2 (List.Sublist.refl _)⟩,(by repeat' first|exact Lr|refine Lu V ?_),(agC (congrArg _ (show(decide ((20:Int)<((dpE (Y p.U i _).val:Nat):Int)))=(((((((decide ((6:Int)<(Q (Y p.U i _).A:Int)))||(decide ((8:Int)<(Q (Y p.U i _).B:Int))))||(decide ((200:Int)<((nSs (Y p.U i _).G6:Nat):Int))))||(decide ((16:Int)<((wSs (Y p.U i _).G6:Nat):Int))))||(decide ((20:Int)<((dSs _ 0:Nat):Int))))||dF (Y p.U i _).G6)||(decide ((20:Int)<((dpE (Y p.U i _).val:Nat):Int)))) by simp only[↓O,↓T,↓Z,↓ax,↓al,↓U,BT])) agN)⟩
        have ci:=U;try simp only[BS]at ci
        refine ae V U V (ae V U V (ae V U V (ad (v:=(.bool true)) (aq V U V) V V (aB ?_))));exact ao ⟨V,⟨_,(fT fR bF),HS.sub a5 (List.Sublist.refl _)⟩,(by repeat' first|exact Lr|refine Lu V ?_),(agC (congrArg _ (show true=(((((((decide ((6:Int)<(Q (Y p.U i _).A:Int)))||(decide ((8:Int)<(Q (Y p.U i _).B:Int))))||(decide ((200:Int)<((nSs (Y p.U i _).G6:Nat):Int))))||(decide ((16:Int)<((wSs (Y p.U i _).G6:Nat):Int))))||(decide ((20:Int)<((dSs _ 0:Nat):Int))))||dF (Y p.U i _).G6)||(decide ((20:Int)<((dpE (Y p.U i _).val:Nat):Int)))) by simp only[↓O,↓T,↓Z,↓ax,↓al,↓U,BT])) agN)⟩
       have ch:=al;try simp only[BS]at ch
       refine ae V al V (ae V al V (ad (v:=(.bool true)) (aq V al V) V V (zm (.bool true) (ae V V V (ae V V V ?_)))));refine ae V V V (ae V V V (ad (v:=(.bool true)) (aq V V V) V V (aB ?_)));exact ao ⟨V,⟨_,fR,HS.sub E (List.Sublist.refl _)⟩,(by repeat' first|exact Lr|refine Lu V ?_),(agC (congrArg _ (show true=(((((((decide ((6:Int)<(Q (Y p.U i _).A:Int)))||(decide ((8:Int)<(Q (Y p.U i _).B:Int))))||(decide ((200:Int)<((nSs (Y p.U i _).G6:Nat):Int))))||(decide ((16:Int)<((wSs (Y p.U i _).G6:Nat):Int))))||(decide ((20:Int)<((dSs _ 0:Nat):Int))))||dF (Y p.U i _).G6)||(decide ((20:Int)<((dpE (Y p.U i _).val:Nat):Int)))) by simp only[↓O,↓T,↓Z,↓ax,↓al,BT])) agN)⟩
      have b9:=ax;try simp only[BS]at b9
      refine ae V ax V (ad (v:=(.bool true)) (aq V ax V) V V (zm (.bool true) (ae V V V (ae V V V (ae V V V ?_)))));refine ad (v:=(.bool true)) (aq V V V) V V (zm (.bool true) (ae V V V (ae V V V (ae V V V (ae V V V ?_)))));refine ad (v:=(.bool true)) (aq V V V) V V (aB ?_);exact ao ⟨V,⟨_,fR,HS.sub E (List.Sublist.refl _)⟩,(by repeat' first|exact Lr|refine Lu V ?_),(agC (congrArg _ (show true=(((((((decide ((6:Int)<(Q (Y p.U i _).A:Int)))||(decide ((8:Int)<(Q (Y p.U i _).B:Int))))||(decide ((200:Int)<((nSs (Y p.U i _).G6:Nat):Int))))||(decide ((16:Int)<((wSs (Y p.U i _).G6:Nat):Int))))||(decide ((20:Int)<((dSs _ 0:Nat):Int))))||dF (Y p.U i _).G6)||(decide ((20:Int)<((dpE (Y p.U i _).val:Nat):Int)))) by simp only[↓O,↓T,↓Z,↓ax,BT])) agN)⟩
     have b8:=Z;try simp only[BS]at b8
     refine ae V Z V (ad (v:=(.bool true)) (aq V Z V) V V (zm _ (ae V V V (ae V V V (ad (v:=(.bool true)) (aq V V V) V V ?_)))));refine zm _ (ae V V V (ae V V V (ae V V V (ad (v:=(.bool true)) (aq V V V) V V (zm (.bool true) ?_)))));refine ae V V V (ae V V V (ae V V V (ae V V V (ad (v:=(.bool true)) (aq V V V) V V (aB ?_)))));exact ao ⟨V,⟨_,fR,HS.sub E (List.Sublist.refl _)⟩,(by repeat' first|exact Lr|refine Lu V ?_),(agC (congrArg _ (show true=(((((((decide ((6:Int)<(Q (Y p.U i _).A:Int)))||(decide ((8:Int)<(Q (Y p.U i _).B:Int))))||(decide ((200:Int)<((nSs (Y p.U i _).G6:Nat):Int))))||(decide ((16:Int)<((wSs (Y p.U i _).G6:Nat):Int))))||(decide ((20:Int)<((dSs _ 0:Nat):Int))))||dF (Y p.U i _).G6)||(decide ((20:Int)<((dpE (Y p.U i _).val:Nat):Int)))) by simp only[↓O,↓T,↓Z,BT])) agN)⟩
    have b7:=T;try simp only[BS]at b7
    refine ae V T V (ad (v:=(.bool true)) (aq V T V) V V (zm _ (ae V V V (ae V V V (ad (v:=(.bool true)) (aq V V V) V V ?_)))));refine zm _ (ae V V V (ae V V V (ad (v:=(.bool true)) (aq V V V) V V (zm (.bool true) (ae V V V ?_)))));refine ae V V V (ae V V V (ad (v:=(.bool true)) (aq V V V) V V (zm (.bool true) (ae V V V (ae V V V ?_)))));refine ae V V V (ae V V V (ad (v:=(.bool true)) (aq V V V) V V (aB ?_)));exact ao ⟨V,⟨_,fR,HS.sub E (List.Sublist.refl _)⟩,(by repeat' first|exact Lr|refine Lu V ?_),(agC (congrArg _ (show true=(((((((decide ((6:Int)<(Q (Y p.U i _).A:Int)))||(decide ((8:Int)<(Q (Y p.U i _).B:Int))))||(decide ((200:Int)<((nSs (Y p.U i _).G6:Nat):Int))))||(decide ((16:Int)<((wSs (Y p.U i _).G6:Nat):Int))))||(decide ((20:Int)<((dSs _ 0:Nat):Int))))||dF (Y p.U i _).G6)||(decide ((20:Int)<((dpE (Y p.U i _).val:Nat):Int)))) by simp only[↓O,↓T,BT])) agN)⟩
   have b6:=O;try simp only[BS]at b6
   refine ae V O V (ae V O V (ae V O V (ad (v:=(.bool true)) (aq V O V) V V (zm (.bool true) (ae V V V ?_)))));refine ae V V V (ad (v:=(.bool true)) (aq V V V) V V (zm _ (ae V V V (ae V V V (ad (v:=(.bool true)) (aq V V V) V V ?_)))));refine zm _ (ae V V V (ae V V V (ad (v:=(.bool true)) (aq V V V) V V (zm (.bool true) (ae V V V ?_)))));refine ae V V V (ae V V V (ad (v:=(.bool true)) (aq V V V) V V (zm (.bool true) (ae V V V (ae V V V ?_)))));refine ae V V V (ae V V V (ad (v:=(.bool true)) (aq V V V) V V (aB ?_)));exact ao ⟨V,⟨_,fR,HS.sub E (List.Sublist.refl _)⟩,(by repeat' first|exact Lr|refine Lu V ?_),(agC (congrArg _ (show true=(((((((decide ((6:Int)<(Q (Y p.U i _).A:Int)))||(decide ((8:Int)<(Q (Y p.U i _).B:Int))))||(decide ((200:Int)<((nSs (Y p.U i _).G6:Nat):Int))))||(decide ((16:Int)<((wSs (Y p.U i _).G6:Nat):Int))))||(decide ((20:Int)<((dSs _ 0:Nat):Int))))||dF (Y p.U i _).G6)||(decide ((20:Int)<((dpE (Y p.U i _).val:Nat):Int)))) by simp only[↓O,BT])) agN)⟩
  skip;rintro f1 fd ⟨e3,c3,c6⟩;refine aj 1 V (zI 1 2 (λc0=>?_) λc0=>?_)
  ·have c8:=dg_y (l:=p.U) (i:=i) M (by simpa only[dX] using c0);refine wr 1 [] 2 2 [] [(2,true)] trivial V V λ_=>ag ⟨.inr V,_,V,_,_,(fT (fT (fT (a8) a9) a2) c3),(HS.G3 c6),V,(ex_3 bl h2 g1 c8).symm⟩
  have et:=dg_n (l:=p.U) (i:=i) M (by simpa only[dX] using c0);refine wr 1 [] 47 48 [4] [(4,(.int _ _))] (vA (vi) trivial) V V λ_=>?_
  refine d3 _ _ _ ?_ ⟨i+1,_,(fT (fT (a9) a2) c3),(HS.sub c6 (a06 _ _)),f_,V,(g1.trans et),M⟩;omega
 refine wr 1 [] 2 2 [] [(2,false)] trivial V V λ_=>ag ⟨.inr V,_,V,_,_,(fT (a8) a9),(HS.G3 a4),V,((ex_4 bl h2 (g1.trans (dg_e M))).symm)⟩
end ca
open ca
namespace cb
variable (ex:FuncId) {F:Fz} {H:Heap} {R:List Fp}
abbrev zCB1:List Str:=[⟨[97,114,114,97,121]⟩,⟨[102,117,110,99]⟩,⟨[118,97,114]⟩,⟨[114,101,116,117,114,110]⟩,⟨[105,102]⟩,⟨[101,108,115,101]⟩,⟨[119,104,105,108,101]⟩,⟨[111,117,116]⟩,⟨[116,114,97,112]⟩]
abbrev zCB2:List UInt8:=[]
theorem jl{B:Base}{F}{L R:List Fp}{H:Heap}(hs:HS B F H L R){b:Nat}{cs:List Value}{w:Value}(t:TypeId)(i j:Nat)(ha:ff Tryz.prog t=some false)(h:L[j]?=some [(b,.cells cs none false)])(E:cs[i]?=some w): ∀H,JJ B F L R H->LDv Tryz.prog H t (pT b i) w:=jl0 hs t i j ha h E
theorem jn{B:Base}{F}{L R:List Fp}{H:Heap}(hs:HS B F H L R){b:Nat}{cs l:List Value}(t:TypeId)(i n j:Nat)(ha:ff Tryz.prog t=some true)(T:dL Tryz.prog t=some n)(h:L[j]?=some [(b,.cells cs none false)])(O:Nat.ble (i+n) (Q cs)=true)(E:eB (eK cs i) n=l): ∀H,JJ B F L R H->LDv Tryz.prog H t (pT b i) (.agg ⟨l⟩):=jn0 hs t i n j ha T h O E
theorem wf_e(e:ExpT):wfE e=(eQ e.I&&wfN e.j e.n e.pp.b e.op (Q e.I:Int)):=by cases e;rw[wfE]
theorem ws_go{l:List ExpT}{i:Nat}(h:i<Q l)(c:wfE (Y l i n_)=true):eQ (l.drop i)=eQ (l.drop (i+1)):=by rw[cz (d:=n_) h,eQ,c];rfl
theorem ws_no{l:List ExpT}{i:Nat}(h:i<Q l)(c:wfE (Y l i n_)=false):eQ (l.drop i)=false:=by rw[cz (d:=n_) h,eQ,c];rfl
theorem wf_no{l:List ExpT}{b:Bool}(h:eQ l=false):(eQ l&&b)=false:=by rw[h];rfl
theorem jO{l:List ExpT}{i:Nat}{b:Bool}(h:eQ l=eQ (l.drop i))(hi:Q l<=i):(eQ l&&b)=b:=by rw[h,ew hi,eQ];rfl
mutual
def nbE:ExpT->Prop
 |⟨_,_,nm,_,ks⟩=>Q nm.b<4611686018427387904/\gD ks
def gD:List ExpT->Prop
 | []=>True
 |e::l=>nbE e/\gD l
end
theorem nb_e{e:ExpT}(h:nbE e):Q e.pp.b<4611686018427387904/\gD e.I:=by cases e;rwa [nbE]at h
theorem nbs_at: ∀{l:List ExpT} {i:Nat},gD l->i<Q l->nbE (Y l i n_)
 |e::l,0,h,_=>by rw[gD]at h;exact h.1
 |e::l,i+1,h,hi=>by rw[gD]at h;exact nbs_at (l:=l) h.2 (by simpa using hi)
theorem et_s(x:StmT):(⟨x.j,⟨x.pp.b⟩,⟨x.K.b⟩,x.n,x.G2,x.val,x.y,x.G4,x.G7⟩:StmT)=x:=by cases x;rfl
mutual
def nbS:StmT->Prop
 |⟨_,nm,to,_,a,v,ar,t,e⟩=>Q nm.b<4611686018427387904/\(Q to.b)<4611686018427387904/\nbE a/\nbE v/\gD ar/\oQ t/\oQ e
def oQ:List StmT->Prop
 | []=>True
 |s::l=>nbS s/\oQ l
end
theorem nb_s{s:StmT}(h:nbS s):Q s.pp.b<4611686018427387904/\(Q s.K.b)<4611686018427387904/\nbE s.G2/\nbE s.val/\gD s.y/\oQ s.G4/\oQ s.G7:=by cases s;rwa [nbS]at h
theorem nbs_s: ∀{l:List StmT} {i:Nat},oQ l->i<Q l->nbS (Y l i n_)
 |e::l,0,h,_=>by rw[oQ]at h;exact h.1
 |e::l,i+1,h,hi=>by rw[oQ]at h;exact nbs_s (l:=l) h.2 (by simpa using hi)
def wfA(s:StmT):Bool:=eQ s.y&&wfK s
theorem wf_s(s:StmT):wfS s=(wfA s&&dB s.G4&&dB s.G7):=by cases s;rw[wfS];rfl
theorem wt_go{l:List StmT}{i:Nat}(h:i<Q l)(c:(wfA (Y l i n_)=true/\dB (Y l i n_).G4=true)/\dB (Y l i n_).G7=true):dB (l.drop i)=dB (l.drop (i+1)):=by rw[cz (d:=n_) h,dB,wf_s,c.1.1,c.1.2,c.2];rfl
theorem wt_no{l:List StmT}{i:Nat}(h:i<Q l)(c:(wfA (Y l i n_)=false\/dB (Y l i n_).G4=false)\/dB (Y l i n_).G7=false):dB (l.drop i)=false:=by
 rw[cz (d:=n_) h,dB,wf_s];rcases c with(c|c)|c
 ·rw[c];rfl
 ·rw[c,a1a];rfl
 rw[c,a1a];rfl
theorem wt_end{l:List StmT}{i:Nat}(h:Q l<=i):dB (l.drop i)=true:=by rw[ew h,dB]
def anB(a:ArrT):Bool:=vnm a.pp.b
def snB(s:Str):Bool:=vnm s.b
def wlF(f:FunT):List Str:=[f.pp]++f.A++f.B
def NbP(p:PrgT):Prop:=(∀a∈p.d,Q a.pp.b<4611686018427387904)/\∀f∈p.U,Q f.pp.b<4611686018427387904/\(∀s∈f.A,Q s.b<4611686018427387904)/\(∀s∈f.B,Q s.b<4611686018427387904)/\oQ f.G6/\nbE f.val
theorem wl_len(f:FunT):Q (wlF f)=1+Q f.A+Q f.B:=by unfold wlF;rw[a00,a00];rfl
theorem wl_nb{f:FunT}{k:Nat}(h:Q f.pp.b<4611686018427387904/\(∀s∈f.A,Q s.b<4611686018427387904)/\(∀s∈f.B,Q s.b<4611686018427387904)/\oQ f.G6/\nbE f.val)(O:k<Q (wlF f)):Q (Y (wlF f) k n_).b<4611686018427387904:=by
 have:=cr (l:=wlF f) O;revert this;generalize Y (wlF f) k n_=s;intro E;unfold wlF at E;rcases a0f.1 E with E|E
 ·rcases a0f.1 E with E|E
  ·rw[a0I.1 E];exact h.1
  exact h.2.1 s E
 exact h.2.2.1 s E
theorem al_go{α:Type} [Inhabited α]{p:α->Bool}{l:List α}{i:Nat}(h:i<Q l)(c:p (Y l i n_)=true):(l.drop i).all p=(l.drop (i+1)).all p:=by rw[all_drop h,c];rfl
theorem al_no{α:Type} [Inhabited α]{p:α->Bool}{l:List α}{i:Nat}(h:i<Q l)(c:p (Y l i n_)=false):(l.drop i).all p=false:=by rw[all_drop h,c];rfl
theorem wf_f(f:FunT):wfF f=((wlF f).all snB&&dB f.G6&&wfE f.val):=rfl
theorem wf_lno{l:List FunT}{i:Nat}(h:i<Q l)(c:(wlF (Y l i n_)).all snB=false):(l.drop i).all wfF=false:=al_no h (by rw[wf_f,c];rfl)
theorem wf_no2{l:List FunT}{i:Nat}(h:i<Q l)(c:dB (Y l i n_).G6=false\/wfE (Y l i n_).val=false):(l.drop i).all wfF=false:=al_no h (by rw[wf_f];rcases c with c|c<;>rw[c,a1a];rfl)
theorem wf_go2{l:List FunT}{i:Nat}(h:i<Q l)(k:(wlF (Y l i n_)).all snB=true)(c:dB (Y l i n_).G6=true/\wfE (Y l i n_).val=true):(l.drop i).all wfF=(l.drop (i+1)).all wfF:=al_go h (by rw[wf_f,k,c.1,c.2];rfl)
theorem wp_1{p:PrgT}(h:p.d.all anB=false):wfP p=false:=by show(p.d.all anB&&_)=false;rw[h];rfl
theorem wp_2{p:PrgT}(h:p.U.all wfF=false):wfP p=false:=by show(_&&p.U.all wfF)=false;rw[h,a1a]
theorem wp_3{p:PrgT}(h:p.d.all anB=true)(g:p.U.all wfF=true):wfP p=true:=by show(p.d.all anB&&p.U.all wfF)=true;rw[h,g];rfl
theorem in_no{s:List UInt8}{i:Nat}(h:i<Q s)(c:cO (Y s i 0)=false/\(bG (Y s i 0)=false\/(i:Int)=0)):inNm s=false:=by
 unfold inNm;rcases c with⟨c1,c2|c2⟩
 ·have:s.all br=false:=by rw[List.all_eq_false];refine⟨_,?_,by unfold br;rw[c1,c2];decide⟩;rw[a09,a08 h];exact a18 h
  rw[this,a1a];rfl
 obtain rfl:i=0:=M
 rw[c1];rfl
theorem in_s1{s:List UInt8}{i:Nat}(h: ∀j,j<i->br (Y s j 0)=true)(c:cO (Y s i 0)=false->bG (Y s i 0)=true/\(i:Int)≠0): ∀j,j<i+1->br (Y s j 0)=true:=λj O=>by
 rcases Nat.lt_succ_iff_lt_or_eq.1 O with E|rfl
 ·exact h j E
 unfold br;cases e:cO (Y s j 0) with
 |true=>rfl
 |false=>rw[(c e).1];rfl
theorem in_s2{s:List UInt8}{i:Nat}(h:0<i->cO (Y s 0 0)=true)(c:cO (Y s i 0)=false->bG (Y s i 0)=true/\(i:Int)≠0):0<i+1->cO (Y s 0 0)=true:=λ_=>by
 rcases a1g i with rfl|E
 ·cases e:cO (Y s 0 0) with
  |true=>rfl
  |false=>exact absurd V (c e).2
 exact h E
theorem in_end{s:List UInt8}{i:Nat}(h:Q s<=i)(E: ∀j,j<i->br (Y s j 0)=true)(O:0<i->cO (Y s 0 0)=true):(decide ((1:Int)<=(Q s:Int))&&decide ((Q s:Int)<=16))=inNm s:=by
 unfold inNm;have:s.all br=true:=by rw[a0r];intro x U;obtain⟨j,T,rfl⟩:=a1E U;have:=E j M;rwa [a09,a08 T]at this
 rw[this,a0D,a0M];simp only[a04,decide_eq_true_eq];constructor
 ·intro h;exact⟨⟨O M,M⟩,M⟩
 intro h;exact⟨M,M⟩
theorem bLetter_c(c:UInt8)(H:Heap):kKt ex 100 [(.int .u8 (c.toNat:Int))] H λv H'=> ∃(r:Bool),H'=H/\v= .bool r/\r=cO c:=by refine ay Tryz.func100 V V (aj 1 V (wr 2 [] 2 2 [] [(2,false)] trivial V V λ_=>wr 1 [] 2 20 [] [(2,((((decide ((97:Int)<=(c.toNat:Int)))&&(decide ((c.toNat:Int)<=122)))||((decide ((65:Int)<=(c.toNat:Int)))&&(decide ((c.toNat:Int)<=90))))||((c.toNat:Int)==95)))] trivial V V λ_=>ag ⟨.inr V,_,V,_,V,V,(by simp[cO];grind)⟩))
theorem bLetter_c_q(c:UInt8)(H:Heap):kKt ex 100 [(.int .u8 (c.toNat:Int))] H λv H'=>v=(.bool (cO c))/\H'=H:=
 cq (bLetter_c ex c H) (by rintro _ _ ⟨_,rfl,rfl,rfl⟩;exact⟨V,V⟩)
theorem bDigit_c(c:UInt8)(H:Heap):kKt ex 101 [(.int .u8 (c.toNat:Int))] H λv H'=> ∃(r:Bool),H'=H/\v= .bool r/\r=bG c:=by refine ay Tryz.func101 V V (aj 1 V (wr 2 [] 2 2 [] [(2,false)] trivial V V λ_=>wr 1 [] 2 8 [] [(2,((decide ((48:Int)<=(c.toNat:Int)))&&(decide ((c.toNat:Int)<=57))))] trivial V V λ_=>ag ⟨.inr V,_,V,_,V,V,(by simp[bG];grind)⟩))
theorem bDigit_c_q(c:UInt8)(H:Heap):kKt ex 101 [(.int .u8 (c.toNat:Int))] H λv H'=>v=(.bool (bG c))/\H'=H:=
 cq (bDigit_c ex c H) (by rintro _ _ ⟨_,rfl,rfl,rfl⟩;exact⟨V,V⟩)
theorem isname_c(s:List UInt8)(H:Heap)(hl:Q s<4611686018427387904):kKt ex 108 [(tX s)] H λv H'=> ∃(o:Bool),H'=H/\v= .bool o/\o=inNm s:=by
 refine ay Tryz.func108 V V (aj 1 V (wr 3 [] 2 2 [] [(2,false)] trivial V V λ_=>wr 2 [] 1 0 [3] [(3,(.int _ 0))] trivial V V λ_=>ak (λ(mm:Nat) f H'=> ∃(i:Nat),H'=H/\aI f [(0,(tX s)),(3,(.int _ (i:Int)))]/\mm=Q s-i/\(∀j,j<i->br (Y s j 0)=true)/\(0<i->cO (Y s 0 0)=true)/\(i<=Q s)) _ ⟨0,V,f_,V,(λj h=>absurd h (Nat.not_lt_zero j)),(λh=>absurd h (Nat.lt_irrefl 0)),M⟩ ?_));rintro a1 f3 H ⟨i,rfl,E,rfl,U,Z,hi⟩ al;refine aw _ E (λ_=>?_);clear E;refine aj 2 V (wr 1 [] 4 7 [] [(7,(decide ((i:Int)<(Q s:Int))))] trivial V V λ_=>zd 4 5 (λc5=>?_) λc5=>?_)
 ·have ax:=gA (Y s i 0);have aA:=gA (Y s i 0);refine wr 1 [(3,.o (.bool (cO (Y s i 0)))),(9,.o (.bool (bG (Y s i 0))))] 10 25 [] [(25,((!(cO (Y s i 0)))&&((!(bG (Y s i 0)))||((i:Int)==0))))] (vA (vA (show(0:Int)<=(i:Int) from by omega) (show(i:Int)<((Q (s:List UInt8):Nat):Int) from by omega)) (vA (bLetter_c_q ex _ H) (vA (λ(T:_)=>(vA (show(0:Int)<=(i:Int) from by(try simp only[BS]at T);(first|omega|(dsimp only;omega))) (show(i:Int)<((Q (s:List UInt8):Nat):Int) from by(try simp only[BS]at T);(first|omega|(dsimp only;omega))))) (vA (λ(T:_)=>(bDigit_c_q ex _ H)) trivial)))) V V λ_=>zI 1 2 (λO=>?_) λO=>?_
  ·have ar:=in_no (s:=s) (i:=i) M O;refine wr 1 [] 2 2 [] [(2,false)] trivial V V λ_=>ag ⟨.inr V,_,V,_,V,V,(ar.symm)⟩
  have an:=O;refine wr 1 [] 8 9 [3] [(3,(.int _ _))] (vA (vi) trivial) V V λ_=>?_
  refine al _ _ _ ?_ ⟨i+1,V,f_,V,(in_s1 U an),(in_s2 Z an),M⟩;omega
 refine wr 1 [] 26 33 [2] [(2,((decide ((1:Int)<=(Q s:Int)))&&(decide ((Q s:Int)<=16))))] trivial V V λ_=>ag ⟨.inr V,_,V,_,V,V,(in_end M U Z)⟩
theorem isname_c_q(s:List UInt8)(H:Heap)(E:Q s<4611686018427387904):kKt ex 108 [(tX s)] H λv H'=>v=(.bool (inNm s))/\H'=H:=
 cq (isname_c ex s H E) (by rintro _ _ ⟨_,rfl,rfl,rfl⟩;exact⟨V,V⟩)
theorem a_9{p:Prop}(h:p:=by(simp_all[ig,mtk];done)):p:=h
theorem breserved_c(s:List UInt8)(hs:Hb H F H [] R):kKt ex 109 [(tX s)] H λv H'=> ∃(o:Bool),∃F',F.le F'/\Hb H F' H' [] R/\v= .bool o/\o=ig s:=by
 refine ay Tryz.func109 V V (aj 1 V (wr 2 [] 2 2 [] [(2,false)] trivial V V λ_=>ab (zlo zCB1 hs V j_ V λa2 k2 p2 H3 O E=>za (sL a2 _ k2) ?_)));refine ai 3 V (wr 2 [] 1 0 [4] [(4,(.int _ 0))] trivial V V λ_=>cF (aj 2 V (wr 1 [] 6 9 [] [(9,true)] trivial V V λ_=>bx 4 V V V V ?_)));have⟨b4,bb⟩:=Sv.Gg (OS.sv O E (i:=0) V);refine wrp 1 12 17 [] [(17,((Y zCB1 0 _).b==s))] (Ha_ (Sv.ix (OS.sv O E (i:=0) V) e_ (show(0:Int)<(9:Int) from by decide)) (Hl_ 3 (ql 9 0 (vS (bb 0) (show 0<9 from by decide)) V V) Hn_)) V V λ_=>zI 1 2 (λc9=>?_) λc9=>?_
 ·refine wr 1 [] 2 2 [] [(2,true)] trivial V V λ_=>ag ⟨.inr V,_,V,_,_,fR,(HS.G3 E),V,a_9⟩
 refine wr 1 [] 10 11 [4] [(4,(.int _ 1))] (vA (vi) trivial) V V λ_=>cF (aj 2 V (wr 1 [] 6 9 [] [(9,true)] trivial V V λ_=>bx 4 V V V V ?_))
 have⟨bn,T⟩:=Sv.Gg (OS.sv O E (i:=0) V);refine wrp 1 12 17 [] [(17,((Y zCB1 1 _).b==s))] (Ha_ (Sv.ix (OS.sv O E (i:=0) V) e_ (show(1:Int)<(9:Int) from by decide)) (Hl_ 3 (ql 9 0 (vS (T 1) (show 1<9 from by decide)) V V) Hn_)) V V λ_=>zI 1 2 (λa3=>?_) λa3=>?_
 ·refine wr 1 [] 2 2 [] [(2,true)] trivial V V λ_=>ag ⟨.inr V,_,V,_,_,fR,(HS.G3 E),V,a_9⟩
 refine wr 1 [] 10 11 [4] [(4,(.int _ 2))] (vA (vi) trivial) V V λ_=>cF (aj 2 V (wr 1 [] 6 9 [] [(9,true)] trivial V V λ_=>bx 4 V V V V ?_))
 have⟨bt,U⟩:=Sv.Gg (OS.sv O E (i:=0) V);refine wrp 1 12 17 [] [(17,((Y zCB1 2 _).b==s))] (Ha_ (Sv.ix (OS.sv O E (i:=0) V) e_ (show(2:Int)<(9:Int) from by decide)) (Hl_ 3 (ql 9 0 (vS (U 2) (show 2<9 from by decide)) V V) Hn_)) V V λ_=>zI 1 2 (λa4=>?_) λa4=>?_
 ·refine wr 1 [] 2 2 [] [(2,true)] trivial V V λ_=>ag ⟨.inr V,_,V,_,_,fR,(HS.G3 E),V,a_9⟩
 refine wr 1 [] 10 11 [4] [(4,(.int _ 3))] (vA (vi) trivial) V V λ_=>cF (aj 2 V (wr 1 [] 6 9 [] [(9,true)] trivial V V λ_=>bx 4 V V V V ?_))
 have⟨bw,Z⟩:=Sv.Gg (OS.sv O E (i:=0) V);refine wrp 1 12 17 [] [(17,((Y zCB1 3 _).b==s))] (Ha_ (Sv.ix (OS.sv O E (i:=0) V) e_ (show(3:Int)<(9:Int) from by decide)) (Hl_ 3 (ql 9 0 (vS (Z 3) (show 3<9 from by decide)) V V) Hn_)) V V λ_=>zI 1 2 (λa5=>?_) λa5=>?_
 ·refine wr 1 [] 2 2 [] [(2,true)] trivial V V λ_=>ag ⟨.inr V,_,V,_,_,fR,(HS.G3 E),V,a_9⟩
 refine wr 1 [] 10 11 [4] [(4,(.int _ 4))] (vA (vi) trivial) V V λ_=>cF (aj 2 V (wr 1 [] 6 9 [] [(9,true)] trivial V V λ_=>bx 4 V V V V ?_))
 have⟨bF,al⟩:=Sv.Gg (OS.sv O E (i:=0) V);refine wrp 1 12 17 [] [(17,((Y zCB1 4 _).b==s))] (Ha_ (Sv.ix (OS.sv O E (i:=0) V) e_ (show(4:Int)<(9:Int) from by decide)) (Hl_ 3 (ql 9 0 (vS (al 4) (show 4<9 from by decide)) V V) Hn_)) V V λ_=>zI 1 2 (λa6=>?_) λa6=>?_
 ·refine wr 1 [] 2 2 [] [(2,true)] trivial V V λ_=>ag ⟨.inr V,_,V,_,_,fR,(HS.G3 E),V,a_9⟩
 refine wr 1 [] 10 11 [4] [(4,(.int _ 5))] (vA (vi) trivial) V V λ_=>cF (aj 2 V (wr 1 [] 6 9 [] [(9,true)] trivial V V λ_=>bx 4 V V V V ?_))
 have⟨b0,an⟩:=Sv.Gg (OS.sv O E (i:=0) V);refine wrp 1 12 17 [] [(17,((Y zCB1 5 _).b==s))] (Ha_ (Sv.ix (OS.sv O E (i:=0) V) e_ (show(5:Int)<(9:Int) from by decide)) (Hl_ 3 (ql 9 0 (vS (an 5) (show 5<9 from by decide)) V V) Hn_)) V V λ_=>zI 1 2 (λa7=>?_) λa7=>?_
 ·refine wr 1 [] 2 2 [] [(2,true)] trivial V V λ_=>ag ⟨.inr V,_,V,_,_,fR,(HS.G3 E),V,a_9⟩
 refine wr 1 [] 10 11 [4] [(4,(.int _ 6))] (vA (vi) trivial) V V λ_=>cF (aj 2 V (wr 1 [] 6 9 [] [(9,true)] trivial V V λ_=>bx 4 V V V V ?_))
 have⟨b1,ax⟩:=Sv.Gg (OS.sv O E (i:=0) V);refine wrp 1 12 17 [] [(17,((Y zCB1 6 _).b==s))] (Ha_ (Sv.ix (OS.sv O E (i:=0) V) e_ (show(6:Int)<(9:Int) from by decide)) (Hl_ 3 (ql 9 0 (vS (ax 6) (show 6<9 from by decide)) V V) Hn_)) V V λ_=>zI 1 2 (λa8=>?_) λa8=>?_
 ·refine wr 1 [] 2 2 [] [(2,true)] trivial V V λ_=>ag ⟨.inr V,_,V,_,_,fR,(HS.G3 E),V,a_9⟩
 refine wr 1 [] 10 11 [4] [(4,(.int _ 7))] (vA (vi) trivial) V V λ_=>cF (aj 2 V (wr 1 [] 6 9 [] [(9,true)] trivial V V λ_=>bx 4 V V V V ?_))
 have⟨b2,aA⟩:=Sv.Gg (OS.sv O E (i:=0) V);refine wrp 1 12 17 [] [(17,((Y zCB1 7 _).b==s))] (Ha_ (Sv.ix (OS.sv O E (i:=0) V) e_ (show(7:Int)<(9:Int) from by decide)) (Hl_ 3 (ql 9 0 (vS (aA 7) (show 7<9 from by decide)) V V) Hn_)) V V λ_=>zI 1 2 (λa9=>?_) λa9=>?_
 ·refine wr 1 [] 2 2 [] [(2,true)] trivial V V λ_=>ag ⟨.inr V,_,V,_,_,fR,(HS.G3 E),V,a_9⟩
 refine wr 1 [] 10 11 [4] [(4,(.int _ 8))] (vA (vi) trivial) V V λ_=>cF (aj 2 V (wr 1 [] 6 9 [] [(9,true)] trivial V V λ_=>bx 4 V V V V ?_))
 have⟨b3,a1⟩:=Sv.Gg (OS.sv O E (i:=0) V);refine wrp 1 12 17 [] [(17,((Y zCB1 8 _).b==s))] (Ha_ (Sv.ix (OS.sv O E (i:=0) V) e_ (show(8:Int)<(9:Int) from by decide)) (Hl_ 3 (ql 9 0 (vS (a1 8) (show 8<9 from by decide)) V V) Hn_)) V V λ_=>zI 1 2 (λba=>?_) λba=>?_
 ·refine wr 1 [] 2 2 [] [(2,true)] trivial V V λ_=>ag ⟨.inr V,_,V,_,_,fR,(HS.G3 E),V,a_9⟩
 refine wr 1 [] 10 11 [4] [(4,(.int _ 9))] (vA (vi) trivial) V V λ_=>cF (aj 2 V (wr 1 [] 6 9 [] [(9,false)] trivial V V λ_=>nz 5 V V V V (wr 1 [] 2 2 [] [(2,false)] trivial V V λ_=>?_)))
 refine ag ⟨.inr V,_,V,_,_,fR,(HS.G3 E),V,(by(symm;unfold ig;rw[decide_eq_false_iff_not];unfold mtk;intro h;simp only[a0n,a0g,or_false]at h;rcases h with h|h|h|h|h|h|h|h|h<;>simp_all))⟩
theorem hU(s:List UInt8)(hs:Hb H F H [] R)(hl:Q s<4611686018427387904):kKt ex 70 [(tX s)] H λv H'=> ∃(o:Bool),∃F',F.le F'/\Hb H F' H' [] R/\v= .bool o/\o=vnm s:=by refine ay Tryz.func70 V V (aj 1 V (wr 2 [] 2 2 [] [(2,false)] trivial V V λ_=>sj 1 2 9 [] [(2,(inNm s&&(!(ig s))))] (Hk_ 1 (jp hs λh=>isname_c_q ex s h M) (hP 4 (λ_=>(jc hs λ_ _ _ q=>breserved_c ex s q)) Hn_)) hs V V λT Z U E O=>ag ⟨.inr V,_,V,_,_,(E),(HS.G3 O),V,k_⟩))
theorem iO{O T}(e:ExpT)(hs:Hb H F H [] R)(U:in64 e.j)(Z:in64 e.n)(al:in64 e.op)(an:Sr F O e.I T):kKt ex 130 [(aG [e.j,e.n,(tX e.pp.b),e.op,(S_ O e.I T)])] H λv H'=> ∃(o:Bool),∃F',F.le F'/\Hb H F' H' [] R/\v= .bool o/\o=isZ e:=by refine ay Tryz.func130 V V (aj 1 V (ab (bd (aW hs V V) V V ?_)));rintro _ H2 _ ⟨b1,rfl,E,_⟩;refine za _ (ai 2 V (bQ 1 2 26 [] [(2,(((((e.j==0)&&(e.n==0))&&(e.pp.b==zCB2))&&(e.op==0))&&((Q e.I:Int)==0)))] (Hr_ 1 0 (dj 5 (λ_=>(ql 2 1 (h_ E V) V V)) (dj 10 (λ_=>(ql 9 2 (h_ E V) V V)) (dj 15 (λ_=>(ql 3 3 (h_ E V) V V)) (dj 20 (λ_=>(ql 44 4 (h_ E V) V V)) Hn_))))) E V V λ_=>ag ⟨.inr V,_,V,_,_,fR,(HS.G3 E),V,k_⟩))
theorem isbin_c(o:Int)(H:Heap):kKt ex 111 [o] H λv H'=> ∃(x:Bool),H'=H/\v= .bool x/\x=binO o:=by refine ay Tryz.func111 V V (aj 1 V (wr 2 [] 2 2 [] [(2,false)] trivial V V λ_=>wr 1 [] 2 8 [] [(2,((decide ((4:Int)<=o))&&(decide (o<=18))))] trivial V V λ_=>ag ⟨.inr V,_,V,_,V,V,k_⟩))
theorem isbin_c_q(o:Int)(H:Heap):kKt ex 111 [o] H λv H'=>v=(.bool (binO o))/\H'=H:=
 cq (isbin_c ex o H) (by rintro _ _ ⟨_,rfl,rfl,rfl⟩;exact⟨V,V⟩)
theorem only_c{Z aA U ax T an O al a1 a2}(s:StmT)(hs:Hb H F H [] R)(bl:in64 s.j)(bn:in64 s.n)(bt:in64 s.G2.j)(bw:in64 s.G2.n)(bF:in64 s.G2.op)(a4:Sr F a1 s.G2.I a2)(b0:in64 s.val.j)(a7:in64 s.val.n)(a8:in64 s.val.op)(a9:Sr F O s.val.I al)(ba:Sr F T s.y an)(bb:Sr F U s.G4 ax)(bf:Sr F Z s.G7 aA):kKt ex 131 [(aG [s.j,(tX s.pp.b),(tX s.K.b),s.n,s.G2.j,s.G2.n,(tX s.G2.pp.b),s.G2.op,(S_ a1 s.G2.I a2),s.val.j,s.val.n,(tX s.val.pp.b),s.val.op,(S_ O s.val.I al),(S_ T s.y an),(S_ U s.G4 ax),(S_ Z s.G7 aA)])] H λv H'=> ∃(o:Bool),∃F',F.le F'/\Hb H F' H' [] R/\v= .bool o/\o=onV s:=by refine ay Tryz.func131 V V (aj 1 V (ab (bd (aW hs V V) V V ?_)));rintro _ H2 _ ⟨b1,rfl,E,_⟩;refine za (.bool false) (ai 2 V (sj 1 2 26 [] [(2,(((((s.pp.b==zCB2)&&(s.K.b==zCB2))&&(s.n==0))&&isZ s.G2)&&((Q s.y:Int)==0)))] (Hr_ 1 0 (dx 5 (λ_=>(jl E 9 2 0 V V V)) (dx 10 (λ_=>(jl E 3 3 0 V V V)) (dx 15 (λ_=>(jn E 46 4 5 0 V V V V V)) (hP 16 (λg1=>(jc E λ_ _ j q=>iO ex _ q (by(try simp only[BS]at g1);(first|omega|(dsimp only;omega))) (by(try simp only[BS]at g1);(first|omega|(dsimp only;omega))) (by(try simp only[BS]at g1);(first|omega|(dsimp only;omega))) (a4.ac j))) (dx 20 (λ_=>(jl E 44 14 0 V V V)) Hn_)))))) E V V λb2 H3 F3 a5 a6=>?_));refine ag ⟨.inr V,_,V,_,_,(a5),(HS.G3 a6),V,k_⟩
theorem wfexpr_c_aux: ∀(fuel:Nat) {an} {ax:Nat} (e:ExpT) {F} {H:Heap} {R:List Fp} (hs:Hb H F H [] R) (a7:in64 e.j) (a8:in64 e.n) (a9:in64 e.op) (T:Sr F an e.I ax) (hn:ndE e<4611686018427387904) (hx:nbE e),ndE e<fuel->kKt ex 72 [(aG [e.j,e.n,(tX e.pp.b),e.op,(S_ an e.I ax)])] H λv H'=> ∃(o:Bool),∃F',F.le F'/\Hb H F' H' [] R/\v= .bool o/\o=wfE e:=by
 intro fuel;induction fuel with
 |zero=>intros;omega
 |succ fuel ih=>
 intro an ax e F H R hs a7 a8 a9 T hn hx dt;have dk:=nd_e e;have dn:=kX e.I;have U:=wf_e e;have⟨a4,b4⟩:=nb_e hx;refine ay Tryz.func72 V V (aj 1 V (ab (bd (aW hs V V) V V ?_)));rintro _ H2 _ ⟨b1,rfl,b2,_⟩;refine za _ (ai 3 V (wr 2 [] 1 0 [3] [(3,(.int _ 0))] trivial V V λ_=>ak (λ(mm:Nat) f H'=> ∃(i:Nat),∃F',F.le F'/\HS _ F' H' [[(b1,.cells [_,_,_,_,_] _ _)]] R/\aI f [(1,(pT b1 0)),(3,(.int _ (i:Int)))]/\mm=Q e.I-i/\(eQ e.I=eQ (e.I.drop i))/\(i<=Q e.I)) _ ⟨0,_,fR,b2,f_,V,k_,M⟩ ?_));rintro c8 f4 H4 ⟨i,F4,O,E,a2,rfl,h1,hi⟩ b3;refine aw _ a2 (λ_=>?_);clear a2;have T:=T.ac O;refine aj 2 V (bQ 1 5 9 [] [(9,(decide ((i:Int)<(Q e.I:Int))))] (Hr_ 2 0 Hn_) E V V λ_=>zd 4 5 (λc6=>?_) λc6=>?_)
 ·have qa:=oO (l:=e.I) (i:=i) M;refine ab ?_;have⟨c7,a3⟩:=Sv.Gg (SR.sv T E);have⟨b7,b8,b9,bf⟩:=ExpT.fx (a3 i);refine cS 5 0 12 16 [] [(16,(aG [_,_,_,_,_]))] (Hr_ 1 0 (Ha_ (Sv.ix (SR.sv T E)) (Hl_ 4 (qn 46 0 5 (ExpT.vw (a3 i)) V V V V) Hn_))) E V V λ_=>zc (ih _ (HS.call E) M M M bf M (nbs_at b4 M) M) ?_
  rintro _ c3 ⟨c9,co,a1,Z,rfl,rfl⟩;replace Z:=HS.G8 E V Z;refine cu 1 6 18 18 [] [(18,(!(wfE (Y e.I i _))))] Hn_ V V λ_=>ai 1 V (zI 1 2 (λaA=>?_) λaA=>?_)
  ·have b5:=ws_no (l:=e.I) (i:=i) M (by simpa only[dX] using aA);refine wr 1 [] 2 2 [] [(2,false)] trivial V V λ_=>ag ⟨.inr V,_,V,_,_,(fT (O) a1),(HS.G3 Z),V,(U.trans (wf_no (h1.trans b5))).symm⟩
  have cv:=ws_go (l:=e.I) (i:=i) M (by simpa only[dX] using aA);refine wr 1 [] 10 11 [3] [(3,(.int _ _))] (vA (vi) trivial) V V λ_=>?_
  refine b3 _ _ _ ?_ ⟨i+1,_,(fT (O) a1),Z,f_,V,(h1.trans cv),M⟩;omega
 refine bQ 3 19 21 [4] [(4,(.int _ _))] (Hr_ 1 0 Hn_) E V V λ_=>bQ 3 22 23 [] [(23,(.int _ _))] (Hr_ 1 0 Hn_) E V V λ_=>wr 1 [] 24 25 [] [(24,(e.j==1))] trivial V V λ_=>zI 1 1 (λbn=>?_) λbn=>?_
 ·refine wrp 1 26 37 [2] [(2,((((Q e.I:Int)==0)&&(e.pp.b==zCB2))&&(e.op==0)))] (dj 4 (λ_=>(ql 9 2 (h_ E V) V V)) (dj 9 (λ_=>(ql 3 3 (h_ E V) V V)) Hn_)) V V λ_=>ag ⟨.inr V,_,V,_,_,(O),(HS.G3 E),V,(by exact(U.trans ((jO h1 M).trans (by unfold wfN;(repeat rw[if_neg M])<;>first|rfl|(rw[if_pos M]<;>rfl)))).symm)⟩
 refine wr 1 [] 38 39 [] [(38,(e.j==2))] trivial V V λ_=>zI 1 1 (λbt=>?_) λbt=>?_
 ·refine sj 1 40 56 [2] [(2,(((((Q e.I:Int)==0)&&(e.n==0))&&(e.op==0))&&vnm e.pp.b))] (dx 4 (λ_=>(jl E 2 1 0 V V V)) (dx 9 (λ_=>(jl E 3 3 0 V V V)) (dx 14 (λ_=>(jl E 9 2 0 V V V)) (hP 15 (λ_=>(jc E λ_ _ _ q=>hU ex _ q (a4))) Hn_)))) E V V λch c4 cL a5 ba=>?_
  refine ag ⟨.inr V,_,V,_,_,(fT (O) a5),(HS.G3 ba),V,(by exact(U.trans ((jO h1 M).trans (by unfold wfN;(repeat rw[if_neg M])<;>first|rfl|(rw[if_pos M]<;>rfl)))).symm)⟩
 refine wr 1 [] 57 58 [] [(57,(e.j==3))] trivial V V λ_=>zI 1 1 (λbw=>?_) λbw=>?_
 ·refine sj 1 59 75 [2] [(2,(((((Q e.I:Int)==1)&&(e.n==0))&&(e.op==0))&&vnm e.pp.b))] (dx 4 (λ_=>(jl E 2 1 0 V V V)) (dx 9 (λ_=>(jl E 3 3 0 V V V)) (dx 14 (λ_=>(jl E 9 2 0 V V V)) (hP 15 (λ_=>(jc E λ_ _ _ q=>hU ex _ q (a4))) Hn_)))) E V V λci c5 c0 a6 bb=>?_
  refine ag ⟨.inr V,_,V,_,_,(fT (O) a6),(HS.G3 bb),V,(by exact(U.trans ((jO h1 M).trans (by unfold wfN;(repeat rw[if_neg M])<;>first|rfl|(rw[if_pos M]<;>rfl)))).symm)⟩
 refine wr 1 [] 76 77 [] [(76,(e.j==4))] trivial V V λ_=>zI 1 1 (λbF=>?_) λbF=>?_
 ·refine bQ 1 78 108 [2] [(2,(((e.n==0)&&(e.pp.b==zCB2))&&((((Q e.I:Int)==2)&&binO e.op)||(((Q e.I:Int)==1)&&((e.op==20)||(e.op==21))))))] (Hr_ 1 0 (dj 5 (λ_=>(ql 9 2 (h_ E V) V V)) (Hl2_ 13 (λ_ _=>(ql 3 3 (h_ E V) V V)) (Hc2_ 14 (λ_ _=>(isbin_c_q ex _ H4)) (Hl3_ 21 (λ_ _ _=>(ql 3 3 (h_ E V) V V)) (Ho_ 25 (.o (iI _)) (λ(g1:_) (g2:_) (g3:_) (g4:_)=>(ql 3 3 (h_ E V) V V)) Hn_)))))) E V V λ_=>ag ⟨.inr V,_,V,_,_,(O),(HS.G3 E),V,(by exact(U.trans ((jO h1 M).trans (by unfold wfN;(repeat rw[if_neg M])<;>first|rfl|(rw[if_pos M]<;>rfl)))).symm)⟩
 refine wr 1 [] 109 110 [] [(109,(e.j==5))] trivial V V λ_=>zI 1 3 (λb0=>?_) λb0=>?_
 ·refine wrp 1 111 127 [2] [(2,(((((Q e.I:Int)==3)&&(e.n==0))&&(e.pp.b==zCB2))&&(e.op==0)))] (dj 4 (λ_=>(ql 2 1 (h_ E V) V V)) (dj 9 (λ_=>(ql 9 2 (h_ E V) V V)) (dj 14 (λ_=>(ql 3 3 (h_ E V) V V)) Hn_))) V V λ_=>ag ⟨.inr V,_,V,_,_,(O),(HS.G3 E),V,(by exact(U.trans ((jO h1 M).trans (by unfold wfN;(repeat rw[if_neg M])<;>first|rfl|(rw[if_pos M]<;>rfl)))).symm)⟩
 refine wr 1 [] 2 2 [] [(2,false)] trivial V V λ_=>ag ⟨.inr V,_,V,_,_,(O),(HS.G3 E),V,(by exact(U.trans ((jO h1 M).trans (by unfold wfN;(repeat rw[if_neg M])<;>first|rfl|(rw[if_pos M]<;>rfl)))).symm)⟩
theorem fW{E O}(e:ExpT)(hs:Hb H F H [] R)(T:in64 e.j)(U:in64 e.n)(Z:in64 e.op)(al:Sr F E e.I O)(hn:ndE e<4611686018427387904)(hx:nbE e):kKt ex 72 [(aG [e.j,e.n,(tX e.pp.b),e.op,(S_ E e.I O)])] H λv H'=> ∃(o:Bool),∃F',F.le F'/\Hb H F' H' [] R/\v= .bool o/\o=wfE e:=
 wfexpr_c_aux ex (ndE e+1) e hs T U Z al hn hx (a0y _)
theorem wfstmt_c{a5 a9 a4 a8 a3 a7 a2 a6 ba bl}(s:StmT)(hs:Hb H F H [] R)(e0:in64 s.j)(e1:in64 s.n)(e2:in64 s.G2.j)(e3:in64 s.G2.n)(e4:in64 s.G2.op)(al:Sr F ba s.G2.I bl)(e5:in64 s.val.j)(d2:in64 s.val.n)(d3:in64 s.val.op)(T:Sr F a2 s.val.I a6)(Z:Sr F a3 s.y a7)(an:Sr F a4 s.G4 a8)(ax:Sr F a5 s.G7 a9)(hn:ndS s<4611686018427387904)(hx:nbS s):kKt ex 110 [(aG [s.j,(tX s.pp.b),(tX s.K.b),s.n,s.G2.j,s.G2.n,(tX s.G2.pp.b),s.G2.op,(S_ ba s.G2.I bl),s.val.j,s.val.n,(tX s.val.pp.b),s.val.op,(S_ a2 s.val.I a6),(S_ a3 s.y a7),(S_ a4 s.G4 a8),(S_ a5 s.G7 a9)])] H λv H'=> ∃(o:Bool),∃F',F.le F'/\Hb H F' H' [] R/\v= .bool o/\o=wfA s:=by
 have g4:=ns_s s;have g5:=kX s.y;have⟨g6,g7,g8,g9,d1,e6,e7⟩:=nb_s hx;refine ay Tryz.func110 V V (aj 1 V (ab (bd (aW hs V V) V V ?_)));rintro _ H2 _ ⟨b1,rfl,dn,_⟩;refine za _ (ai 3 V (wr 2 [] 1 0 [3] [(3,(.int _ 0))] trivial V V λ_=>ak (λ(mm:Nat) f H'=> ∃(i:Nat),∃F',F.le F'/\HS _ F' H' [[(b1,.cells [_,_,_,_,_,_,_,_,_,_,_,_,_,_,_,_,_] _ _)]] R/\aI f [(1,(pT b1 0)),(3,(.int _ (i:Int)))]/\mm=Q s.y-i/\(eQ s.y=eQ (s.y.drop i))/\(i<=Q s.y)) _ ⟨0,_,fR,dn,f_,V,k_,M⟩ ?_));rintro g2 f4 H4 ⟨i,F4,U,E,bn,rfl,h1,hi⟩ dt;refine aw _ bn (λ_=>?_);clear bn;have⟨T,Z,an,ax,al⟩:=M5 U T Z an ax al;refine aj 2 V (bQ 1 5 9 [] [(9,(decide ((i:Int)<(Q s.y:Int))))] (Hr_ 2 0 Hn_) E V V λ_=>zd 4 5 (λc6=>?_) λc6=>?_)
 ·have qa:=oO (l:=s.y) (i:=i) M;refine ab ?_;have⟨g0,bt⟩:=Sv.Gg (SR.sv Z E);have⟨d5,d6,d7,cL⟩:=ExpT.fx (bt i);refine cS 5 0 12 16 [] [(16,(aG [_,_,_,_,_]))] (Hr_ 1 0 (Ha_ (Sv.ix (SR.sv Z E)) (Hl_ 4 (qn 46 0 5 (ExpT.vw (bt i)) V V V V) Hn_))) E V V λ_=>zc (fW ex _ (HS.call E) M M M cL M (nbs_at d1 M)) ?_
  rintro _ f2 ⟨g3,e8,bf,a1,rfl,rfl⟩;replace a1:=HS.G8 E V a1;refine cu 1 6 18 18 [] [(18,(!(wfE (Y s.y i _))))] Hn_ V V λ_=>ai 1 V (zI 1 2 (λbb=>?_) λbb=>?_)
  ·have c0:=ws_no (l:=s.y) (i:=i) M (by simpa only[dX] using bb);refine wr 1 [] 2 2 [] [(2,false)] trivial V V λ_=>ag ⟨.inr V,_,V,_,_,(fT (U) bf),(HS.G3 a1),V,(wf_no (h1.trans c0)).symm⟩
  have hl:=ws_go (l:=s.y) (i:=i) M (by simpa only[dX] using bb);refine wr 1 [] 10 11 [3] [(3,(.int _ _))] (vA (vi) trivial) V V λ_=>?_
  refine dt _ _ _ ?_ ⟨i+1,_,(fT (U) bf),a1,f_,V,(h1.trans hl),M⟩;omega
 refine bQ 3 19 28 [4] [(4,(((Q s.G4:Int)==0)&&((Q s.G7:Int)==0)))] (Hr_ 1 0 (dj 6 (λ_=>(ql 51 16 (h_ E V) V V)) Hn_)) E V V λ_=>bQ 3 29 30 [] [(30,(.int _ _))] (Hr_ 1 0 Hn_) E V V λ_=>wr 1 [] 31 32 [] [(31,(s.j==1))] trivial V V λ_=>zI 1 1 (λc3=>?_) λc3=>?_
 ·refine sj 1 33 64 [2] [(2,(((((((((Q s.G4:Int)==0)&&((Q s.G7:Int)==0))&&vnm s.pp.b)&&(s.K.b==zCB2))&&(s.n==0))&&isZ s.G2)&&((Q s.y:Int)==0))&&wfE s.val))] (dx 3 (λ_=>(jl E 9 1 0 V V V)) (hP 4 (λ_=>(jc E λ_ _ _ q=>hU ex _ q X)) (dx 8 (λ_=>(jl E 9 2 0 V V V)) (dx 13 (λ_=>(jl E 3 3 0 V V V)) (dx 18 (λ_=>(jn E 46 4 5 0 V V V V V)) (hP 19 (λO=>(jc E λ_ _ j q=>iO ex _ q (by(try simp only[BS]at O);(first|omega|(dsimp only;omega))) (by(try simp only[BS]at O);(first|omega|(dsimp only;omega))) (by(try simp only[BS]at O);(first|omega|(dsimp only;omega))) (al.ac j))) (dx 23 (λ_=>(jl E 44 14 0 V V V)) (dx 29 (λ_=>(jn E 46 9 5 0 V V V V V)) (hP 30 (λO=>(jc E λ_ _ j q=>fW ex _ q (by(try simp only[BS]at O);(first|omega|(dsimp only;omega))) (by(try simp only[BS]at O);(first|omega|(dsimp only;omega))) (by(try simp only[BS]at O);(first|omega|(dsimp only;omega))) (T.ac j) M M)) Hn_))))))))) E V V λd8 f3 fb bw b6=>?_
  refine ag ⟨.inr V,_,V,_,_,(fT (U) bw),(HS.G3 b6),V,(by exact((jO h1 M).trans (by unfold wfK;(repeat rw[if_neg M])<;>first|rfl|(rw[if_pos M]<;>first|rfl|(simp only[dX]<;>rfl)))).symm)⟩
 refine wr 1 [] 65 66 [] [(65,(s.j==2))] trivial V V λ_=>zI 1 1 (λc4=>?_) λc4=>?_
 ·refine sj 1 67 98 [2] [(2,(((((((((Q s.G4:Int)==0)&&((Q s.G7:Int)==0))&&vnm s.pp.b)&&(s.K.b==zCB2))&&(s.n==0))&&wfE s.G2)&&((Q s.y:Int)==0))&&wfE s.val))] (dx 3 (λ_=>(jl E 9 1 0 V V V)) (hP 4 (λ_=>(jc E λ_ _ _ q=>hU ex _ q X)) (dx 8 (λ_=>(jl E 9 2 0 V V V)) (dx 13 (λ_=>(jl E 3 3 0 V V V)) (dx 18 (λ_=>(jn E 46 4 5 0 V V V V V)) (hP 19 (λO=>(jc E λ_ _ j q=>fW ex _ q (by(try simp only[BS]at O);(first|omega|(dsimp only;omega))) (by(try simp only[BS]at O);(first|omega|(dsimp only;omega))) (by(try simp only[BS]at O);(first|omega|(dsimp only;omega))) (al.ac j) M M)) (dx 23 (λ_=>(jl E 44 14 0 V V V)) (dx 29 (λ_=>(jn E 46 9 5 0 V V V V V)) (hP 30 (λO=>(jc E λ_ _ j q=>fW ex _ q (by(try simp only[BS]at O);(first|omega|(dsimp only;omega))) (by(try simp only[BS]at O);(first|omega|(dsimp only;omega))) (by(try simp only[BS]at O);(first|omega|(dsimp only;omega))) (T.ac j) M M)) Hn_))))))))) E V V λd9 f5 fd bF b7=>?_
  refine ag ⟨.inr V,_,V,_,_,(fT (U) bF),(HS.G3 b7),V,(by exact((jO h1 M).trans (by unfold wfK;(repeat rw[if_neg M])<;>first|rfl|(rw[if_pos M]<;>first|rfl|(simp only[dX]<;>rfl)))).symm)⟩
 refine wr 1 [] 99 100 [] [(99,(s.j==3))] trivial V V λ_=>zI 1 1 (λc5=>?_) λc5=>?_
 ·refine sj 1 101 107 [2] [(2,(onV s&&wfE s.val))] (Hr_ 0 0 (Hk_ 1 (jc E λ_ _ j q=>only_c ex s q M M M M M (al.ac j) M M M (T.ac j) (Z.ac j) (an.ac j) (ax.ac j)) (dx 4 (λ_=>(jn E 46 9 5 0 V V V V V)) (hP 5 (λO=>(jc E λ_ _ j q=>fW ex _ q (by(try simp only[BS]at O);(first|omega|(dsimp only;omega))) (by(try simp only[BS]at O);(first|omega|(dsimp only;omega))) (by(try simp only[BS]at O);(first|omega|(dsimp only;omega))) (T.ac j) M M)) Hn_)))) E V V λea f6 fi b0 b8=>?_
  refine ag ⟨.inr V,_,V,_,_,(fT (U) b0),(HS.G3 b8),V,(by exact((jO h1 M).trans (by unfold wfK;(repeat rw[if_neg M])<;>first|rfl|(rw[if_pos M]<;>first|rfl|(simp only[dX]<;>rfl)))).symm)⟩
 refine wr 1 [] 108 109 [] [(108,(s.j==4))] trivial V V λ_=>zI 1 1 (λc7=>?_) λc7=>?_
 ·refine sj 1 110 122 [2] [(2,((onV s&&wfE s.val)&&((Q s.G7:Int)==0)))] (Hr_ 0 0 (Hk_ 1 (jc E λ_ _ j q=>only_c ex s q M M M M M (al.ac j) M M M (T.ac j) (Z.ac j) (an.ac j) (ax.ac j)) (dx 4 (λ_=>(jn E 46 9 5 0 V V V V V)) (hP 5 (λO=>(jc E λ_ _ j q=>fW ex _ q (by(try simp only[BS]at O);(first|omega|(dsimp only;omega))) (by(try simp only[BS]at O);(first|omega|(dsimp only;omega))) (by(try simp only[BS]at O);(first|omega|(dsimp only;omega))) (T.ac j) M M)) (dx 9 (λ_=>(jl E 51 16 0 V V V)) Hn_))))) E V V λee f7 fk b2 b9=>?_
  refine ag ⟨.inr V,_,V,_,_,(fT (U) b2),(HS.G3 b9),V,(by exact((jO h1 M).trans (by unfold wfK;(repeat rw[if_neg M])<;>first|rfl|(rw[if_pos M]<;>first|rfl|(simp only[dX]<;>rfl)))).symm)⟩
 refine wr 1 [] 123 124 [] [(123,(s.j==5))] trivial V V λ_=>zI 1 1 (λc8=>?_) λc8=>?_
 ·refine sj 1 125 134 [2] [(2,(((((Q s.G4:Int)==0)&&((Q s.G7:Int)==0))&&onV s)&&wfE s.val))] (dx 2 (λ_=>(jn E 63 0 17 0 V V V V V)) (hP 3 (λO=>(jc E λ_ _ j q=>only_c ex s q (by(try simp only[BS]at O);(first|omega|(dsimp only;omega))) (by(try simp only[BS]at O);(first|omega|(dsimp only;omega))) (by(try simp only[BS]at O);(first|omega|(dsimp only;omega))) (by(try simp only[BS]at O);(first|omega|(dsimp only;omega))) (by(try simp only[BS]at O);(first|omega|(dsimp only;omega))) (al.ac j) (by(try simp only[BS]at O);(first|omega|(dsimp only;omega))) (by(try simp only[BS]at O);(first|omega|(dsimp only;omega))) (by(try simp only[BS]at O);(first|omega|(dsimp only;omega))) (T.ac j) (Z.ac j) (an.ac j) (ax.ac j))) (dx 7 (λ_=>(jn E 46 9 5 0 V V V V V)) (hP 8 (λO=>(jc E λ_ _ j q=>fW ex _ q (by(try simp only[BS]at O);(first|omega|(dsimp only;omega))) (by(try simp only[BS]at O);(first|omega|(dsimp only;omega))) (by(try simp only[BS]at O);(first|omega|(dsimp only;omega))) (T.ac j) M M)) Hn_)))) E V V λem f9 fq b3 ch=>?_
  refine ag ⟨.inr V,_,V,_,_,(fT (U) b3),(HS.G3 ch),V,(by exact((jO h1 M).trans (by unfold wfK;(repeat rw[if_neg M])<;>first|rfl|(rw[if_pos M]<;>first|rfl|(simp only[dX]<;>rfl)))).symm)⟩
 refine wr 1 [] 135 136 [] [(135,(s.j==6))] trivial V V λ_=>zI 1 1 (λc9=>?_) λc9=>?_
 ·refine sj 1 137 162 [2] [(2,((((((((Q s.G4:Int)==0)&&((Q s.G7:Int)==0))&&vnm s.pp.b)&&vnm s.K.b)&&(s.n==0))&&isZ s.G2)&&isZ s.val))] (dx 3 (λ_=>(jl E 9 1 0 V V V)) (hP 4 (λ_=>(jc E λ_ _ _ q=>hU ex _ q X)) (dx 8 (λ_=>(jl E 9 2 0 V V V)) (hP 9 (λ_=>(jc E λ_ _ _ q=>hU ex _ q X)) (dx 13 (λ_=>(jl E 3 3 0 V V V)) (dx 18 (λ_=>(jn E 46 4 5 0 V V V V V)) (hP 19 (λO=>(jc E λ_ _ j q=>iO ex _ q (by(try simp only[BS]at O);(first|omega|(dsimp only;omega))) (by(try simp only[BS]at O);(first|omega|(dsimp only;omega))) (by(try simp only[BS]at O);(first|omega|(dsimp only;omega))) (al.ac j))) (dx 23 (λ_=>(jn E 46 9 5 0 V V V V V)) (hP 24 (λO=>(jc E λ_ _ j q=>iO ex _ q (by(try simp only[BS]at O);(first|omega|(dsimp only;omega))) (by(try simp only[BS]at O);(first|omega|(dsimp only;omega))) (by(try simp only[BS]at O);(first|omega|(dsimp only;omega))) (T.ac j))) Hn_))))))))) E V V λet gm fu b4 ci=>?_
  refine ag ⟨.inr V,_,V,_,_,(fT (U) b4),(HS.G3 ci),V,(by exact((jO h1 M).trans (by unfold wfK;(repeat rw[if_neg M])<;>first|rfl|(rw[if_pos M]<;>first|rfl|(simp only[dX]<;>rfl)))).symm)⟩
 refine wr 1 [] 163 164 [] [(163,(s.j==7))] trivial V V λ_=>zI 1 3 (λdk=>?_) λdk=>?_
 ·refine sj 1 165 201 [2] [(2,((((((((((Q s.G4:Int)==0)&&((Q s.G7:Int)==0))&&(s.pp.b==zCB2))&&(s.K.b==zCB2))&&(decide ((0:Int)<=s.n)))&&(decide (s.n<=1000000)))&&isZ s.G2)&&isZ s.val)&&((Q s.y:Int)==0)))] (dx 3 (λ_=>(jl E 9 1 0 V V V)) (dx 8 (λ_=>(jl E 9 2 0 V V V)) (dx 13 (λ_=>(jl E 3 3 0 V V V)) (dx 18 (λ_=>(jl E 3 3 0 V V V)) (dx 23 (λ_=>(jn E 46 4 5 0 V V V V V)) (hP 24 (λO=>(jc E λ_ _ j q=>iO ex _ q (by(try simp only[BS]at O);(first|omega|(dsimp only;omega))) (by(try simp only[BS]at O);(first|omega|(dsimp only;omega))) (by(try simp only[BS]at O);(first|omega|(dsimp only;omega))) (al.ac j))) (dx 28 (λ_=>(jn E 46 9 5 0 V V V V V)) (hP 29 (λO=>(jc E λ_ _ j q=>iO ex _ q (by(try simp only[BS]at O);(first|omega|(dsimp only;omega))) (by(try simp only[BS]at O);(first|omega|(dsimp only;omega))) (by(try simp only[BS]at O);(first|omega|(dsimp only;omega))) (T.ac j))) (dx 33 (λ_=>(jl E 44 14 0 V V V)) Hn_))))))))) E V V λez go f1 b5 co=>?_
  refine ag ⟨.inr V,_,V,_,_,(fT (U) b5),(HS.G3 co),V,(by exact((jO h1 M).trans (by unfold wfK;(repeat rw[if_neg M])<;>first|rfl|(rw[if_pos M]<;>first|rfl|(simp only[dX]<;>rfl)))).symm)⟩
 refine wr 1 [] 2 2 [] [(2,false)] trivial V V λ_=>ag ⟨.inr V,_,V,_,_,(U),(HS.G3 E),V,(by exact((jO h1 M).trans (by unfold wfK;(repeat rw[if_neg M])<;>first|rfl|(rw[if_pos M]<;>first|rfl|(simp only[dX]<;>rfl)))).symm)⟩
theorem ov: ∀(fuel:Nat) {ar} {bn:Nat} (l:List StmT) {F} {H:Heap} {R:List Fp} (hs:Hb H F H [] R) (hl:Sr F ar l bn) (hn:fw l<4611686018427387904) (hx:oQ l),fw l<fuel->kKt ex 71 [(S_ ar l bn)] H λv H'=> ∃(x:Bool),∃F',F.le F'/\Hb H F' H' [] R/\v= .bool x/\x=dB l:=by
 intro fuel;induction fuel with
 |zero=>intros;omega
 |succ fuel ih=>
 intro ar bn l F H R hs hl hn hx hA;have hz:=nL l;refine ay Tryz.func71 V V (aj 1 V (wr 3 [] 2 2 [] [(2,false)] trivial V V λ_=>wr 2 [] 1 0 [3] [(3,(.int _ 0))] trivial V V λ_=>ak (λ(mm:Nat) f H'=> ∃(i:Nat),∃F',F.le F'/\HS _ F' H' [] R/\aI f [(0,(sL ar _ bn)),(3,(.int _ (i:Int)))]/\mm=Q l-i/\(dB l=dB (l.drop i))/\(i<=Q l)) _ ⟨0,_,fR,hs,f_,V,k_,M⟩ ?_));rintro hu f3 H3 ⟨i,F3,a2,al,bl,rfl,h1,hi⟩ dn;refine aw _ bl (λ_=>?_);clear bl;have hl:=hl.ac a2;refine aj 2 V (wr 1 [] 4 7 [] [(7,(decide ((i:Int)<(Q l:Int))))] trivial V V λ_=>zd 4 5 (λc5=>?_) λc5=>?_)
 ·have qa:=ns_at (l:=l) (i:=i) M;have qs:=ns_s (Y l i n_);have e3:=nbs_s hx (i:=i) M;have⟨_,_,_,_,_,hf,hg⟩:=nb_s e3;refine dq 10 33 [] [(33,(((!(wfA (Y l i n_)))||(!(dB (Y l i n_).G4)))||(!(dB (Y l i n_).G7))))] (λH'=> ∃F',F3.le F'/\Hb H F' H' [] R) ?_ ?_
  ·refine ab (zm _ (zm _ (ad (v:=(.pointer (some ⟨_,sO (sL ar _ bn)+i *Rp.sz StmT,_⟩))) (dw (j:=(i:Int)) V V V V (SR.sv hl al) M M) V V ?_)));have⟨g8,b1,bw⟩:=Sv.at (SR.sv hl al) (aT (x:=n_) (show i<Q l from by omega));obtain⟨e4,g1,b4,dt,b5,d1,b6,d2,b7,d3,rfl,e7,e8,fb,fd,fi,fk,c4,c6,bf,a6,a7,a8,a9⟩:=(StmT.out b1)
   refine ad (v:=(aG [_,_,_,_,_,_,_,_,_,_,_,_,_,_,_,_,_])) (cm (i:=0) V V V bw V V V) V V (zc (wfstmt_c ex _ (HS.call al) M M M M M bf M M M a6 a7 a8 a9 M M) ?_);rintro _ hp ⟨hv,hj,Z,T,rfl,rfl⟩;replace T:=HS.G8 al V T;have hl:=hl.ac Z;refine ad (bY V) V V (zm (.bool (!(wfA (Y l i _)))) (bM V V (λE=>?_) (λE=>?_)))
   ·have aA:=E;try simp only[BS]at aA
    refine zm _ (aC V E (zm _ (aC V E (ad (v:=(.pointer (some ⟨_,sO (sL ar _ bn)+i *Rp.sz StmT,_⟩))) (dw (j:=(i:Int)) V V V V (SR.sv hl T) M M) V V (aC V E ?_)))));refine ad (v:=(.pointer (some ⟨_,sO (sL ar _ bn)+i *Rp.sz StmT+15,_⟩))) (bI V V) V V (aC V E ?_);have⟨g9,b2,bF⟩:=Sv.at (SR.sv hl T) (aT (x:=n_) (show i<Q l from by omega));obtain⟨e5,g2,b8,d4,b9,d5,ch,d6,ci,d7,rfl,fq,fu,f1,f2,f4,f5,c7,c8,g4,em,et,ba,ez⟩:=(StmT.out b2)
    refine ad (aU V V bF V V) V V (aC V E (zc (ih _ (HS.call T) ba M M M) ?_));rintro _ hq ⟨hw,hk,an,U,rfl,rfl⟩;replace U:=HS.G8 T V U;have hl:=hl.ac an;refine aC V E (ad (bY V) V V (ad (v:=(.bool (!(dB (Y l i _).G4)))) (aH V E V) V V (zm (.bool (!(dB (Y l i _).G4))) (bM V V (λO=>?_) (λO=>?_)))))
    ·have a1:=O;try simp only[BS]at a1
     refine zm _ (aC V O (zm _ (aC V O (ad (v:=(.pointer (some ⟨_,sO (sL ar _ bn)+i *Rp.sz StmT,_⟩))) (dw (j:=(i:Int)) V V V V (SR.sv hl U) M M) V V (aC V O ?_)))));refine ad (v:=(.pointer (some ⟨_,sO (sL ar _ bn)+i *Rp.sz StmT+16,_⟩))) (bI V V) V V (aC V O ?_);have⟨he,b3,b0⟩:=Sv.at (SR.sv hl U) (aT (x:=n_) (show i<Q l from by omega));obtain⟨e6,g3,co,d8,cL,d9,c0,ea,c3,ee,rfl,f6,f7,f9,gm,go,g0,c9,dk,g5,e0,e1,e2,bb⟩:=(StmT.out b3)
     refine ad (aU V V b0 V V) V V (aC V O (zc (ih _ (HS.call U) bb M M M) ?_));rintro _ hr ⟨hy,hm,bt,ax,rfl,rfl⟩;replace ax:=HS.G8 U V ax;refine aC V O (ad (bY V) V V (ad (v:=(.bool (!(dB (Y l i _).G7)))) (aH V O V) V V (aB ?_)));exact ao ⟨V,⟨_,(fT (fT (fT fR Z) an) bt),HS.sub ax (List.Sublist.refl _)⟩,(by repeat' first|exact Lr|refine Lu V ?_),(agC (congrArg _ (show(!(dB (Y l i _).G7))=(((!(wfA (Y l i _)))||(!(dB (Y l i _).G4)))||(!(dB (Y l i _).G7))) by simp only[↓E,↓O,BT])) agN)⟩
    have a1:=O;try simp only[BS]at a1
    refine ae V O V (ae V O V (ae V O V (ae V O V (ae V O V (ae V O V ?_)))));refine ad (v:=(.bool true)) (aq V O V) V V (aB ?_);exact ao ⟨V,⟨_,(fT (fT fR Z) an),HS.sub U (List.Sublist.refl _)⟩,(by repeat' first|exact Lr|refine Lu V ?_),(agC (congrArg _ (show true=(((!(wfA (Y l i _)))||(!(dB (Y l i _).G4)))||(!(dB (Y l i _).G7))) by simp only[↓E,↓O,BT])) agN)⟩
   have aA:=E;try simp only[BS]at aA
   refine ae V E V (ae V E V (ae V E V (ae V E V (ae V E V (ae V E V ?_)))));refine ad (v:=(.bool true)) (aq V E V) V V (zm (.bool true) (ae V V V (ae V V V (ae V V V (ae V V V ?_)))));refine ae V V V (ae V V V (ae V V V (ad (v:=(.bool true)) (aq V V V) V V (aB ?_))));exact ao ⟨V,⟨_,(fT fR Z),HS.sub T (List.Sublist.refl _)⟩,(by repeat' first|exact Lr|refine Lu V ?_),(agC (congrArg _ (show true=(((!(wfA (Y l i _)))||(!(dB (Y l i _).G4)))||(!(dB (Y l i _).G7))) by simp only[↓E,BT])) agN)⟩
  skip;rintro ht ho ⟨hh,a4,a5⟩;refine aj 1 V (zI 1 2 (λa3=>?_) λa3=>?_)
  ·have gs:=wt_no (l:=l) (i:=i) M a3;refine wr 1 [] 2 2 [] [(2,false)] trivial V V λ_=>ag ⟨.inr V,_,V,_,_,(fT (a2) a4),(HS.G3 a5),V,(h1.trans gs).symm⟩
  have g6:=wt_go (l:=l) (i:=i) M a3;refine wr 1 [] 8 9 [3] [(3,(.int _ _))] (vA (vi) trivial) V V λ_=>?_
  refine dn _ _ _ ?_ ⟨i+1,_,(fT (a2) a4),a5,f_,V,(h1.trans g6),M⟩;omega
 refine wr 1 [] 2 2 [] [(2,true)] trivial V V λ_=>ag ⟨.inr V,_,V,_,_,(a2),(HS.G3 al),V,(h1.trans (wt_end M)).symm⟩
theorem wfstmts_c{E O}(l:List StmT)(hs:Hb H F H [] R)(T:Sr F E l O)(U:fw l<4611686018427387904)(Z:oQ l):kKt ex 71 [(S_ E l O)] H λv H'=> ∃(x:Bool),∃F',F.le F'/\Hb H F' H' [] R/\v= .bool x/\x=dB l:=
 ov ex (fw l+1) l hs T U Z (a0y _)
theorem wf_c{ba b6 a9 b5}(p:PrgT)(hs:Hb H F H [] R)(a1:Sr F a9 p.d b5)(T:Sr F ba p.U b6)(hn:SmP p)(hx:NbP p):kKt ex 33 [(aG [(S_ a9 p.d b5),(S_ ba p.U b6)])] H λv H'=> ∃(x:Bool),∃F',F.le F'/\Hb H F' H' [] R/\v= .bool x/\x=wfP p:=by
 have⟨hW,hX,ht⟩:=hn;have⟨hq,hr⟩:=hx;refine ay Tryz.func33 V V (aj 1 V (ab (bd (aW hs V V) V V ?_)));rintro _ H2 _ ⟨b1,rfl,d2,_⟩;refine za _ (ai 3 V (wr 2 [] 1 0 [3] [(3,(.int _ 0))] trivial V V λ_=>ak (λ(mm:Nat) f H'=> ∃(i:Nat),∃F',F.le F'/\HS _ F' H' [[(b1,.cells [_,_] _ _)]] R/\aI f [(1,(pT b1 0)),(3,(.int _ (i:Int)))]/\mm=Q p.d-i/\(p.d.all anB=(p.d.drop i).all anB)/\(i<=Q p.d)) _ ⟨0,_,fR,d2,f_,V,k_,M⟩ ?_));rintro g3 f4 H4 ⟨i,F4,al,an,ch,rfl,h1,hi⟩ d3;refine aw _ ch (λ_=>?_);clear ch;have⟨a1,T⟩:=M2 al a1 T;refine aj 2 V (bQ 1 8 12 [] [(12,(decide ((i:Int)<(Q p.d:Int))))] (Hr_ 2 0 Hn_) an V V λ_=>zd 4 6 (λc6=>?_) λc6=>?_)
 ·refine ab ?_;have⟨f9,ci⟩:=Sv.Gg (SR.sv a1 an);have e1:=ArrT.fx (ci i);refine cS 6 0 15 20 [] [(20,(tX (Y p.d i _).pp.b))] (Hr_ 1 0 (Ha_ (Sv.ix (SR.sv a1 an)) (Hl_ 5 (ql 9 0 (ArrT.vw (ci i)) V V) Hn_))) an V V λ_=>zc (hU ex (Y p.d i _).pp.b (HS.call an) (hq _ (cr M))) ?_
  rintro _ fk ⟨g4,e8,bn,a2,rfl,rfl⟩;replace a2:=HS.G8 an V a2;refine cu 1 7 22 22 [] [(22,(!(vnm (Y p.d i _).pp.b)))] Hn_ V V λ_=>ai 1 V (zI 1 2 (λbb=>?_) λbb=>?_)
  ·have ar:=al_no (p:=anB) (l:=p.d) (i:=i) M bb;refine wr 1 [] 2 2 [] [(2,false)] trivial V V λ_=>ag ⟨.inr V,_,V,_,_,(fT (al) bn),(HS.G3 a2),V,(wp_1 (h1.trans ar)).symm⟩
  have a7:=al_go (p:=anB) (l:=p.d) (i:=i) M bb;refine wr 1 [] 13 14 [3] [(3,(.int _ _))] (vA (vi) trivial) V V λ_=>?_
  refine d3 _ _ _ ?_ ⟨i+1,_,(fT (al) bn),a2,f_,V,(h1.trans a7),M⟩;omega
 have h2:=h1.trans (m5 M);refine wr 2 [] 1 0 [4] [(4,(.int _ 0))] trivial V V λ_=>ak (λ(mm:Nat) f H'=> ∃(i:Nat),∃F',F4.le F'/\HS _ F' H' _ R/\aI f [(1,(pT b1 0)),(4,(.int _ (i:Int)))]/\mm=Q p.U-i/\(p.U.all wfF=(p.U.drop i).all wfF)/\(i<=Q p.U)) _ ⟨0,_,fR,an,f_,V,k_,M⟩ ?_
 rintro e6 gm fq ⟨i,c9,Z,U,bF,rfl,g1,hk⟩ c7;refine aw _ bF (λ_=>?_);clear bF;have T:=T.ac Z;refine aj 2 V (bQ 1 23 27 [] [(27,(decide ((i:Int)<(Q p.U:Int))))] (Hr_ 2 0 Hn_) U V V λ_=>zd 4 5 (λdt=>?_) λdt=>?_)
 ·have hV:Q ((([⟨(Y p.U i n_).pp.b⟩]:List Str)++(Y p.U i n_).A)++(Y p.U i n_).B)=Q (wlF (Y p.U i n_)):=rfl;have e5:=wl_len (Y p.U i n_);have hT:=ht (Y p.U i n_) (cr M);have co:=hr (Y p.U i n_) (cr M);refine ab ?_;have⟨ez,b4⟩:=Sv.Gg (SR.sv T U);have⟨d6,d7,d8,b8,b9,a5,a6⟩:=FunT.fx (b4 i);refine cS 5 0 30 34 [] [(34,(aG [_,_,_,_,_,_,_,_,_]))] (Hr_ 1 0 (Ha_ (Sv.ix (SR.sv T U)) (Hl_ 4 (qn 53 0 9 (FunT.vw (b4 i)) V V V V) Hn_))) U V V λ_=>zn U V λdn fu c3=>sgo 1 6 1 0 [] [] (Hr_ 6 1 Hn_) c3 V V λe2 f1 b2=>ai 2 V (az V (cC 2 35 36 [] [(36,(tX (Y p.U i _).pp.b))] (Hr_ 1 1 Hn_) b2 V V λ_=>?_))
  refine zld ([⟨(Y p.U i _).pp.b⟩]:List Str) b2 V (RL.cs V RL.nl) V λf6 g0 g6 ea cL a3=>cC 2 38 39 [] [(39,(sL _ _ _))] (Hr_ 4 1 Hn_) a3 V V λ_=>zad 2 cL a3 (SR.sv b8 a3) V V V M (kb V) λf7 g2 g7 ee c0 a8=>zp 2 (bh (aU (i:=2) V V (HS.hc a8.G5 (i:=1) V) V V) V V (iz V) (⟨.inl V,.inr (HS.nin a3 (i:=1) (j:=2) V V e_ (List.Mem.head _)),l_⟩) (zad 2 c0 a8 (SR.sv b9 a8) V V V M (kb V) λdk d4 d5 em aA c4=>?_))
  refine fa _ V V V (aQ 3 V (wr 2 [] 1 0 [7] [(7,(.int _ 0))] trivial V V λ_=>ak (λ(mm:Nat) f H'=> ∃(k:Nat),∃F',c9.le F'/\HS _ F' H' [_,_,d5] R/\aI f [(1,(pT b1 0)),(4,(.int _ _)),(5,(pT dn 0)),(6,(sL dk _ d4)),(7,(.int _ (k:Int)))]/\mm=Q (wlF (Y p.U i n_))-k/\((wlF (Y p.U i _)).all snB=((wlF (Y p.U i n_)).drop k).all snB)/\(k<=Q (wlF (Y p.U i n_)))) _ ⟨0,_,fR,c4,f_,V,k_,M⟩ ?_));rintro e7 go f2 ⟨k,fb,O,E,b0,rfl,k1,hkk⟩ c8;refine aw _ b0 (λ_=>?_);clear b0;have⟨aA,a5,a6⟩:=M3 O aA a5 a6;refine aj 2 V (wr 1 [] 44 47 [] [(47,(decide ((k:Int)<(Q ((([⟨(Y p.U i _).pp.b⟩]:List Str)++(Y p.U i _).A)++(Y p.U i _).B):Int))))] trivial V V λ_=>zd 4 5 (λd1=>?_) λd1=>?_)
  ·refine ab ?_;have⟨e0,c5⟩:=Sv.Gg (OS.sv aA E (i:=2) V);refine cu 4 0 50 53 [] [(53,(tX (Y ((([⟨(Y p.U i _).pp.b⟩]:List Str)++(Y p.U i _).A)++(Y p.U i _).B) k _).b))] (Ha_ (Sv.ix (OS.sv aA E (i:=2) V)) (Hl_ 3 (ql 9 0 (vS (c5 k)) V V) Hn_)) V V λ_=>zc (hU ex ((Y ((([⟨(Y p.U i _).pp.b⟩]:List Str)++(Y p.U i _).A)++(Y p.U i _).B) k _).b) (HS.call E) (wl_nb co M)) ?_
   rintro _ f3 ⟨g5,fd,bt,a4,rfl,rfl⟩;replace a4:=HS.G8 E V a4;refine cu 1 5 55 55 [] [(55,(!(vnm ((Y ((([⟨(Y p.U i _).pp.b⟩]:List Str)++(Y p.U i _).A)++(Y p.U i _).B) k _).b))))] Hn_ V V λ_=>ai 1 V (zI 1 2 (λbf=>?_) λbf=>?_)
   ·have ar:=al_no (p:=snB) (l:=wlF (Y p.U i n_)) (i:=k) M bf;refine wr 1 [] 2 2 [] [(2,false)] trivial V V λ_=>ag ⟨.inr V,_,V,_,_,(fT (fT (fT (al) Z) O) bt),(HS.G3 a4),V,((wp_2 (g1.trans (wf_lno M (k1.trans ar)))).symm)⟩
   have a7:=al_go (p:=snB) (l:=wlF (Y p.U i n_)) (i:=k) M bf;refine wr 1 [] 48 49 [7] [(7,(.int _ _))] (vA (vi) trivial) V V λ_=>?_
   refine c8 _ _ _ ?_ ⟨k+1,_,(fT (O) bt),a4,f_,V,(k1.trans a7),M⟩;omega
  have k2:=k1.trans (m5 M);refine sj 1 56 65 [] [(65,((!(dB (Y p.U i _).G6))||(!(wfE (Y p.U i _).val))))] (Hr_ 1 1 (Hk_ 2 (jc E λ_ _ j q=>wfstmts_c ex _ q (a5.ac j) M (co.2.2.2.1)) (dx 6 (λ_=>(jn E 46 4 5 1 V V V V V)) (hP 7 (λg1=>(jc E λ_ _ j q=>fW ex _ q (by(try simp only[BS]at g1);(first|omega|(dsimp only;omega)|(rw[ax];omega)|(show 1+_<_;omega))) (by(try simp only[BS]at g1);(first|omega|(dsimp only;omega)|(rw[ax];omega)|(show 1+_<_;omega))) (by(try simp only[BS]at g1);(first|omega|(dsimp only;omega)|(rw[ax];omega)|(show 1+_<_;omega))) (a6.ac j) M (co.2.2.2.2))) Hn_)))) E V V λe3 f5 fi bw b3=>?_
  refine zI 1 2 (λbl=>?_) λbl=>?_
  ·have ar:=wf_no2 (l:=p.U) (i:=i) M (by simpa only[dX] using bl);refine wr 1 [] 2 2 [] [(2,false)] trivial V V λ_=>ag ⟨.inr V,_,V,_,_,(fT (fT (fT (al) Z) O) bw),(HS.G3 b3),V,(wp_2 (g1.trans ar)).symm⟩
  have a7:=wf_go2 (l:=p.U) (i:=i) M k2 (by simpa only[dX] using bl);refine wr 1 [] 28 29 [4] [(4,(.int _ _))] (vA (vi) trivial) V V λ_=>?_
  refine c7 _ _ _ ?_ ⟨i+1,_,(fT (fT (Z) O) bw),(HS.sub b3 (a06 _ _)),f_,V,(g1.trans a7),M⟩;omega
 refine wr 1 [] 2 2 [] [(2,true)] trivial V V λ_=>ag ⟨.inr V,_,V,_,_,(fT (al) Z),(HS.G3 U),V,((wp_3 h2 (g1.trans (m5 M))).symm)⟩
end cb
open cb
namespace cc
variable (ex:FuncId) {F:Fz} {H:Heap} {R:List Fp}
structure ScpT where
 F:(List Str)
 d:(List Str)
 p:PrgT
 deriving Inhabited
instance :Rp ScpT where
 sz:=4
 rep F cs x:= ∃a0 k0 a1 k1 a2 k2 a3 k3,cs=[sL a0 (Q x.F) k0,sL a1 (Q x.d) k1,sL a2 (Q x.p.d) k2,sL a3 (Q x.p.U) k3]/\SR F (sL a0 (Q x.F) k0) x.F/\SR F (sL a1 (Q x.d) k1) x.d/\SR F (sL a2 (Q x.p.d) k2) x.p.d/\SR F (sL a3 (Q x.p.U) k3) x.p.U
 len:=by rintro F cs x ⟨a0,k0,a1,k1,a2,k2,a3,k3,rfl,_⟩;rfl
 one:=by rintro F cs x ⟨a0,k0,a1,k1,a2,k2,a3,k3,rfl,_⟩;rfl
 ac:=by rintro F F' cs x hF ⟨a0,k0,a1,k1,a2,k2,a3,k3,rfl,h0,h1,h2,h3⟩;exact⟨a0,k0,a1,k1,a2,k2,a3,k3,V,h0.ac hF,h1.ac hF,h2.ac hF,h3.ac hF⟩
theorem hs_y{l:List Str}{s:List UInt8}{i:Nat}(h:i<Q l)(c:(Y l i n_).b=s):eI (l.drop i) s=true:=by unfold eI;rw[iT h,c,BEq.rfl];rfl
theorem hs_n{l:List Str}{s:List UInt8}{i:Nat}(h:i<Q l)(c:(Y l i n_).b≠s):eI (l.drop i) s=eI (l.drop (i+1)) s:=by unfold eI;rw[iT h,beq_eq_false_iff_ne.2 c];rfl
theorem ff_y{s:List UInt8}{l:List FunT}{i:Nat}(h:i<Q l)(c:(Y l i n_).pp.b=s):ffN s (l.drop i) i=(i:Int):=by rw[cz (d:=n_) h,ffN,if_pos c]
theorem ff_n{s:List UInt8}{l:List FunT}{i:Nat}(h:i<Q l)(c:(Y l i n_).pp.b≠s):ffN s (l.drop i) i=ffN s (l.drop (i+1)) (i+1):=by rw[cz (d:=n_) h,ffN,if_neg c]
theorem ff_e{s:List UInt8}{l:List FunT}{i:Nat}(h:Q l<=i):ffN s (l.drop i) i= -1:=by rw[ew h,ffN]
theorem df_e(vs aa:List Str)(e:ExpT):dfE vs aa e=(fC vs aa e.I&&((e.j !=2)||eI vs e.pp.b)&&((e.j !=3)||eI aa e.pp.b)):=by cases e;rw[dfE]
theorem ds_go{vs aa:List Str}{l:List ExpT}{i:Nat}(h:i<Q l)(c:dfE vs aa (Y l i n_)=true):fC vs aa (l.drop i)=fC vs aa (l.drop (i+1)):=by rw[cz (d:=n_) h,fC,c];rfl
theorem ds_no{vs aa:List Str}{l:List ExpT}{i:Nat}(h:i<Q l)(c:dfE vs aa (Y l i n_)=false):fC vs aa (l.drop i)=false:=by rw[cz (d:=n_) h,fC,c];rfl
theorem df_no{vs aa:List Str}{l:List ExpT}{a b:Bool}(h:fC vs aa l=false):(fC vs aa l&&a&&b)=false:=by rw[h];rfl
theorem df_go{vs aa:List Str}{l:List ExpT}{i:Nat}{a b:Bool}(h:fC vs aa l=fC vs aa (l.drop i))(hi:Q l<=i):(fC vs aa l&&a&&b)=(a&&b):=by rw[h,ew hi,fC,a1b]
theorem dk_1{vs aa:List Str}{p:PrgT}{s:StmT}(h:fC vs aa s.y=false):dfK vs aa p s=false:=by unfold dfK;rw[h];rfl
theorem dk_2{vs aa:List Str}{p:PrgT}{s:StmT}(h:dfE vs aa s.G2=false\/dfE vs aa s.val=false):dfK vs aa p s=false:=by unfold dfK;rcases h with h|h<;>rw[h]<;>simp
theorem dk_3{vs aa:List Str}{p:PrgT}{s:StmT}{i:Nat}{b:Bool}(h:fC vs aa s.y=fC vs aa (s.y.drop i))(hi:Q s.y<=i)(c:dfE vs aa s.G2=true/\dfE vs aa s.val=true)(e:swK vs aa p s=b):dfK vs aa p s=b:=by unfold dfK;rw[h,ew hi,fC,c.1,c.2,e];rfl
def csS(cnt:Bool)(x:ScpT)(l:List StmT):Bool:=if cnt=true then nv x.p l else i5 x.F x.d x.p l
theorem df_s(vs aa:List Str)(p:PrgT)(s:StmT):dfS vs aa p s=(dfK vs aa p s&&i5 vs aa p s.G4&&i5 vs aa p s.G7):=by cases s;rw[dfS]
theorem ar_s(p:PrgT)(s:StmT):arS p s=(arK p s&&nv p s.G4&&nv p s.G7):=by cases s;rw[arS]
theorem cs_end{cnt:Bool}{x:ScpT}{l:List StmT}{i:Nat}(h:Q l<=i):csS cnt x (l.drop i)=true:=by unfold csS;rw[ew h,nv,i5];split<;>rfl
def cnK(cnt:Bool)(x:ScpT)(s:StmT):Bool:=if cnt=true then arK x.p s else dfK x.F x.d x.p s
theorem cs_b{cnt:Bool}{x:ScpT}{l:List StmT}{i:Nat}(h:i<Q l):csS cnt x (l.drop i)=(cnK cnt x (Y l i n_)&&csS cnt x (Y l i n_).G4&&csS cnt x (Y l i n_).G7&&csS cnt x (l.drop (i+1))):=by
 unfold csS cnK;rw[cz (d:=n_) h];split
 ·rw[nv,ar_s]
 rw[i5,df_s]
theorem cs_no{cnt:Bool}{x:ScpT}{l:List StmT}{i:Nat}(h:i<Q l)(c:cnK cnt x (Y l i n_)=false\/csS cnt x (Y l i n_).G4=false\/csS cnt x (Y l i n_).G7=false):csS cnt x (l.drop i)=false:=by rw[cs_b h];rcases c with c|c|c<;>rw[c]<;>simp
theorem cs_go{cnt:Bool}{x:ScpT}{l:List StmT}{i:Nat}(h:i<Q l)(k:cnK cnt x (Y l i n_)=true)(c:csS cnt x (Y l i n_).G4=true/\csS cnt x (Y l i n_).G7=true):csS cnt x (l.drop i)=csS cnt x (l.drop (i+1)):=by rw[cs_b h,k,c.1,c.2];rfl
theorem cn_1{cnt:Bool}{x:ScpT}{s:StmT}(h:cnt=true)(c:((s.j==6)&&((Q s.y:Int) !=(Q (Y x.p.U (ffP x.p s.K.b).toNat n_).A:Int)))=true):cnK cnt x s=false:=by unfold cnK;rw[if_pos h];show(!_)=false;rw[c];rfl
theorem cn_2{cnt:Bool}{x:ScpT}{s:StmT}(h:cnt=true)(c:((s.j==6)&&((Q s.y:Int) !=(Q (Y x.p.U (ffP x.p s.K.b).toNat n_).A:Int)))=false):cnK cnt x s=true:=by unfold cnK;rw[if_pos h];show(!_)=true;rw[c];rfl
theorem cn_3{cnt:Bool}{x:ScpT}{s:StmT}(h:cnt=false)(c:dfK x.F x.d x.p s=false):cnK cnt x s=false:=by unfold cnK;rw[if_neg (by rw[h];decide)];exact c
theorem cn_4{cnt:Bool}{x:ScpT}{s:StmT}(h:cnt=false)(c:dfK x.F x.d x.p s=true):cnK cnt x s=true:=by unfold cnK;rw[if_neg (by rw[h];decide)];exact c
theorem ffN_lt(s:List UInt8): ∀(l:List FunT) (i:Nat),ffN s l i<(i:Int)+(Q l:Int)
 | [],i=>by rw[ffN,a03];omega
 |f::l,i=>by have:=ffN_lt s l (i+1);rw[ffN,a02];split<;>omega
theorem ff_in{vs aa:List Str}{p:PrgT}{s:StmT}(h:dfK vs aa p s=true)(k:(s.j==6)=true):0<=ffP p s.K.b/\ffP p s.K.b<(Q p.U:Int):=by
 unfold dfK at h;rw[a04]at h;have E:=h.2;unfold swK at E;rw[if_neg (by rw[eq_of_beq k];decide),if_pos (eq_of_beq k),a04,decide_eq_true_eq]at E;have:=ffN_lt s.K.b p.U 0;have q:ffP p s.K.b<(Q p.U:Int):=by unfold ffP;omega
 exact⟨E.2,q⟩
theorem dfs_at{vs aa:List Str}{p:PrgT}: ∀{l:List StmT} {i:Nat},i5 vs aa p l=true->i<Q l->dfS vs aa p (Y l i n_)=true
 |s::l,0,h,_=>by rw[i5,a04]at h;exact h.1
 |s::l,i+1,h,hi=>by rw[i5,a04]at h;exact dfs_at (l:=l) h.2 (by simpa using hi)
theorem cs_at{vs aa:List Str}{p:PrgT}{l:List StmT}{i:Nat}(h:i5 vs aa p l=true)(hi:i<Q l):dfK vs aa p (Y l i n_)=true/\i5 vs aa p (Y l i n_).G4=true/\i5 vs aa p (Y l i n_).G7=true:=by have:=dfs_at h hi;rw[df_s,a04,a04]at this;exact⟨this.1.1,this.1.2,this.2⟩
theorem oa{al ar}(l:List Str)(s:List UInt8)(hs:Hb H F H [] R)(hl:Sr F al l ar)(hn:Q l<4611686018427387904):kKt ex 73 [(S_ al l ar),(tX s)] H λv H'=> ∃(o:Bool),H'=H/\v= .bool o/\o=eI l s:=by
 refine ay Tryz.func73 V V (aj 1 V (wr 3 [] 4 4 [] [(4,false)] trivial V V λ_=>wr 2 [] 1 0 [5] [(5,(.int _ 0))] trivial V V λ_=>ak (λ(mm:Nat) f H'=> ∃(i:Nat),H'=H/\aI f [(0,(sL al _ ar)),(1,(tX s)),(5,(.int _ (i:Int)))]/\mm=Q l-i/\(eI l s=eI (l.drop i) s)/\(i<=Q l)) _ ⟨0,V,f_,V,k_,M⟩ ?_));rintro ax f3 H ⟨i,rfl,O,rfl,T,hi⟩ Z;refine aw _ O (λ_=>?_);clear O;refine aj 2 V (wr 1 [] 6 9 [] [(9,(decide ((i:Int)<(Q l:Int))))] trivial V V λ_=>zd 4 5 (λc5=>?_) λc5=>?_)
 ·have⟨an,U⟩:=Sv.Gg (SR.sv hl hs);refine wrp 1 12 17 [] [(17,((Y l i _).b==s))] (Ha_ (Sv.ix (SR.sv hl hs)) (Hl_ 3 (ql 9 0 (vS (U i)) V V) Hn_)) V V λ_=>zi 1 2 (λE=>?_) λE=>?_
  ·try simp only[BS]at E
   have aA:=hs_y (l:=l) (i:=i) M E;refine wr 1 [] 4 4 [] [(4,true)] trivial V V λ_=>ag ⟨.inr V,_,V,_,V,V,(T.trans aA).symm⟩
  try simp only[BS]at E
  have a1:=hs_n (l:=l) (i:=i) M E;refine wr 1 [] 10 11 [5] [(5,(.int _ _))] (vA (vi) trivial) V V λ_=>?_
  refine Z _ _ _ ?_ ⟨i+1,V,f_,V,(T.trans a1),M⟩;omega
 refine wr 1 [] 4 4 [] [(4,false)] trivial V V λ_=>ag ⟨.inr V,_,V,_,V,V,(T.trans (any_end M)).symm⟩
theorem dv{E O}(l:List Str)(s:List UInt8)(hs:Hb H F H [] R)(T:Sr F E l O)(U:Q l<4611686018427387904):kKt ex 73 [(S_ E l O),(tX s)] H λv H'=>v=(.bool (eI l s))/\H'=H:=
 cq (oa ex l s hs T U) (by rintro _ _ ⟨_,rfl,rfl,rfl⟩;exact⟨V,V⟩)
theorem find_c{al ax Z an}(p:PrgT)(s:List UInt8)(hs:Hb H F H [] R)(ba:Sr F Z p.d an)(O:Sr F al p.U ax)(hn:Q p.U<4611686018427387904):kKt ex 74 [(aG [(S_ Z p.d an),(S_ al p.U ax)]),(tX s)] H λv H'=> ∃(x:Int),∃F',F.le F'/\Hb H F' H' [] R/\v=iI x/\x=ffP p s/\(-1<=x/\x<(Q p.U:Int)):=by
 refine ay Tryz.func74 V V (aj 1 V (ab (bd (aW hs V V) V V ?_)));rintro _ H2 _ ⟨b1,rfl,a4,_⟩;refine za _ (ai 3 V (wr 2 [] 1 0 [5] [(5,(.int _ 0))] trivial V V λ_=>ak (λ(mm:Nat) f H'=> ∃(i:Nat),∃F',F.le F'/\HS _ F' H' [[(b1,.cells [_,_] _ _)]] R/\aI f [(1,(tX s)),(2,(pT b1 0)),(5,(.int _ (i:Int)))]/\mm=Q p.U-i/\(ffP p s=ffN s (p.U.drop i) i)/\(i<=Q p.U)) _ ⟨0,_,fR,a4,f_,V,k_,M⟩ ?_));rintro bw f4 H4 ⟨i,F4,U,E,aA,rfl,h1,hi⟩ a5;refine aw _ aA (λ_=>?_);clear aA;have O:=O.ac U;refine aj 2 V (bQ 1 6 10 [] [(10,(decide ((i:Int)<(Q p.U:Int))))] (Hr_ 2 0 Hn_) E V V λ_=>zd 4 5 (λc6=>?_) λc6=>?_)
 ·have⟨bt,a1⟩:=Sv.Gg (SR.sv O E);have⟨a7,a8,a9,bb,bf,bl,bn⟩:=FunT.fx (a1 i);refine bQ 1 13 20 [] [(20,((Y p.U i _).pp.b==s))] (Hr_ 1 0 (Ha_ (Sv.ix (SR.sv O E)) (Hl_ 5 (ql 9 0 (FunT.vw (a1 i)) V V) Hn_))) E V V λ_=>zi 1 2 (λT=>?_) λT=>?_
  ·try simp only[BS]at T
   have b2:=ff_y (l:=p.U) (i:=i) M T;refine wr 1 [] 4 4 [21] [(4,(.int _ _))] trivial V V λ_=>ag ⟨.inr V,_,V,_,_,(U),(HS.G3 E),V,M,M⟩
  try simp only[BS]at T
  have bF:=ff_n (l:=p.U) (i:=i) M T;refine wr 1 [] 11 12 [5] [(5,(.int _ _))] (vA (vi) trivial) V V λ_=>?_
  refine a5 _ _ _ ?_ ⟨i+1,_,(U),E,f_,V,(h1.trans bF),M⟩;omega
 refine wr 1 [] 4 4 [] [(4,(.int _ _))] trivial V V λ_=>ag ⟨.inr V,_,V,_,_,(U),(HS.G3 E),V,(h1.trans (ff_e M)).symm,M⟩
theorem dfexpr_c_aux: ∀(fuel:Nat) {a4} {a9:Nat} {a3} {a8:Nat} {a2} {a7:Nat} {a1} {a6:Nat} (x:ScpT) {aA} {a5:Nat} (e:ExpT) {F} {H:Heap} {R:List Fp} (hs:Hb H F H [] R) (Z:Sr F a1 x.F a6) (al:Sr F a2 x.d a7) (an:Sr F a3 x.p.d a8) (ax:Sr F a4 x.p.U a9) (b0:in64 e.j) (b2:in64 e.n) (b4:in64 e.op) (U:Sr F aA e.I a5) (hv:Q x.F<4611686018427387904) (ha:Q x.d<4611686018427387904) (hn:ndE e<4611686018427387904),ndE e<fuel->kKt ex 36 [(aG [(S_ a1 x.F a6),(S_ a2 x.d a7),(S_ a3 x.p.d a8),(S_ a4 x.p.U a9)]),(aG [e.j,e.n,(tX e.pp.b),e.op,(S_ aA e.I a5)])] H λv H'=> ∃(o:Bool),∃F',F.le F'/\Hb H F' H' [] R/\v= .bool o/\o=dfE x.F x.d e:=by
 intro fuel;induction fuel with
 |zero=>intros;omega
 |succ fuel ih=>
 intro a4 a9 a3 a8 a2 a7 a1 a6 x aA a5 e F H R hs Z al an ax b0 b2 b4 U hv ha hn ea;have dk:=nd_e e;have dn:=kX e.I;have bw:=df_e x.F x.d e;refine ay Tryz.func36 V V (aj 1 V (ab (bd (aW hs V V) V V ?_)));rintro _ H2 _ ⟨b1,rfl,b9,_⟩;refine bd (aW b9 V V) V V ?_;rintro _ H4 _ ⟨b3,rfl,ch,_⟩;refine za _ (ai 3 V (wr 2 [] 1 0 [5] [(5,(.int _ 0))] trivial V V λ_=>ak (λ(mm:Nat) f H'=> ∃(i:Nat),∃F',F.le F'/\HS _ F' H' [[(b1,.cells [_,_,_,_] _ _)],[(b3,.cells [_,_,_,_,_] _ _)]] R/\aI f [(2,(pT b1 0)),(3,(pT b3 0)),(5,(.int _ (i:Int)))]/\mm=Q e.I-i/\(fC _ _ e.I=fC x.F x.d (e.I.drop i))/\(i<=Q e.I)) _ ⟨0,_,fR,ch,f_,V,k_,M⟩ ?_));rintro c7 f6 H6 ⟨i,F6,T,E,bn,rfl,h1,hi⟩ ci;refine aw _ bn (λ_=>?_);clear bn;have⟨U,Z,al,an,ax⟩:=M5 T U Z al an ax;refine aj 2 V (bQ 1 6 10 [] [(10,(decide ((i:Int)<(Q e.I:Int))))] (Hr_ 2 1 Hn_) E V V λ_=>zd 4 5 (λc8=>?_) λc8=>?_)
 ·have qa:=oO (l:=e.I) (i:=i) M;refine az V ?_;have⟨c6,bt⟩:=Sv.Gg (SR.sv U E);have⟨co,cL,c0,bl⟩:=ExpT.fx (bt i);refine cC 6 13 18 [] [(13,(aG [_,_,_,_])),(18,(aG [_,_,_,_,_]))] (Hr_ 0 0 (Hr_ 2 1 (Ha_ (Sv.ix (SR.sv U E)) (Hl_ 5 (qn 46 0 5 (hc0 (ExpT.vw (bt i))) V V V V) Hn_)))) E V V λ_=>bH (W:=[]) (bj V V V) V V V (ih x _ (HS.call E.G5) Z al an ax M M M bl M M M M) (kb V) ?_
  rintro _ b6 ⟨c9,c5,bb,O,rfl,rfl⟩;refine⟨Wr.did O.log,λb5 bf=>?_⟩;replace O:=HS.G8 E.G5 V O;replace O:=HS.lg O E bf;generalize ({b6 with log:=b5}:Heap)=c3 at O⊢;refine wfv (bY V) (aQ 1 V (zI 1 2 (λba=>?_) λba=>?_))
  ·have d6:=ds_no (vs:=x.F) (aa:=x.d) (l:=e.I) (i:=i) M (by simpa only[dX] using ba);refine wr 1 [] 4 4 [] [(4,false)] trivial V V λ_=>ag ⟨.inr V,_,V,_,_,(fT (T) bb),(HS.G3 O),V,(bw.trans (df_no (h1.trans d6))).symm⟩
  have d9:=ds_go (vs:=x.F) (aa:=x.d) (l:=e.I) (i:=i) M (by simpa only[dX] using ba);refine wr 1 [] 11 12 [5] [(5,(.int _ _))] (vA (vi) trivial) V V λ_=>?_
  refine ci _ _ _ ?_ ⟨i+1,_,(fT (T) bb),O,f_,V,(h1.trans d9),M⟩;omega
 refine bQ 1 21 42 [4] [(4,(((e.j !=2)||eI _ _)&&((e.j !=3)||eI _ _)))] (Hr_ 1 1 (dj 5 (λ_=>(ql 50 0 (h_ E V) V V)) (dj 7 (λ_=>(ql 9 2 (i_ E V) V V)) (Hc1_ 8 (λ_=>(dv ex _ _ (HS.call E) Z M)) (dj 12 (λ_=>(ql 3 0 (i_ E V) V V)) (Hl2_ 16 (λ_ _=>(ql 50 1 (h_ E V) V V)) (Hl2_ 18 (λ_ _=>(ql 9 2 (i_ E V) V V)) (Hc2_ 19 (λ_ _=>(dv ex _ _ (HS.call E) al M)) Hn_)))))))) E V V λ_=>ag ⟨.inr V,_,V,_,_,(T),(HS.G3 E),V,(bw.trans (df_go h1 M)).symm⟩
theorem lP{Z a1 U aA T ax O an}(x:ScpT){E al}(e:ExpT)(hs:Hb H F H [] R)(a6:Sr F O x.F an)(a7:Sr F T x.d ax)(a8:Sr F U x.p.d aA)(a9:Sr F Z x.p.U a1)(a2:in64 e.j)(a3:in64 e.n)(a4:in64 e.op)(a5:Sr F E e.I al)(hv:Q x.F<4611686018427387904)(ha:Q x.d<4611686018427387904)(hn:ndE e<4611686018427387904):kKt ex 36 [(aG [(S_ O x.F an),(S_ T x.d ax),(S_ U x.p.d aA),(S_ Z x.p.U a1)]),(aG [e.j,e.n,(tX e.pp.b),e.op,(S_ E e.I al)])] H λv H'=> ∃(o:Bool),∃F',F.le F'/\Hb H F' H' [] R/\v= .bool o/\o=dfE x.F x.d e:=
 dfexpr_c_aux ex (ndE e+1) x e hs a6 a7 a8 a9 a2 a3 a4 a5 hv ha hn (a0y _)
theorem dfstmt_c{bw b7 bt b6 bn b5 bl b4}(x:ScpT){a6 bb a5 ba a4 a9 a3 a8 bf b2}(s:StmT)(hs:Hb H F H [] R)(Z:Sr F bl x.F b4)(ax:Sr F bn x.d b5)(aA:Sr F bt x.p.d b6)(a1:Sr F bw x.p.U b7)(e5:in64 s.j)(e6:in64 s.n)(e7:in64 s.G2.j)(e8:in64 s.G2.n)(fb:in64 s.G2.op)(b0:Sr F bf s.G2.I b2)(fd:in64 s.val.j)(et:in64 s.val.n)(ez:in64 s.val.op)(a7:Sr F a3 s.val.I a8)(a2:Sr F a4 s.y a9)(e0:Sr F a5 s.G4 ba)(e1:Sr F a6 s.G7 bb)(hv:Q x.F<4611686018427387904)(ha:Q x.d<4611686018427387904)(hf:Q x.p.U<4611686018427387904)(hn:ndS s<4611686018427387904):kKt ex 75 [(aG [(S_ bl x.F b4),(S_ bn x.d b5),(S_ bt x.p.d b6),(S_ bw x.p.U b7)]),(aG [s.j,(tX s.pp.b),(tX s.K.b),s.n,s.G2.j,s.G2.n,(tX s.G2.pp.b),s.G2.op,(S_ bf s.G2.I b2),s.val.j,s.val.n,(tX s.val.pp.b),s.val.op,(S_ a3 s.val.I a8),(S_ a4 s.y a9),(S_ a5 s.G4 ba),(S_ a6 s.G7 bb)])] H λv H'=> ∃(o:Bool),∃F',F.le F'/\Hb H F' H' [] R/\v= .bool o/\o=dfK x.F x.d x.p s:=by
 have go:=ns_s s;have g0:=kX s.y;refine ay Tryz.func75 V V (aj 1 V (ab (bd (aW hs V V) V V ?_)));rintro _ H2 _ ⟨b1,rfl,d7,_⟩;refine bd (aW d7 V V) V V ?_;rintro _ H4 _ ⟨b3,rfl,d8,_⟩;refine za _ (ai 3 V (wr 2 [] 1 0 [5] [(5,(.int _ 0))] trivial V V λ_=>ak (λ(mm:Nat) f H'=> ∃(i:Nat),∃F',F.le F'/\HS _ F' H' [[(b1,.cells [_,_,_,_] _ _)],[(b3,.cells [_,_,_,_,_,_,_,_,_,_,_,_,_,_,_,_,_] _ _)]] R/\aI f [(2,(pT b1 0)),(3,(pT b3 0)),(5,(.int _ (i:Int)))]/\mm=Q s.y-i/\(fC _ _ s.y=fC x.F x.d (s.y.drop i))/\(i<=Q s.y)) _ ⟨0,_,fR,d8,f_,V,k_,M⟩ ?_));rintro f5 f6 H6 ⟨i,F6,T,al,c5,rfl,h1,hi⟩ d9;refine aw _ c5 (λ_=>?_);clear c5;have⟨a7,a2,b0,Z,ax,aA,a1⟩:=M7 T a7 a2 b0 Z ax aA a1;refine aj 2 V (bQ 1 6 10 [] [(10,(decide ((i:Int)<(Q s.y:Int))))] (Hr_ 2 1 Hn_) al V V λ_=>zd 4 6 (λc8=>?_) λc8=>?_)
 ·have qa:=oO (l:=s.y) (i:=i) M;refine az V ?_;have⟨f2,c6⟩:=Sv.Gg (SR.sv a2 al);have⟨ea,ee,em,c4⟩:=ExpT.fx (c6 i);refine cC 6 13 18 [] [(13,(aG [_,_,_,_])),(18,(aG [_,_,_,_,_]))] (Hr_ 0 0 (Hr_ 2 1 (Ha_ (Sv.ix (SR.sv a2 al)) (Hl_ 5 (qn 46 0 5 (hc0 (ExpT.vw (c6 i))) V V V V) Hn_)))) al V V λ_=>bH (W:=[]) (bj V V V) V V V (lP ex x _ (HS.call al.G5) Z ax aA a1 M M M c4 M M M) (kb V) ?_
  rintro _ d2 ⟨f7,fi,c0,an,rfl,rfl⟩;refine⟨Wr.did an.log,λdt c3=>?_⟩;replace an:=HS.G8 al.G5 V an;replace an:=HS.lg an al c3;generalize ({d2 with log:=dt}:Heap)=e2 at an⊢;refine wfv (bY V) (aQ 1 V (zI 1 2 (λco=>?_) λco=>?_))
  ·have cp:=ds_no (vs:=x.F) (aa:=x.d) (l:=s.y) (i:=i) M (by simpa only[dX] using co);refine wr 1 [] 4 4 [] [(4,false)] trivial V V λ_=>ag ⟨.inr V,_,V,_,_,(fT (T) c0),(HS.G3 an),V,(dk_1 (h1.trans cp)).symm⟩
  have ar:=ds_go (vs:=x.F) (aa:=x.d) (l:=s.y) (i:=i) M (by simpa only[dX] using co);refine wr 1 [] 11 12 [5] [(5,(.int _ _))] (vA (vi) trivial) V V λ_=>?_
  refine d9 _ _ _ ?_ ⟨i+1,_,(fT (T) c0),an,f_,V,(h1.trans ar),M⟩;omega
 refine sj 1 21 32 [] [(32,((!(dfE _ _ _))||(!(dfE _ _ _))))] (Hr_ 0 0 (Hr_ 2 1 (Hk_ 3 (jc al λ_ _ j q=>lP ex x _ q (Z.ac j) (ax.ac j) (aA.ac j) (a1.ac j) M M M (b0.ac j) M M M) (dx 6 (λ_=>(jn al 75 0 4 0 V V V V V)) (dx 8 (λ_=>(jn al 46 9 5 1 V V V V V)) (hP 9 (λg1=>(jc al λ_ _ j q=>lP ex x _ q (Z.ac j) (ax.ac j) (aA.ac j) (a1.ac j) (by(try simp only[BS]at g1);(first|omega|(dsimp only;omega))) (by(try simp only[BS]at g1);(first|omega|(dsimp only;omega))) (by(try simp only[BS]at g1);(first|omega|(dsimp only;omega))) (a7.ac j) M M M)) Hn_)))))) al V V λe4 d3 d1 U E=>?_
 have⟨Z,ax,aA,a1⟩:=M4 U Z ax aA a1;refine zI 1 3 (λcL=>?_) λcL=>?_
 ·have cp:dfE x.F x.d s.G2=false\/dfE x.F x.d s.val=false:=by simpa only[dX] using cL
  refine wr 1 [] 4 4 [] [(4,false)] trivial V V λ_=>ag ⟨.inr V,_,V,_,_,(fT (T) U),(HS.G3 E),V,(dk_2 cp).symm⟩
 have ar:dfE x.F x.d s.G2=true/\dfE x.F x.d s.val=true:=by simpa only[dX] using cL
 refine bQ 3 33 34 [] [(34,(.int _ _))] (Hr_ 1 1 Hn_) E V V λ_=>wr 1 [] 35 36 [] [(35,(s.j==1))] trivial V V λ_=>zI 1 1 (λd4=>?_) λd4=>?_
 ·refine bQ 1 37 41 [4] [(4,(eI _ _))] (Hr_ 1 0 (Hr_ 3 1 (Hc_ 4 (dv ex _ _ (HS.call E) Z M) Hn_))) E V V λ_=>ag ⟨.inr V,_,V,_,_,(fT (T) U),(HS.G3 E),V,(by exact(dk_3 h1 M ar (by unfold swK;(repeat rw[if_neg M])<;>first|rfl|(rw[if_pos M]<;>rfl))).symm)⟩
 refine wr 1 [] 42 43 [] [(42,(s.j==6))] trivial V V λ_=>zI 1 1 (λd5=>?_) λd5=>?_
 ·refine dq 4 56 [] [(4,(eI x.F s.pp.b&&(decide ((0:Int)<=ffP x.p s.K.b))))] (λH'=> ∃F',d1.le F'/\Hb H F' H' [(fP b1 [(S_ bl x.F b4),(S_ bn x.d b5),(S_ bt x.p.d b6),(S_ bw x.p.U b7)]),(fP b3 [s.j,(tX s.pp.b),(tX s.K.b),s.n,s.G2.j,s.G2.n,(tX s.G2.pp.b),s.G2.op,(S_ bf s.G2.I b2),s.val.j,s.val.n,(tX s.val.pp.b),s.val.op,(S_ a3 s.val.I a8),(S_ a4 s.y a9),(S_ a5 s.G4 ba),(S_ a6 s.G7 bb)])] R) ?_ ?_
  ·refine ab (ad (v:=(pT b1 0)) (bI V V) V V (ad (aU (i:=0) V V (h_ E V) V V) V V (ad (v:=(pT b3 1)) (bI V V) V V (ad (aU (i:=1) V V (i_ E V) V V) V V (zc (oa ex _ _ (HS.call E) Z M) ?_)))));rintro _ d3 ⟨f9,rfl,rfl,rfl⟩;refine zm (.bool (eI _ _)) (fg V V (λO=>?_) (λO=>?_))
   ·have b8:=O;try simp only[BS]at b8
    refine ad (v:=(pT b1 2)) (bI V V) V V (aC V O (ad (v:=(aG [_,_])) (cm (i:=2) V V V (h_ E V) V V V) V V (aC V O (ad (v:=(pT b3 2)) (bI V V) V V (aC V O ?_)))));refine ad (aU (i:=2) V V (i_ E V) V V) V V (aC V O (zc (find_c ex x.p _ (HS.call E) aA a1 M) ?_));rintro _ f1 ⟨gm,fq,dk,bF,rfl,rfl,f4⟩;replace bF:=HS.G8 E V bF;refine aC V O (ad (bK V V V V) V V (ad (v:=(.bool (decide ((0:Int)<=ffP x.p _)))) (aq V O V) V V (za (.bool (decide ((0:Int)<=ffP x.p _))) (aB ?_))));exact ao ⟨V,⟨_,(fT fR dk),HS.sub bF (List.Sublist.refl _)⟩,(by repeat' first|exact Lr|refine Lu V ?_),(agC (congrArg _ (show(decide ((0:Int)<=ffP x.p _))=(eI _ _&&(decide ((0:Int)<=ffP x.p _))) by simp only[↓O,BT])) agN)⟩
   have b8:=O;try simp only[BS]at b8
   refine aK V O V (aK V O V (aK V O V (aK V O V (aK V O V (ad (v:=(.bool false)) (aH V O V) V V ?_)))));refine za (.bool false) (aB ?_);exact ao ⟨V,⟨_,fR,HS.sub E (List.Sublist.refl _)⟩,(by repeat' first|exact Lr|refine Lu V ?_),(agC (congrArg _ (show false=(eI _ _&&(decide ((0:Int)<=ffP x.p _))) by simp only[↓O,BT])) agN)⟩
  skip;rintro f3 fu ⟨fk,c9,dn⟩;refine aj 1 V (ag ⟨.inr V,_,V,_,_,(fT (fT (T) U) c9),(HS.G3 dn),V,(by exact(dk_3 h1 M ar (by unfold swK;(repeat rw[if_neg M])<;>first|rfl|(rw[if_pos M]<;>rfl))).symm)⟩)
 refine wr 1 [] 57 58 [] [(57,(s.j==2))] trivial V V λ_=>zI 1 3 (λd6=>?_) λd6=>?_
 ·refine bQ 1 59 63 [4] [(4,(eI _ _))] (Hr_ 1 0 (Hr_ 3 1 (Hc_ 4 (dv ex _ _ (HS.call E) ax M) Hn_))) E V V λ_=>ag ⟨.inr V,_,V,_,_,(fT (T) U),(HS.G3 E),V,(by exact(dk_3 h1 M ar (by unfold swK;(repeat rw[if_neg M])<;>first|rfl|(rw[if_pos M]<;>rfl))).symm)⟩
 refine wr 1 [] 4 4 [] [(4,true)] trivial V V λ_=>ag ⟨.inr V,_,V,_,_,(fT (T) U),(HS.G3 E),V,(by exact(dk_3 h1 M ar (by unfold swK;(repeat rw[if_neg M])<;>first|rfl|(rw[if_pos M]<;>rfl))).symm)⟩
theorem checks_c_aux: ∀(fuel:Nat) {ba} {bt:Nat} {a9} {bn:Nat} {a8} {bl:Nat} {a7} {bf:Nat} (x:ScpT) {e7} {fb:Nat} (l:List StmT) (cnt:Bool) {F} {H:Heap} {R:List Fp} (hs:Hb H F H [] R) (Z:Sr F a7 x.F bf) (al:Sr F a8 x.d bl) (U:Sr F a9 x.p.d bn) (O:Sr F ba x.p.U bt) (hl:Sr F e7 l fb) (hv:Q x.F<4611686018427387904) (ha:Q x.d<4611686018427387904) (hf:Q x.p.U<4611686018427387904) (hn:fw l<4611686018427387904) (hc:cnt=true->i5 x.F x.d x.p l=true),fw l<fuel->kKt ex 35 [(aG [(S_ a7 x.F bf),(S_ a8 x.d bl),(S_ a9 x.p.d bn),(S_ ba x.p.U bt)]),(S_ e7 l fb),cnt] H λv H'=> ∃(o:Bool),∃F',F.le F'/\Hb H F' H' [] R/\v= .bool o/\o=csS cnt x l:=by
 intro fuel;induction fuel with
 |zero=>intros;omega
 |succ fuel ih=>
 intro ba bt a9 bn a8 bl a7 bf x e7 fb l cnt F H R hs Z al U O hl hv ha hf hn hc hV;have hm:=nL l;refine ay Tryz.func35 V V (aj 1 V (ab (bd (aW hs V V) V V ?_)));rintro _ H2 _ ⟨b1,rfl,d5,_⟩;refine za _ (ai 3 V (wr 2 [] 1 0 [7] [(7,(.int _ 0))] trivial V V λ_=>ak (λ(mm:Nat) f H'=> ∃(i:Nat),∃F',F.le F'/\HS _ F' H' [[(b1,.cells [_,_,_,_] _ _)]] R/\aI f [(1,(sL e7 _ fb)),(2,cnt),(3,(pT b1 0)),(7,(.int _ (i:Int)))]/\mm=Q l-i/\(csS cnt x l=csS cnt x (l.drop i))/\(i<=Q l)) _ ⟨0,_,fR,d5,f_,V,k_,M⟩ ?_));rintro hh f4 H4 ⟨i,F4,a3,b0,c4,rfl,h1,hi⟩ c7;refine aw _ c4 (λ_=>?_);clear c4;have⟨hl,Z,al,U,O⟩:=M5 a3 hl Z al U O;refine aj 2 V (wr 1 [] 9 12 [] [(12,(decide ((i:Int)<(Q l:Int))))] trivial V V λ_=>zd 4 5 (λc6=>?_) λc6=>?_)
 ·have qa:=ns_at (l:=l) (i:=i) M;have qs:=ns_s (Y l i n_);have co:=λh=>cs_at (i:=i) (hc h) M
  have f9:=λh=>(co h).2.1
  have gm:=λh=>(co h).2.2
  refine ab ?_;have⟨a5,c5⟩:=Sv.Gg (SR.sv hl b0);have⟨fi,fq,fu,f1,f2,f3,et,ez,d1,c3,b2,a1,a2⟩:=StmT.fx (c5 i);refine cu 4 0 15 18 [] [(18,(aG [_,_,_,_,_,_,_,_,_,_,_,_,_,_,_,_,_]))] (Ha_ (Sv.ix (SR.sv hl b0)) (Hl_ 3 (qn 63 0 17 (StmT.vw (c5 i)) V V V V) Hn_)) V V λ_=>zn b0 V λd3 g4 dn=>sgo 1 5 1 0 [] [] (Hr_ 5 1 Hn_) dn V V λf5 g5 T=>ai 3 V (wr 1 [] 19 19 [] [(19,cnt)] trivial V V λ_=>zI 1 1 (λb3=>?_) λb3=>?_)
  ·have cv:=b3;have hz:=ff_in (p:=x.p) (s:=Y l i n_) (co cv).1;refine dq 20 40 [] [(40,(((Y l i n_).j==6)&&((Q (Y l i n_).y:Int) !=(Q (Y x.p.U (ffP x.p (Y l i n_).K.b).toNat n_).A:Int))))] (λH'=> ∃F',F4.le F'/\Hb H F' H' [(fP b1 [(S_ a7 x.F bf),(S_ a8 x.d bl),(S_ a9 x.p.d bn),(S_ ba x.p.U bt)]),(fP d3 [(Y l i n_).j,(tX (Y l i n_).pp.b),(tX (Y l i n_).K.b),(Y l i n_).n,(Y l i n_).G2.j,(Y l i n_).G2.n,(tX (Y l i n_).G2.pp.b),(Y l i n_).G2.op,(sL (cA (a5 i) 8) (Q (Y l i n_).G2.I) (cK (a5 i) 8)),(Y l i n_).val.j,(Y l i n_).val.n,(tX (Y l i n_).val.pp.b),(Y l i n_).val.op,(sL (cA (a5 i) 13) (Q (Y l i n_).val.I) (cK (a5 i) 13)),(sL (cA (a5 i) 14) (Q (Y l i n_).y) (cK (a5 i) 14)),(sL (cA (a5 i) 15) (Q (Y l i n_).G4) (cK (a5 i) 15)),(sL (cA (a5 i) 16) (Q (Y l i n_).G7) (cK (a5 i) 16))])] R) ?_ ?_
   ·refine az V (zp 0 (zl 0 (HS.hc T.G5 (i:=1) V) (wfv (bK V V V V) (zfm (.bool ((Y l i _).j==6)) (wf_gsT V V (λE=>?_) (λE=>?_))))))
    ·have bF:=E;try simp only[BS]at bF
     refine zp 14 (eg V E (zl 14 (HS.hc T.G5 (i:=1) V) (eg V E (bh (gY V V (SR.sv b2 T.G5)) V V (mS V) (lC _) (eg V E ?_)))));refine zp 2 (eg V E (zp 3 (eg V E (zl 3 (HS.hc T.G5 (i:=0) V) (eg V E ?_)))));refine zp 2 (eg V E (bh (v:=(aG [_,_])) (cm (i:=2) V V V (HS.hc T.G5 (i:=0) V) V V V) V V (iz V) (kb V) (eg V E (zp 2 (eg V E ?_)))));refine zl 2 (HS.hc T.G5 (i:=1) V) (eg V E (bH (bj V V V) V V V (find_c ex x.p _ (HS.call T.G5) U O M) (⟨.inl V,.inl V,.inl V,.inl V,.inr a0g,.inr trivial,.inr trivial,.inr trivial,.inr a0g,l_⟩) ?_));rintro _ d2 ⟨hk,g0,b7,an,rfl,rfl,hg⟩;refine⟨Wr.did an.log,λdt cL=>?_⟩;replace an:=HS.G8 T.G5 V an;replace an:=HS.lg an T cL;generalize ({d2 with log:=dt}:Heap)=e8 at an⊢;have O:=O.ac b7;refine eg V E (wfv (v:=(.pointer (some ⟨_,sO (sL _ _ _)+(ffP x.p _).toNat *Rp.sz FunT,_⟩))) (dw V V V V (SR.sv O an.G5) (by(have:=hz X;omega)) M) (eg V E (wfv (v:=(.pointer (some ⟨_,sO (sL _ _ _)+(ffP x.p _).toNat *Rp.sz FunT+1,_⟩))) (bI V V) (eg V E ?_))));have⟨fd,dk,c9⟩:=Sv.at (SR.sv O an.G5) (aT (x:=n_) (show(ffP x.p (Y l i n_).K.b).toNat<Q x.p.U from by(have:=hz X;omega)));obtain⟨d6,e0,d7,e1,d8,e2,d9,e3,rfl,ea,ee,em,c0,e4,e5,e6⟩:=dk;refine zl 1 c9 (eg V E (bh (gY V V (SR.sv c0 an.G5)) V V (mS V) (lC _) (eg V E (wfv (bK V V V V) (wfv (v:=(.bool ((Q (Y l i _).y:Int) !=(Q (Y x.p.U _ _).A:Int)))) (aq V E V) ?_)))));refine fE ?_;exact ao ⟨V,⟨_,(fT fR b7),HS.sub an (List.Sublist.refl _)⟩,(by repeat' first|exact Lr|refine Lu V ?_),(agC (congrArg _ (show((Q (Y l i _).y:Int) !=(Q (Y x.p.U _ _).A:Int))=(((Y l i _).j==6)&&((Q (Y l i _).y:Int) !=(Q (Y x.p.U _ _).A:Int))) by simp only[↓E,BT])) agN)⟩
    have bF:=E;try simp only[BS]at bF
    refine eh V E V (eh V E V (eh V E V (eh V E V (eh V E V (eh V E V ?_)))));refine eh V E V (eh V E V (eh V E V (eh V E V (eh V E V (eh V E V ?_)))));refine eh V E V (eh V E V (eh V E V (wfv (v:=(.bool false)) (aH V E V) (fE ?_))));exact ao ⟨V,⟨_,fR,HS.sub T (List.Sublist.refl _)⟩,(by repeat' first|exact Lr|refine Lu V ?_),(agC (congrArg _ (show false=(((Y l i _).j==6)&&((Q (Y l i _).y:Int) !=(Q (Y x.p.U _ _).A:Int))) by simp only[↓E,BT])) agN)⟩
   skip;rintro he g6 ⟨go,ax,a6⟩;have⟨Z,al,U,O,a1,a2⟩:=M6 ax Z al U O a1 a2;refine aj 1 V (zi 1 2 (λbb=>?_) λbb=>?_)
   ·have d4:=bb;try simp only[BS]at d4
    have ar:=cs_no (x:=x) (l:=l) (i:=i) M (.inl (cn_1 cv bb));refine wr 1 [] 6 6 [] [(6,false)] trivial V V λ_=>ag ⟨.inr V,_,V,_,_,(fT (a3) ax),(HS.G3 a6),V,(h1.trans ar).symm⟩
   have fk:=cn_2 (x:=x) (s:=Y l i n_) cv bb;refine sj 1 45 58 [] [(58,((!(csS cnt x _))||(!(csS cnt x _))))] (Hr_ 0 0 (Hr_ 2 1 (Hk_ 4 (jc a6 λ_ _ j q=>ih x _ cnt q (Z.ac j) (al.ac j) (U.ac j) (O.ac j) (a1.ac j) M M M M M M) (dx 7 (λ_=>(jn a6 75 0 4 0 V V V V V)) (dx 9 (λ_=>(jl a6 51 16 1 V V V)) (hP 11 (λ_=>(jc a6 λ_ _ j q=>ih x _ cnt q (Z.ac j) (al.ac j) (U.ac j) (O.ac j) (a2.ac j) M M M M M M)) Hn_)))))) a6 V V λf6 g7 g1 b8 ch=>?_
   refine zI 1 2 (λb4=>?_) λb4=>?_
   ·have ar:=cs_no (x:=x) (l:=l) (i:=i) M (.inr b4);refine wr 1 [] 6 6 [] [(6,false)] trivial V V λ_=>ag ⟨.inr V,_,V,_,_,(fT (fT (a3) ax) b8),(HS.G3 ch),V,(h1.trans ar).symm⟩
   have fz:=cs_go (x:=x) (l:=l) (i:=i) M fk b4;refine wr 1 [] 13 14 [7] [(7,(.int _ _))] (vA (vi) trivial) V V λ_=>?_
   refine c7 _ _ _ ?_ ⟨i+1,_,(fT (fT (a3) ax) b8),(HS.sub ch (a06 _ _)),f_,V,(h1.trans fz),M⟩;omega
  have cv:=b3;refine ab (cS 2 0 41 42 [] [(41,(aG [_,_,_,_])),(42,(aG [_,_,_,_,_,_,_,_,_,_,_,_,_,_,_,_,_]))] (Hr_ 0 0 (Hr_ 1 1 Hn_)) T V V λ_=>zc (dfstmt_c ex x _ (HS.call T) Z al U O M M M M M d1 M M M c3 b2 a1 a2 M M M M) ?_);rintro _ g8 ⟨hj,g2,aA,a4,rfl,rfl⟩;replace a4:=HS.G8 T V a4;have⟨Z,al,U,O,a1,a2⟩:=M6 aA Z al U O a1 a2;refine cu 1 3 44 44 [] [(44,(!(dfK _ _ x.p _)))] Hn_ V V λ_=>ai 1 V (zI 1 2 (λb5=>?_) λb5=>?_)
  ·have ar:=cs_no (x:=x) (l:=l) (i:=i) M (.inl (cn_3 cv b5));refine wr 1 [] 6 6 [] [(6,false)] trivial V V λ_=>ag ⟨.inr V,_,V,_,_,(fT (a3) aA),(HS.G3 a4),V,(h1.trans ar).symm⟩
  have fk:=cn_4 (x:=x) (s:=Y l i n_) cv b5;refine sj 1 45 58 [] [(58,((!(csS cnt x _))||(!(csS cnt x _))))] (Hr_ 0 0 (Hr_ 2 1 (Hk_ 4 (jc a4 λ_ _ j q=>ih x _ cnt q (Z.ac j) (al.ac j) (U.ac j) (O.ac j) (a1.ac j) M M M M M M) (dx 7 (λ_=>(jn a4 75 0 4 0 V V V V V)) (dx 9 (λ_=>(jl a4 51 16 1 V V V)) (hP 11 (λ_=>(jc a4 λ_ _ j q=>ih x _ cnt q (Z.ac j) (al.ac j) (U.ac j) (O.ac j) (a2.ac j) M M M M M M)) Hn_)))))) a4 V V λf7 g9 g3 b9 ci=>?_
  refine zI 1 2 (λb6=>?_) λb6=>?_
  ·have ar:=cs_no (x:=x) (l:=l) (i:=i) M (.inr b6);refine wr 1 [] 6 6 [] [(6,false)] trivial V V λ_=>ag ⟨.inr V,_,V,_,_,(fT (fT (a3) aA) b9),(HS.G3 ci),V,(h1.trans ar).symm⟩
  have fz:=cs_go (x:=x) (l:=l) (i:=i) M fk b6;refine wr 1 [] 13 14 [7] [(7,(.int _ _))] (vA (vi) trivial) V V λ_=>?_
  refine c7 _ _ _ ?_ ⟨i+1,_,(fT (fT (a3) aA) b9),(HS.sub ci (a06 _ _)),f_,V,(h1.trans fz),M⟩;omega
 refine wr 1 [] 6 6 [] [(6,true)] trivial V V λ_=>ag ⟨.inr V,_,V,_,_,(a3),(HS.G3 b0),V,(h1.trans (cs_end M)).symm⟩
theorem checks_c{U ax T an O al E Z}(x:ScpT){ar a4}(l:List StmT)(cnt:Bool)(hs:Hb H F H [] R)(aA:Sr F E x.F Z)(a1:Sr F O x.d al)(a2:Sr F T x.p.d an)(a3:Sr F U x.p.U ax)(hl:Sr F ar l a4)(hv:Q x.F<4611686018427387904)(ha:Q x.d<4611686018427387904)(hf:Q x.p.U<4611686018427387904)(hn:fw l<4611686018427387904)(hc:cnt=true->i5 x.F x.d x.p l=true):kKt ex 35 [(aG [(S_ E x.F Z),(S_ O x.d al),(S_ T x.p.d an),(S_ U x.p.U ax)]),(S_ ar l a4),cnt] H λv H'=> ∃(o:Bool),∃F',F.le F'/\Hb H F' H' [] R/\v= .bool o/\o=csS cnt x l:=
 checks_c_aux ex (fw l+1) x l cnt hs aA a1 a2 a3 hl hv ha hf hn hc (a0y _)
end cc
open cc
namespace cd
variable (ex:FuncId) {F:Fz} {H:Heap} {R:List Fp}
def TiP(p:PrgT):Prop:=Q p.d<=4/\(Q p.U)<=8/\∀f∈p.U,Q f.A<=6/\(Q f.B)<=8
theorem dg_mem: ∀{l:List FunT},dpG l=false->∀f∈l,Q f.A<=6/\(Q f.B)<=8
 |g::l,h,f,hf=>by
  rw[dpG,a0H]at h;rcases a0n.1 hf with rfl|hf
  ·have E:=h.1;simp only[a0H,decide_eq_false_iff_not]at E;omega
  exact dg_mem h.2 f hf
theorem ex_small{p:PrgT}(h:exL p=false):Q p.d<=4/\(Q p.U)<=8/\∀f∈p.U,Q f.A<=6/\(Q f.B)<=8:=by unfold exL at h;simp only[a0H,decide_eq_false_iff_not]at h;exact⟨M,M,dg_mem h.2⟩
theorem tk_n{l:List ArrT}{i:Nat}(h:i<Q l):(l.take (i+1)).map (·.pp)=(l.take i).map (·.pp)++[⟨(Y l i n_).pp.b⟩]:=by rw[a19,a08 h,a0N,a09,a08 h];rfl
theorem dn_y{E:List Str}{l:List ArrT}{i:Nat}(h:i<Q l)(c:eI E (Y l i n_).pp.b=true):iy E ((l.drop i).map (·.pp))=true:=by rw[cz (d:=n_) h,a1f,iy,c];rfl
theorem dn_n{E:List Str}{l:List ArrT}{i:Nat}(h:i<Q l)(c:eI E (Y l i n_).pp.b=false):iy E ((l.drop i).map (·.pp))=iy (E++[⟨(Y l i n_).pp.b⟩]) ((l.drop (i+1)).map (·.pp)):=by rw[cz (d:=n_) h,a1f,iy,c];rfl
theorem dn_e{E:List Str}{l:List ArrT}{i:Nat}(h:Q l<=i):iy E ((l.drop i).map (·.pp))=false:=by rw[ew h,List.map_nil,iy]
theorem dm_y{E:List Str}{l:List Str}{i:Nat}(h:i<Q l)(c:eI E (Y l i n_).b=true):iy E (l.drop i)=true:=by rw[cz (d:=n_) h,iy,c];rfl
theorem dm_n{E:List Str}{l:List Str}{i:Nat}(h:i<Q l)(c:eI E (Y l i n_).b=false):iy E (l.drop i)=iy (E++[⟨(Y l i n_).b⟩]) (l.drop (i+1)):=by rw[cz (d:=n_) h,iy,c];rfl
theorem dm_e{E:List Str}{l:List Str}{i:Nat}(h:Q l<=i):iy E (l.drop i)=false:=by rw[ew h,iy]
theorem df_y{aa fl:List Str}{l:List FunT}{i:Nat}(h:i<Q l)(c:eI fl (Y l i n_).pp.b=true\/iy aa ((Y l i n_).A++(Y l i n_).B)=true):dupF aa fl (l.drop i)=true:=by rw[cz (d:=n_) h,dupF];rcases c with c|c<;>rw[c]<;>simp
theorem df_n{aa fl:List Str}{l:List FunT}{i:Nat}(h:i<Q l)(c:eI fl (Y l i n_).pp.b=false)(k:iy aa ((Y l i n_).A++(Y l i n_).B)=false):dupF aa fl (l.drop i)=dupF aa (fl++[⟨(Y l i n_).pp.b⟩]) (l.drop (i+1)):=by rw[cz (d:=n_) h,dupF,c,k];rfl
theorem df_end{aa fl:List Str}{l:List FunT}{i:Nat}(h:Q l<=i):dupF aa fl (l.drop i)=false:=by rw[ew h,dupF]
theorem du_1{p:PrgT}(h:iy [] (arN p)=true):dupP p=true:=by show(iy [] (arN p)||_)=true;rw[h];rfl
theorem du_2{p:PrgT}(h:dupF (arN p) [] p.U=true):dupP p=true:=by show(_||dupF (arN p) [] p.U)=true;rw[h,a1I]
theorem du_3{p:PrgT}(h:iy [] (arN p)=false)(g:dupF (arN p) [] p.U=false):dupP p=false:=by show(iy [] (arN p)||dupF (arN p) [] p.U)=false;rw[h,g];rfl
theorem ck_6{p:PrgT}(h:exL p=true):chk p=6:=by unfold chk;rw[if_pos h]
theorem ck_2{p:PrgT}(h:exL p=false)(k:wfP p=false):chk p=2:=by unfold chk;rw[if_neg (by rw[h];decide),if_pos k]
theorem ck_4{p:PrgT}(h:exL p=false)(k:wfP p=true)(d:dupP p=true):chk p=4:=by unfold chk;rw[if_neg (by rw[h];decide),if_neg (by rw[k];decide),if_pos d]
theorem ck_3{p:PrgT}(h:exL p=false)(k:wfP p=true)(d:dupP p=false)(e:p.U.all (dfF p)=false):chk p=3:=by unfold chk;rw[if_neg (by rw[h];decide),if_neg (by rw[k];decide),if_neg (by rw[d];decide),if_pos e]
theorem ck_5{p:PrgT}(h:exL p=false)(k:wfP p=true)(d:dupP p=false)(e:p.U.all (dfF p)=true)(g:p.U.all (arF p)=false):chk p=5:=by unfold chk;rw[if_neg (by rw[h];decide),if_neg (by rw[k];decide),if_neg (by rw[d];decide),if_neg (by rw[e];decide),if_pos g]
theorem ck_0{p:PrgT}(h:exL p=false)(k:wfP p=true)(d:dupP p=false)(e:p.U.all (dfF p)=true)(g:p.U.all (arF p)=true):chk p=0:=by unfold chk;rw[if_neg (by rw[h];decide),if_neg (by rw[k];decide),if_neg (by rw[d];decide),if_neg (by rw[e];decide),if_neg (by rw[g];decide)]
theorem ck_y{p:PrgT}{f:FunT}{x:ScpT}(c:csS false x f.G6=false\/dfE x.F x.d f.val=false)(e:x=⟨f.A++f.B,arN p,p⟩):dfF p f=false:=by
 subst e;show(i5 _ _ _ _&&dfE _ _ _)=false;rcases c with c|c
 ·rw[show i5 (f.A++f.B) (arN p) p f.G6=false from c];rfl
 rw[show dfE (f.A++f.B) (arN p) f.val=false from c,a1a]
theorem ck_n{p:PrgT}{f:FunT}{x:ScpT}(c:csS false x f.G6=true/\dfE x.F x.d f.val=true)(e:x=⟨f.A++f.B,arN p,p⟩):dfF p f=true:=by subst e;show(i5 _ _ _ _&&dfE _ _ _)=true;rw[show i5 (f.A++f.B) (arN p) p f.G6=true from c.1,show dfE (f.A++f.B) (arN p) f.val=true from c.2];rfl
theorem ck_z{p:PrgT}{f:FunT}{vs aa:List Str}(c:csS true (⟨vs,aa,⟨p.d,p.U⟩⟩:ScpT) f.G6=false):arF p f=false:=c
theorem ck_w{p:PrgT}{f:FunT}{vs aa:List Str}(c:csS true (⟨vs,aa,⟨p.d,p.U⟩⟩:ScpT) f.G6=true):arF p f=true:=c
theorem ck_h{rd:Nat}{q:Prop}(h:1<=rd->q)(k:rd=0->q):q:=by
 rcases a1g rd with e|e
 ·exact k e
 exact h e
theorem ck_d{p:PrgT}{aa:List Str}{i:Nat}(h:p.U.all (dfF p)=true)(hi:i<Q p.U)(e:aa=arN p):i5 ((Y p.U i n_).A++(Y p.U i n_).B) aa p (Y p.U i n_).G6=true:=by have:=a0r.1 h _ (cr hi);rw[dfF,a04]at this;rw[e];exact this.1
theorem dup_c{bl bw bf bt}(p:PrgT)(hs:Hb H F H [] R)(aA:Sr F bf p.d bt)(a1:Sr F bl p.U bw)(hn:TiP p):kKt ex 34 [(aG [(S_ bf p.d bt),(S_ bl p.U bw)])] H λv H'=> ∃(x:Bool),∃F',F.le F'/\Hb H F' H' [] R/\v= .bool x/\x=dupP p:=by
 have⟨qj,qk,o2⟩:=hn;refine ay Tryz.func34 V V (aj 1 V (ab (bd (aW hs V V) V V ?_)));rintro _ H2 _ ⟨b1,rfl,hl,_⟩;refine za (.bool false) (ai 2 V (wr 3 [] 1 0 [3,4] [(3,(sL _ 0 0)),(4,(sL _ 0 0))] trivial V V λ_=>wr 2 [] 1 0 [5] [(5,(.int _ 0))] trivial V V λ_=>?_));have hm:=HS.snoc hl;refine ak (λ(mm:Nat) f H'=> ∃(al:List Str) (i:Nat),∃bF,∃(b0:Nat),∃Z F',F.le F'/\HS _ F' H' [[(b1,.cells [_,_] _ _)],Z] R/\OZ F' bF al b0 Z/\aI f [(1,(pT b1 0)),(3,(S_ bF al b0)),(4,(sL _ 0 0)),(5,(.int _ (i:Int)))]/\mm=Q p.d-i/\(iy [] (arN p)=iy al ((p.d.drop i).map (·.pp)))/\(al=(p.d.take i).map (·.pp))/\(Q al=i)/\(i<=Q p.d)) _ ⟨_,0,_,0,[],_,fR,hm,(OS.nil:OS _ _ _ []),⟨V,V,V,V,trivial⟩,V,k_,k_,k_,M⟩ ?_;rintro kA f5 H5 ⟨al,i,bF,b0,Z,F5,a3,O,U,em,rfl,h1,ha,hll,hi⟩ ho;refine aw _ em (λ_=>?_);clear em;have⟨aA,a1⟩:=M2 a3 aA a1;refine aj 2 V (bQ 1 11 15 [] [(15,(decide ((i:Int)<(Q p.d:Int))))] (Hr_ 2 0 Hn_) O V V λ_=>zd 5 6 (λc8=>?_) λc8=>?_)
 ·have⟨j2,et⟩:=Sv.Gg (SR.sv aA O);have hu:=ArrT.fx (et i);have⟨g6,hT,b7,f1,hX⟩:=OS.Gi U O (i:=1) V;have b7:Hb H g6 H5 [(fP b1 [(S_ bf p.d bt),(S_ bl p.U bw)]),[]] R:=b7;refine bQ 1 18 25 [] [(25,(eI al _))] (Hr_ 2 0 (Ha_ (Sv.ix (SR.sv aA O)) (Hl_ 6 (ql 9 0 (ArrT.vw (et i)) V V) (Hc_ 7 (cc.dv ex al _ (HS.call b7) f1 M) Hn_)))) O V V λ_=>zI 1 1 (λc3=>?_) λc3=>?_
  ·have ci:=dn_y (l:=p.d) (i:=i) M c3;refine wr 1 [] 2 2 [] [(2,true)] trivial V V λ_=>ag ⟨.inr V,_,V,_,_,(a3),(HS.G3 O),V,(du_1 (h1.trans ci)).symm⟩
  have e7:=dn_n (l:=p.d) (i:=i) M c3;refine ab ?_;have⟨hI,d1⟩:=Sv.Gg (SR.sv aA O);have hv:=ArrT.fx (d1 i);refine cS 7 0 26 32 [] [(26,(sL _ _ _)),(32,(tX (Y p.d i _).pp.b))] (Hr_ 2 0 (Ha_ (Sv.ix (SR.sv aA O)) (Hl_ 6 (ql 9 0 (ArrT.vw (d1 i)) V V) Hn_))) O V V λ_=>zlo ([⟨(Y p.d i _).pp.b⟩]:List Str) O V (RL.cs V RL.nl) V λi3 kk k0 h7 e8 c9=>zao 1 U c9 (OS.sv e8 c9 (i:=2) V) V V V M λd9 ez hq h8 fb f4=>za (sL d9 _ ez) (ai 2 V (wr 1 [] 16 17 [5] [(5,(.int _ _))] (vA (vi) trivial) V V λ_=>?_))
  refine ho _ _ _ ?_ ⟨_,i+1,d9,ez,hq,_,(a3),(HS.sub f4 (a06 _ _)),fb,⟨V,V,V,V,trivial⟩,V,(h1.trans e7),(by rw[ha];exact(tk_n M).symm),(by rw[a00,hll];rfl),M⟩;omega
 have h2:=h1.trans (dn_e M);have ie:arN p=al:=by rw[ha,a0s M];rfl
 refine wr 2 [] 1 0 [6] [(6,(.int _ 0))] trivial V V λ_=>?_
 have f6:=HS.snoc O;refine ak (λ(mm:Nat) f H'=> ∃(fl:List Str) (i:Nat),∃a6,∃(a8:Nat),∃ba F',F5.le F'/\HS _ F' H' [_,_,ba] R/\OZ F' a6 fl a8 ba/\aI f [(1,(pT b1 0)),(3,(sL _ _ _)),(4,(S_ a6 fl a8)),(6,(.int _ (i:Int)))]/\mm=Q p.U-i/\(dupF _ [] p.U=dupF (arN p) fl (p.U.drop i))/\(Q fl=i)/\(i<=Q p.U)) _ ⟨_,0,_,0,[],_,fR,f6,(OS.nil:OS _ _ _ []),⟨V,V,V,V,trivial⟩,V,k_,k_,M⟩ ?_;rintro h4 kd h9 ⟨fl,i,a6,a8,ba,co,an,a2,b2,c6,rfl,g1,gll,hk⟩ g4;refine aw _ c6 (λ_=>?_);clear c6;have⟨a1,U⟩:=M2 an a1 U;refine aj 2 V (bQ 1 35 39 [] [(39,(decide ((i:Int)<(Q p.U:Int))))] (Hr_ 2 0 Hn_) a2 V V λ_=>zd 4 5 (λhh=>?_) λhh=>?_)
 ·have qh:=o2 (Y p.U i n_) (cr M);have qi:Q ((Y p.U i n_).A++(Y p.U i n_).B)=Q (Y p.U i n_).A+Q (Y p.U i n_).B:=a00;refine ab ?_;have⟨E,d2⟩:=Sv.Gg (SR.sv a1 a2);have⟨hw,hx,hy,d7,d8,hz,hA⟩:=FunT.fx (d2 i);refine cS 5 0 42 46 [] [(46,(aG [_,_,_,_,_,_,_,_,_]))] (Hr_ 1 0 (Ha_ (Sv.ix (SR.sv a1 a2)) (Hl_ 4 (qn 53 0 9 (FunT.vw (d2 i)) V V V V) Hn_))) a2 V V λ_=>zn a2 V λhg ia f7=>sgo 1 6 1 0 [] [] (Hr_ 6 3 Hn_) f7 V V λhQ g9 a5=>ai 3 V ?_
  have⟨g7,hV,b8,f2,h0⟩:=OS.Gi b2 a5 (i:=2) V;let e5:Fp:=(fP b1 [(S_ bf p.d bt),(S_ bl p.U bw)])
  let e6:Fp:=(fP hg [(tX (Y p.U i n_).pp.b),(sL (cA (E i) 1) (Q (Y p.U i n_).A) (cK (E i) 1)),(sL (cA (E i) 2) (Q (Y p.U i n_).B) (cK (E i) 2)),(sL (cA (E i) 3) (Q (Y p.U i n_).G6) (cK (E i) 3)),(Y p.U i n_).val.j,(Y p.U i n_).val.n,(tX (Y p.U i n_).val.pp.b),(Y p.U i n_).val.op,(sL (cA (E i) 8) (Q (Y p.U i n_).val.I) (cK (E i) 8))])
  have b8:Hb H g7 g9 [e5,Z,[],e6] R:=b8;refine bQ 1 47 50 [] [(50,(eI fl _))] (Hr_ 2 3 (Hc_ 3 (cc.dv ex fl _ (HS.call b8) f2 M) Hn_)) a5 V V λ_=>zI 1 2 (λc4=>?_) λc4=>?_
  ·have ci:=df_y (aa:=arN p) (l:=p.U) (i:=i) M (.inl c4);refine wr 1 [] 2 2 [] [(2,true)] trivial V V λ_=>ag ⟨.inr V,_,V,_,_,(fT (a3) an),(HS.G3 a5),V,(du_2 (g1.trans ci)).symm⟩
  have o1:=c4;refine ab (cS 3 0 51 53 [] [(51,(sL _ _ _)),(53,(tX (Y p.U i _).pp.b))] (Hr_ 2 3 Hn_) a5 V V λ_=>zlo ([⟨(Y p.U i _).pp.b⟩]:List Str) a5 V (RL.cs V RL.nl) V λi9 kl e2 ik fd dk=>zao 2 b2 dk (OS.sv fd dk (i:=4) V) V V V M λcL d3 d5 it b4 f9=>za (sL cL _ d3) (ai 2 V ?_));refine ab (zlo _ f9 V RL.nl V λjw kn k3 iv fi dn=>zm _ (zao 5 fi dn (OS.sv U dn (i:=1) V) V V V M λc0 d4 e3 i0 b5 gm=>?_));have b5:OZ co c0 al d4 e3:=b5;refine za (S_ c0 al d4) (ai 2 V (az V (zld _ gm V RL.nl V λjA kt k4 hC fk bn=>cC 2 60 61 [] [(61,(sL _ _ _))] (Hr_ 2 3 Hn_) bn V V λ_=>zad 6 fk bn (SR.sv d7 bn) V V V M (kb V) λhf hp hr hF b6 b9=>?_)));have b6:OS co (sL hf (Q (Y p.U i n_).A) hp) (Y p.U i n_).A hr:=b6;refine zp 2 (bh (aU (i:=2) V V (HS.hc b9.G5 (i:=3) V) V V) V V (iz V) (⟨.inl V,.inr (HS.nin bn (i:=3) (j:=6) V V e_ (List.Mem.head _)),l_⟩) (zad 6 b6 b9 (SR.sv d8 b9) V V V M (kb V) λea e0 e4 hG ax go=>fa (sL ea _ e0) V V V (aQ 2 V (wr 2 [] 1 0 [10] [(10,(.int _ 0))] trivial V V λ_=>?_))));refine ak (λ(mm:Nat) f H'=> ∃(sn:List Str) (k:Nat),∃a7,∃(a9:Nat),∃bb F',co.le F'/\HS _ F' H' [_,_,d5,_,e2,bb,e4] R/\OZ F' a7 sn a9 bb/\aI f [(1,(pT b1 0)),(3,(sL _ _ _)),(4,(sL cL _ d3)),(6,(.int _ _)),(8,(S_ a7 sn a9)),(9,(sL ea _ e0)),(10,(.int _ (k:Int)))]/\mm=Q ((Y p.U i n_).A++(Y p.U i n_).B)-k/\(iy al ((Y p.U i _).A++(Y p.U i _).B)=iy sn (((Y p.U i n_).A++(Y p.U i n_).B).drop k))/\(Q sn=Q al+k)/\(k<=Q ((Y p.U i n_).A++(Y p.U i n_).B))) _ ⟨al,0,c0,d4,e3,_,fR,go,b5,⟨V,V,V,V,V,V,V,trivial⟩,V,k_,k_,M⟩ ?_;rintro h5 ki he ⟨sn,k,a7,a9,bb,h6,a4,T,b3,c7,rfl,k1,kll,hkk⟩ g5;refine aw _ c7 (λ_=>?_);clear c7;have⟨b4,ax⟩:=M2 a4 b4 ax;refine aj 2 V (wr 1 [] 66 69 [] [(69,(decide ((k:Int)<(Q ((Y p.U i _).A++(Y p.U i _).B):Int))))] trivial V V λ_=>zd 5 5 (λhj=>?_) λhj=>?_)
  ·have⟨hJ,g2⟩:=Sv.Gg (OS.sv ax T (i:=6) V);have⟨g8,hW,ch,f3,h3⟩:=OS.Gi b3 T (i:=5) V;have ch:Hb H g8 he [e5,Z,d5,e6,e2,[],e4] R:=ch;refine wrp 1 72 77 [] [(77,(eI sn _))] (Ha_ (Sv.ix (OS.sv ax T (i:=6) V)) (Hl_ 4 (ql 9 0 (vS (g2 k)) V V) (Hc_ 5 (cc.dv ex sn _ (HS.call ch) f3 M) Hn_))) V V λ_=>zI 1 1 (λc5=>?_) λc5=>?_
   ·have ci:=dm_y (l:=((Y p.U i n_).A++(Y p.U i n_).B)) (i:=k) M c5;refine wr 1 [] 2 2 [] [(2,true)] trivial V V λ_=>ag ⟨.inr V,_,V,_,_,(fT (fT (a3) an) a4),(HS.G3 T),V,((du_2 (g1.trans (df_y M (.inr (ie▸k1.trans ci))))).symm)⟩
   have e7:=dm_n (l:=((Y p.U i n_).A++(Y p.U i n_).B)) (i:=k) M c5;refine ab ?_;have⟨hK,g3⟩:=Sv.Gg (OS.sv ax T (i:=6) V);refine cu 5 0 78 82 [] [(78,(sL _ _ _)),(82,(tX (Y ((Y p.U i _).A++(Y p.U i _).B) k _).b))] (Ha_ (Sv.ix (OS.sv ax T (i:=6) V)) (Hl_ 4 (ql 9 0 (vS (g3 k)) V V) Hn_)) V V λ_=>zlo ([⟨(Y ((Y p.U i _).A++(Y p.U i _).B) k _).b⟩]:List Str) T V (RL.cs V RL.nl) V λj1 kx k5 i1 fq dt=>zao 5 b3 dt (OS.sv fq dt (i:=7) V) V V V M λee e1 ht i2 fu g0=>za (sL ee _ e1) (ai 2 V (wr 1 [] 70 71 [10] [(10,(.int _ _))] (vA (vi) trivial) V V λ_=>?_))
   refine g5 _ _ _ ?_ ⟨_,k+1,ee,e1,ht,_,(a4),(HS.sub g0 (a06 _ _)),fu,⟨V,V,V,V,V,V,V,trivial⟩,V,(k1.trans e7),(by rw[a00,kll];show _+1=_;omega),M⟩;omega
  have k2:=k1.trans (dm_e M);refine wr 1 [] 40 41 [6] [(6,(.int _ _))] (vA (vi) trivial) V V λ_=>?_
  refine g4 _ _ _ ?_ ⟨_,i+1,cL,d3,d5,_,(fT (an) a4),(HS.sub T (a06 _ _)),b4,⟨V,V,V,V,trivial⟩,V,(g1.trans (df_n M o1 (ie▸k2))),(by rw[a00,gll];rfl),M⟩;omega
 refine wr 1 [] 2 2 [] [(2,false)] trivial V V λ_=>ag ⟨.inr V,_,V,_,_,(fT (a3) an),(HS.G3 a2),V,((du_3 h2 (g1.trans (df_end M))).symm)⟩
theorem check_c{b0 b7 bF b6}(p:PrgT)(hs:Hb H F H [] R)(E:Sr F bF p.d b6)(O:Sr F b0 p.U b7)(hn:SmP p)(hx:NbP p):kKt ex 11 [(aG [(S_ bF p.d b6),(S_ b0 p.U b7)])] H λv H'=> ∃(x:Int),∃F',F.le F'/\Hb H F' H' [] R/\v=iI x/\x=chk p:=by
 refine ay Tryz.func11 V V (aj 1 V (ab (bd (aW hs V V) V V ?_)));rintro _ H2 _ ⟨b1,rfl,d6,_⟩;refine za (.int _ 0) (ai 4 V (ab (cS 1 0 9 9 [] [(9,(aG [_,_]))] (Hr_ 0 0 Hn_) d6 V V λ_=>zc (ca.exceeds_c ex p (HS.call d6) E O (hn)) ?_)));rintro _ H4 ⟨x4,F4,bw,b8,rfl,rfl⟩;replace b8:=HS.G8 d6 V b8;have⟨E,O⟩:=M2 bw E O;refine za _ (ai 1 V (zI 1 1 (λc5=>?_) λc5=>?_))
 ·have ar:=c5;refine wr 1 [] 2 2 [] [(2,(.int _ 6))] trivial V V λ_=>ag ⟨.inr V,_,V,6,_,(bw),(HS.G3 b8),V,(ck_6 ar).symm⟩
 have ar:=c5;have⟨m6,m7,k9⟩:=ex_small (p:=p) c5;have m3:TiP p:=⟨m6,m7,k9⟩
 have g8:=hn;refine ab (cS 1 0 12 12 [] [(12,(aG [_,_]))] (Hr_ 0 0 Hn_) b8 V V λ_=>zc (cb.wf_c ex p (HS.call b8) E O (hn) (hx)) ?_);rintro _ H8 ⟨x8,F8,b2,b9,rfl,rfl⟩;replace b9:=HS.G8 b8 V b9;have⟨E,O⟩:=M2 b2 E O;refine cu 2 2 11 11 [14] [(11,(!(wfP p)))] Hn_ V V λ_=>ai 1 V (zI 1 1 (λdn=>?_) λdn=>?_)
 ·have cp:=dn;refine wr 1 [] 2 2 [] [(2,(.int _ 2))] trivial V V λ_=>ag ⟨.inr V,_,V,2,_,(fT (bw) b2),(HS.G3 b9),V,(ck_2 ar cp).symm⟩
 have cp:=dn;refine ab (cS 1 0 16 16 [] [(16,(aG [_,_]))] (Hr_ 0 0 Hn_) b9 V V λ_=>zc (dup_c ex p (HS.call b9) E O (m3)) ?_);rintro _ h3 ⟨kn,gm,bb,ch,rfl,rfl⟩;replace ch:=HS.G8 b9 V ch;have⟨E,O⟩:=M2 bb E O;refine za _ (ai 1 V (zI 1 4 (λdt=>?_) λdt=>?_))
 ·have e4:=dt;refine wr 1 [] 2 2 [] [(2,(.int _ 4))] trivial V V λ_=>ag ⟨.inr V,_,V,4,_,(fT (fT (bw) b2) bb),(HS.G3 ch),V,(ck_4 ar cp e4).symm⟩
 have e4:=dt;refine wr 2 [] 1 0 [3] [(3,(.int _ 0))] trivial V V λ_=>ak (λ(mm:Nat) f H'=> ∃(rd:Nat),∃F',gm.le F'/\HS _ F' H' [[(b1,.cells [_,_] _ _)]] R/\aI f [(1,(pT b1 0)),(3,(.int _ (rd:Int)))]/\mm=2-rd/\(1<=rd->p.U.all (dfF p)=true)/\(2<=rd->p.U.all (arF p)=true)/\(rd<=2)) _ ⟨0,_,fR,ch,f_,V,(by intro h;omega),(by intro h;omega),M⟩ ?_
 rintro hJ i3 h4 ⟨rd,go,bf,d5,d2,rfl,h1,h2,hr⟩ f4;refine aw _ d2 (λ_=>?_);clear d2;have⟨E,O⟩:=M2 bf E O;refine aj 2 V (wr 1 [] 18 19 [] [(19,(decide ((rd:Int)<2)))] trivial V V λ_=>zd 4 5 (λg5=>?_) λg5=>?_)
 ·refine wr 2 [] 1 0 [4] [(4,(.int _ 0))] trivial V V λ_=>ak (λ(mm:Nat) f H'=> ∃(i:Nat),∃F',go.le F'/\HS _ F' H' _ R/\aI f [(1,(pT b1 0)),(3,(.int _ _)),(4,(.int _ (i:Int)))]/\mm=Q p.U-i/\(rd=0->p.U.all (dfF p)=(p.U.drop i).all (dfF p))/\(rd=1->p.U.all (arF p)=(p.U.drop i).all (arF p))/\(i<=Q p.U)) _ ⟨0,_,fR,d5,f_,V,(λ_=>rfl),(λ_=>rfl),M⟩ ?_
  rintro hK i9 h5 ⟨i,e1,bl,bn,d3,rfl,g1,g2,hi⟩ f5;refine aw _ d3 (λ_=>?_);clear d3;have⟨E,O⟩:=M2 bl E O;refine aj 2 V (bQ 1 22 26 [] [(26,(decide ((i:Int)<(Q p.U:Int))))] (Hr_ 2 0 Hn_) bn V V λ_=>zd 4 5 (λg6=>?_) λg6=>?_)
  ·have px:=k9 (Y p.U i n_) (cr M);have pA:=g8.2.2 (Y p.U i n_) (cr M);have pS:Q ((Y p.U i n_).A++(Y p.U i n_).B)=Q (Y p.U i n_).A+Q (Y p.U i n_).B:=a00;refine ab ?_;have⟨a3,ea⟩:=Sv.Gg (SR.sv O bn);have⟨hj,hl,hm,ez,e0,ax,a2⟩:=FunT.fx (ea i);refine cS 5 0 29 33 [] [(33,(aG [_,_,_,_,_,_,_,_,_]))] (Hr_ 1 0 (Ha_ (Sv.ix (SR.sv O bn)) (Hl_ 4 (qn 53 0 9 (FunT.vw (ea i)) V V V V) Hn_))) bn V V λ_=>zn bn V λc6 h6 fd=>sgo 1 6 1 0 [] [] (Hr_ 6 1 Hn_) fd V V λhB h7 fi=>ai 2 V (az V (zld ([]:List Str) fi V RL.nl V λi1 j1 kk hp e7 b3=>?_))
   refine cC 2 35 36 [] [(36,(sL _ _ _))] (Hr_ 2 1 Hn_) b3 V V λ_=>zad 2 e7 b3 (SR.sv ez b3) V V V M (kb V) λg3 g9 hf hq co ci=>?_
   have co:OS e1 (sL g3 (Q (Y p.U i n_).A) g9) (Y p.U i n_).A hf:=co;refine zp 2 (bh (aU (i:=2) V V (HS.hc ci.G5 (i:=1) V) V V) V V (iz V) (⟨.inl V,.inr (HS.nin b3 (i:=1) (j:=2) V V e_ (List.Mem.head _)),l_⟩) (zad 2 co ci (SR.sv e0 ci) V V V M (kb V) λe2 e3 hg ht cL d7=>bh (v:=(aG [_,_])) (cm (i:=0) V V V (HS.hc d7.G5 (i:=0) V) V V V) V V (iz V) (⟨.inr (HS.nin ci (i:=0) (j:=2) V V e_ (List.Mem.head _)),.inr trivial,.inr trivial,.inr (HS.nin b3 (i:=0) (j:=2) V V e_ (List.Mem.head _)),l_⟩) (wfv (v:=(aG [(sL e2 (Q ((Y p.U i n_).A++(Y p.U i n_).B)) e3),N_,(S_ bF p.d b6),(S_ b0 p.U b7)])) (lp V V K_) (znD d7 V λdk hu fk=>?_))));refine sdo 1 1 0 [] [] (Hr_ 10 3 Hn_) fk V V λhC h8 fq=>aQ 3 V (wr 2 [] 1 0 [7] [(7,(.int _ 0))] trivial V V λ_=>?_)
   have fu:=HS.snoc fq;refine ak (λ(mm:Nat) f H'=> ∃(aa:List Str) (k:Nat),∃a7 Z,∃(an:Nat),∃F',e1.le F'/\HS _ F' H' [_,_,hg,[(dk,.cells [_,(S_ Z aa an),_,_] _ _)],a7] R/\OZ F' Z aa an a7/\aI f [(1,(pT b1 0)),(3,(.int _ _)),(4,(.int _ _)),(5,(pT c6 0)),(6,(pT dk 0)),(7,(.int _ (k:Int)))]/\mm=Q p.d-k/\(aa=(p.d.take k).map (·.pp))/\(Q aa=k)/\(k<=Q p.d)) _ ⟨_,0,[],_,0,_,fR,fu,(OS.nil:OS _ _ _ []),f_,V,k_,k_,M⟩ ?_;rintro hQ jw h9 ⟨aa,k,a7,Z,an,hS,aA,bt,al,d4,rfl,ha,hll,hk⟩ f9;refine aw _ d4 (λ_=>?_);clear d4;have⟨cL,E,O,ax,a2⟩:=M5 aA cL E O ax a2;refine aj 2 V (bQ 1 43 47 [] [(47,(decide ((k:Int)<(Q p.d:Int))))] (Hr_ 2 0 Hn_) bt V V λ_=>zd 3 6 (λg7=>?_) λg7=>?_)
   ·refine az V ?_;have⟨hy,ee⟩:=Sv.Gg (SR.sv E bt);have ho:=ArrT.fx (ee k);refine cC 8 50 57 [] [(51,(sL _ _ _)),(57,(tX (Y p.d k _).pp.b))] (Hr_ 1 3 (Hr_ 3 0 (Ha_ (Sv.ix (SR.sv E bt)) (Hl_ 7 (ql 9 0 (hc0 (ArrT.vw (ee k))) V V) Hn_)))) bt V V λ_=>zld ([⟨(Y p.d k _).pp.b⟩]:List Str) bt V (RL.cs V RL.nl) V λi2 j2 kl hv e8 d8=>zad 4 al d8 (OS.sv e8 d8 (i:=5) V) V V V M (kb V) λg4 he hh hw fb f1=>sdo 2 60 60 [] [] (Hr_ 11 3 Hn_) f1 V V λhD ia f2=>aQ 2 V (wr 1 [] 48 49 [7] [(7,(.int _ _))] (vA (vi) trivial) V V λ_=>?_)
    refine f9 _ _ _ ?_ ⟨_,k+1,hh,g4,he,_,(aA),(HS.sub f2 (a06 _ _)),fb,f_,V,(by rw[ha];exact(tk_n M).symm),(by rw[a00,hll];rfl),M⟩;omega
   have kA:aa=arN p:=by rw[ha,a0s M];rfl
   have⟨hT,a4,f3,a1,hH⟩:=OS.Gi cL bt (i:=2) V;have al:=al.ac a4;have⟨g0,a5,b4,a9,hI⟩:=OS.Gi al f3 (i:=4) V;replace E:=(E.ac a4).ac a5;replace O:=(O.ac a4).ac a5;have a1:=a1.ac a5;replace ax:=(ax.ac a4).ac a5;replace a2:=(a2.ac a4).ac a5;refine dq 61 76 [] [(76,(((rd:Int)==0)&&((!(csS false (⟨(Y p.U i n_).A++(Y p.U i n_).B,aa,(⟨p.d,p.U⟩:PrgT)⟩:ScpT) (Y p.U i n_).G6))||(!(dfE (⟨(Y p.U i n_).A++(Y p.U i n_).B,aa,(⟨p.d,p.U⟩:PrgT)⟩:ScpT).F (⟨(Y p.U i n_).A++(Y p.U i n_).B,aa,(⟨p.d,p.U⟩:PrgT)⟩:ScpT).d (Y p.U i n_).val)))))] (λH'=> ∃F',g0.le F'/\Hb H F' H' [(fP b1 [(S_ bF p.d b6),(S_ b0 p.U b7)]),(fP c6 [(tX (Y p.U i n_).pp.b),(sL (cA (a3 i) 1) (Q (Y p.U i n_).A) (cK (a3 i) 1)),(sL (cA (a3 i) 2) (Q (Y p.U i n_).B) (cK (a3 i) 2)),(sL (cA (a3 i) 3) (Q (Y p.U i n_).G6) (cK (a3 i) 3)),(Y p.U i n_).val.j,(Y p.U i n_).val.n,(tX (Y p.U i n_).val.pp.b),(Y p.U i n_).val.op,(sL (cA (a3 i) 8) (Q (Y p.U i n_).val.I) (cK (a3 i) 8))]),[],(fP dk [(sL e2 (Q ((Y p.U i n_).A++(Y p.U i n_).B)) e3),(S_ Z aa an),(S_ bF p.d b6),(S_ b0 p.U b7)]),[]] R) ?_ ?_
   ·refine ab (zm _ (ad (bK V V V V) V V (zm (.bool ((rd:Int)==0)) (fg V V (λT=>?_) (λT=>?_)))))
    ·have c3:=T;try simp only[BS]at c3
     refine ad (v:=(aG [_,_,_,_])) (cm (i:=0) V V V (HS.hc b4 (i:=3) V) V V V) V V (aC V T (ad (v:=(pT c6 3)) (bI V V) V V (aC V T (ad (aU (i:=3) V V (i_ b4 V) V V) V V (aC V T ?_)))));refine zc (cc.checks_c ex (⟨_,aa,(⟨_,_⟩:PrgT)⟩:ScpT) _ _ (HS.call b4) a1 a9 E O ax M M M M (λh=>absurd h Bool.false_ne_true)) ?_;rintro _ it ⟨kd,hW,a8,ba,rfl,rfl⟩;replace ba:=HS.G8 b4 V ba;have⟨E,O,a1,a9,a2⟩:=M5 a8 E O a1 a9 a2;refine aC V T (ad (bY V) V V (aC V T (zm (.bool (!(csS _ _ _))) (bM V V (λU=>?_) (λU=>?_)))))
     ·have c4:=U;try simp only[BS]at c4
      refine ad (v:=(aG [_,_,_,_])) (cm (i:=0) V V V (HS.hc ba (i:=3) V) V V V) V V (aC V U (ad (v:=(pT c6 4)) (bI V V) V V (aC V U (ad (v:=(aG [_,_,_,_,_])) (cm (i:=4) V V V (i_ ba V) V V V) V V (aC V U ?_)))));refine zc (cc.lP ex (⟨_,aa,(⟨_,_⟩:PrgT)⟩:ScpT) _ (HS.call ba) a1 a9 E O M M M a2 M M M) ?_;rintro _ iv ⟨ki,hX,e6,c0,rfl,rfl⟩;replace c0:=HS.G8 ba V c0;refine aC V U (ad (bY V) V V (aC V T (ad (v:=(.bool (!(dfE _ _ _)))) (aH V U V) V V (ad (v:=(.bool (!(dfE _ _ _)))) (aq V T V) V V (aB ?_)))));exact ao ⟨V,⟨_,(fT (fT fR a8) e6),HS.sub c0 (List.Sublist.refl _)⟩,(by repeat' first|exact Lr|refine Lu V ?_),(agC (congrArg _ (show(!(dfE _ _ _))=(((rd:Int)==0)&&((!(csS _ _ _))||(!(dfE _ _ _)))) by simp only[↓T,↓U,BT])) agN)⟩
     have c4:=U;try simp only[BS]at c4
     refine ae V U V (ae V U V (ae V U V (ae V U V (aC V T (ad (v:=(.bool true)) (aq V U V) V V ?_)))));refine ad (v:=(.bool true)) (aq V T V) V V (aB ?_);exact ao ⟨V,⟨_,(fT fR a8),HS.sub ba (List.Sublist.refl _)⟩,(by repeat' first|exact Lr|refine Lu V ?_),(agC (congrArg _ (show true=(((rd:Int)==0)&&((!(csS _ _ _))||(!(dfE _ _ _)))) by simp only[↓T,↓U,BT])) agN)⟩
    have c3:=T;try simp only[BS]at c3
    refine aK V T V (aK V T V (aK V T V (aK V T V (aK V T V (dH V V ?_)))));refine dH V V (dH V V (dH V V (dH V V (aK V T V (ad (v:=(.bool false)) (aH V T V) V V ?_)))));refine aB ?_;exact ao ⟨V,⟨_,fR,HS.sub b4 (List.Sublist.refl _)⟩,(by repeat' first|exact Lr|refine Lu V ?_),(agC (congrArg _ (show false=(((rd:Int)==0)&&((!(csS _ _ _))||(!(dfE _ _ _)))) by simp only[↓T,BT])) agN)⟩
   skip;rintro jA ik ⟨hV,a6,b5⟩;have⟨E,O,a1,a9,ax⟩:=M5 a6 E O a1 a9 ax;refine aj 1 V (zI 1 2 (λc7=>?_) λc7=>?_)
   ·have gs:=(g1 (by have:=c7.1;omega)).trans (al_no (p:=dfF p) (i:=i) M (ck_y (by simpa only[dX] using c7.2) (by rw[kA])));refine wr 1 [] 2 2 [] [(2,(.int _ 3))] trivial V V λ_=>ag ⟨.inr V,_,V,3,_,(fT (fT (fT (fT (fT (fT (fT (fT (bw) b2) bb) bf) bl) aA) a4) a5) a6),(HS.G3 b5),V,(ck_3 ar cp e4 gs).symm⟩
   have f6:=λh=>ck_n (f:=(Y p.U i n_)) (by simpa only[dX] using c7 h) (by rw[kA])
   refine sj 1 77 85 [] [(85,(((rd:Int)==1)&&(!(csS _ _ _))))] (dx 3 (λ_=>(jn b5 75 0 4 3 V V V V V)) (dx 5 (λ_=>(jl b5 51 3 1 V V V)) (hP 6 (λ_=>(jc b5 λ_ _ j q=>cc.checks_c ex (⟨_,aa,(⟨_,_⟩:PrgT)⟩:ScpT) _ _ q (a1.ac j) (a9.ac j) (E.ac j) (O.ac j) (ax.ac j) M M M M (by(have gq:=eq_of_beq (by assumption:((rd:Int)==1)=true);exact λ_=>ck_d (h1 M) M kA)))) Hn_))) b5 V V λhF i0 h0 d1 d9=>?_
   refine zI 1 2 (λc8=>?_) λc8=>?_
   ·have gs:=(g2 (by have:=c8.1;omega)).trans (al_no (p:=arF p) (i:=i) M (ck_z c8.2));refine wr 1 [] 2 2 [] [(2,(.int _ 5))] trivial V V λ_=>ag ⟨.inr V,_,V,5,_,(fT (fT (fT (fT (fT (fT (fT (fT (fT (bw) b2) bb) bf) bl) aA) a4) a5) a6) d1),(HS.G3 d9),V,(ck_5 ar cp e4 (h1 M) gs).symm⟩
   have f7:=λh=>ck_w (f:=(Y p.U i n_)) (c8 h)
   refine wr 1 [] 27 28 [4] [(4,(.int _ _))] (vA (vi) trivial) V V λ_=>?_
   refine f5 _ _ _ ?_ ⟨i+1,_,(fT (fT (fT (fT (fT (bl) aA) a4) a5) a6) d1),(HS.sub d9 (a06 _ _)),f_,V,(λh=>(g1 h).trans (al_go M (f6 M))),(λh=>(g2 h).trans (al_go M (f7 M))),M⟩;omega
  refine wr 1 [] 20 21 [3] [(3,(.int _ _))] (vA (vi) trivial) V V λ_=>?_
  refine f4 _ _ _ ?_ ⟨rd+1,_,(fT (bf) bl),bn,f_,V,(λ_=>ck_h (h1) (λh=>(g1 h).trans (m5 M))),(λh=>(g2 M).trans (m5 M)),M⟩;omega
 refine wr 1 [] 2 2 [] [(2,(.int _ 0))] trivial V V λ_=>ag ⟨.inr V,_,V,0,_,(fT (fT (fT (bw) b2) bb) bf),(HS.G3 d5),V,(ck_0 ar cp e4 (h1 M) (h2 M)).symm⟩
end cd
open cd
namespace ta
def opTx:List Str:=[⟨[43]⟩,⟨[45]⟩,⟨[42]⟩,⟨[47]⟩,⟨[37]⟩,⟨[38]⟩,⟨[124]⟩,⟨[94]⟩,⟨[60,60]⟩,⟨[62,62,62]⟩,⟨[62,62]⟩,⟨[61,61]⟩,⟨[33,61]⟩,⟨[60]⟩,⟨[60,61]⟩]
def opX(o:Int):List UInt8:=(Y opTx (o-4).toNat n_).b
def opF(e:ExpT)(m:Bool)(t:List UInt8):List UInt8:=if(e.j=4\/e.j=5)\/(m=true/\e.j=1) then([40]++t)++[41] else t
def opK2(ks:List ExpT)(ts:List (List UInt8))(i:Nat)(m:Bool):List UInt8:=opF (Y ks i n_) m (Y ts i [])
def fmN(k n:Int)(nm:List UInt8)(o:Int)(ks:List ExpT)(ts:List (List UInt8)):List UInt8:=
 if k=1 then dI n
 else if k=2 then nm
 else if k=3 then((nm++[91])++Y ts 0 [])++[93]
 else if k=5 then(((opK2 ks ts 0 false++[32,63,32])++opK2 ks ts 1 false)++[32,58,32])++opK2 ks ts 2 false
 else if o=20 then [45]++opK2 ks ts 0 true
 else if o=21 then [126]++opK2 ks ts 0 false
 else(((opK2 ks ts 0 false++[32])++opX o)++[32])++opK2 ks ts 1 false
mutual
def fmE:ExpT->List UInt8
 |⟨k,n,nm,o,ks⟩=>fmN k n nm.b o ks (fV ks)
def fV:List ExpT->List (List UInt8)
 | []=> []
 |e::l=>fmE e::fV l
end
def jnR:Bool->List Str->List UInt8
 |_,[]=> []
 |b,x::l=>(if b=true then [44,32] else [])++x.b++jnR true l
def jn8(l:List Str):List UInt8:=jnR false l
def ko(l:List (List UInt8)):List Str:=l.map Str.mk
def fmK(s:StmT)(ind t e:List UInt8):List UInt8:=
 if s.j=1 then s.pp.b++[32,61,32]++fmE s.val++[59,10]
 else if s.j=2 then s.pp.b++[91]++fmE s.G2++[93,32,61,32]++fmE s.val++[59,10]
 else if s.j=5 then [111,117,116,32]++fmE s.val++[59,10]
 else if s.j=7 then [116,114,97,112,32]++dI s.n++[59,10]
 else if s.j=4 then [119,104,105,108,101,32,40]++fmE s.val++[41,32,123,10]++t++ind++[125,10]
 else if s.j=3 then [105,102,32,40]++fmE s.val++[41,32,123,10]++t++ind++[125]++(if 0<Q s.G7 then [32,101,108,115,101,32,123,10]++e++ind++[125] else [])++[10]
 else s.pp.b++[32,61,32]++s.K.b++[40]++jn8 (ko (fV s.y))++[41,59,10]
mutual
def fmS:StmT->List UInt8->List UInt8
 |⟨k,nm,to,n,a,v,ar,t,e⟩,ind=>ind++fmK ⟨k,nm,to,n,a,v,ar,t,e⟩ ind (eC t (ind++[32,32])) (eC e (ind++[32,32]))
def eC:List StmT->List UInt8->List UInt8
 | [],_=> []
 |s::l,ind=>fmS s ind++eC l ind
end
def arT(a:ArrT):List UInt8:=[97,114,114,97,121,32]++a.pp.b++[32]++dI a.len++[59,10]
def lcT(l:List Str):List UInt8:=if 0<Q l then [118,97,114,32]++jn8 l++[32] else []
def fnT(f:FunT):List UInt8:=[102,117,110,99,32]++f.pp.b++[40]++jn8 f.A++[41,32]++lcT f.B++[123,10]++eC f.G6 [32,32]++[32,32,114,101,116,117,114,110,32]++fmE f.val++[59,10,125,10]
def txP(p:PrgT):List UInt8:=p.d.flatMap arT++p.U.flatMap fnT
def prT(p:PrgT):List UInt8:=if chk p=0 then txP p else []
theorem jn_end{l:List Str}{s:List UInt8}{i:Nat}{b:Bool}(h:jn8 l=s++jnR b (l.drop i))(hi:Q l<=i):jn8 l=s:=by rw[h,ew hi];cases b<;>exact a0k _
theorem jn_b{l:List Str}{s:List UInt8}{i n:Nat}{b:Bool}(hi:i<Q l)(h:jn8 l=s++jnR b (l.drop i))(E:Q (jn8 l)<=n):Q s+(if b=true then 2 else 0)+Q (Y l i n_).b<=n:=by rw[h,cz (d:=n_) hi,jnR,a00,a00,a00]at E;cases b<;>simp at E⊢ <;>omega
theorem jn_s1{l:List Str}{s:List UInt8}{i:Nat}(hi:i<Q l)(h:jn8 l=s++jnR (decide (0<i)) (l.drop i))(E:0<i):jn8 l=((s++[44,32])++(Y l i n_).b)++jnR (decide (0<i+1)) (l.drop (i+1)):=by rw[h,cz (d:=n_) hi,jnR,decide_eq_true E,decide_eq_true (Nat.succ_pos i)];simp only[a0b,if_true]
theorem jn_s0{l:List Str}{s:List UInt8}{i:Nat}(hi:i<Q l)(h:jn8 l=s++jnR (decide (0<i)) (l.drop i))(E:i=0):jn8 l=(s++(Y l i n_).b)++jnR (decide (0<i+1)) (l.drop (i+1)):=by rw[h,cz (d:=n_) hi,jnR,decide_eq_false (show ¬0<i by omega),decide_eq_true (Nat.succ_pos i)];simp
theorem fm_e(e:ExpT):fmE e=fmN e.j e.n e.pp.b e.op e.I (fV e.I):=by cases e;rw[fmE]
theorem fms_at: ∀{l:List ExpT} {i:Nat},i<Q l->Y (fV l) i []=fmE (Y l i n_)
 |e::l,0,_=>by rw[fV];rfl
 |e::l,i+1,h=>by rw[fV];exact fms_at (l:=l) (by simpa using h)
theorem op_at{l:List ExpT}{i:Nat}(m:Bool)(h:i<Q l):opK2 l (fV l) i m=opF (Y l i n_) m (fmE (Y l i n_)):=by unfold opK2;rw[fms_at h]
theorem fm_1{e:ExpT}(h:e.j=1):fmE e=dI e.n:=by rw[fm_e,fmN,if_pos h]
theorem fm_2{e:ExpT}(h:e.j=2):fmE e=e.pp.b:=by rw[fm_e,fmN,if_neg M,if_pos h]
theorem fm_3{e:ExpT}(h:e.j=3)(k:(Q e.I:Int)=1):fmE e=((e.pp.b++[91])++fmE (Y e.I 0 n_))++[93]:=by rw[fm_e,fmN,if_neg M,if_neg M,if_pos h,fms_at M]
theorem fm_5{e:ExpT}(h:e.j=5)(k:(Q e.I:Int)=3):fmE e=(((opF (Y e.I 0 n_) false (fmE (Y e.I 0 n_))++[32,63,32])++opF (Y e.I 1 n_) false (fmE (Y e.I 1 n_)))++[32,58,32])++opF (Y e.I 2 n_) false (fmE (Y e.I 2 n_)):=by rw[fm_e,fmN,if_neg M,if_neg M,if_neg M,if_pos h,op_at _ M,op_at _ M,op_at _ M]
theorem fm_n{e:ExpT}(h:e.j=4)(o:e.op=20)(k:(Q e.I:Int)=1):fmE e=[45]++opF (Y e.I 0 n_) true (fmE (Y e.I 0 n_)):=by rw[fm_e,fmN,if_neg M,if_neg M,if_neg M,if_neg M,if_pos o,op_at _ M]
theorem fm_t{e:ExpT}(h:e.j=4)(o:e.op=21)(k:(Q e.I:Int)=1):fmE e=[126]++opF (Y e.I 0 n_) false (fmE (Y e.I 0 n_)):=by rw[fm_e,fmN,if_neg M,if_neg M,if_neg M,if_neg M,if_neg M,if_pos o,op_at _ M]
theorem fm_b{e:ExpT}(h:e.j=4)(o:e.op≠20)(E:e.op≠21)(k:(Q e.I:Int)=2):fmE e=(((opF (Y e.I 0 n_) false (fmE (Y e.I 0 n_))++[32])++opX e.op)++[32])++opF (Y e.I 1 n_) false (fmE (Y e.I 1 n_)):=by rw[fm_e,fmN,if_neg M,if_neg M,if_neg M,if_neg M,if_neg o,if_neg E,op_at _ M,op_at _ M]
theorem ft{e:ExpT}(h:wfE e=true):eQ e.I=true/\wfN e.j e.n e.pp.b e.op (Q e.I:Int)=true:=by rw[wf_e,a04]at h;exact h
theorem i6: ∀{l:List ExpT} {i:Nat},eQ l=true->i<Q l->wfE (Y l i n_)=true
 |e::l,0,h,_=>by rw[eQ,a04]at h;exact h.1
 |e::l,i+1,h,hi=>by rw[eQ,a04]at h;exact i6 (l:=l) h.2 (by simpa using hi)
theorem oY{l:List ExpT}{i:Nat}(h:eQ l=true)(hi:i<Q l):ndE (Y l i n_)<=hR l/\wfE (Y l i n_)=true/\∀m,Q (fmE (Y l i n_))<=Q (opF (Y l i n_) m (fmE (Y l i n_))):=⟨oO hi,i6 h hi,λm=>by unfold opF;split<;>first|(simp only[a00];omega)|exact a07 _⟩
theorem op_len(e:ExpT)(m:Bool)(t:List UInt8):Q t<=Q (opF e m t):=by unfold opF;split<;>first|(simp only[a00];omega)|exact a07 _
theorem opF_1{e:ExpT}{m:Bool}{t:List UInt8}(h:(e.j=4\/e.j=5)\/(m=true/\e.j=1)):opF e m t=([40]++t)++[41]:=by unfold opF;rw[if_pos h]
theorem opF_0{e:ExpT}{m:Bool}{t:List UInt8}(h:(e.j≠4/\e.j≠5)/\(m=true->e.j≠1)):opF e m t=t:=by unfold opF;rw[if_neg (λk=>k.elim (λq=>q.elim h.1.1 h.1.2) λq=>h.2 q.1 q.2)]
theorem wfN_3{k n o c:Int}{nm:List UInt8}(h:k=3)(w:wfN k n nm o c=true):c=1/\True:=by unfold wfN at w;rw[if_neg M,if_neg M,if_pos h]at w;simp only[a04,beq_iff_eq]at w;exact⟨w.1.1.1,trivial⟩
theorem wfN_5{k n o c:Int}{nm:List UInt8}(h:k=5)(w:wfN k n nm o c=true):c=3:=by unfold wfN at w;rw[if_neg M,if_neg M,if_neg M,if_neg M,if_pos h]at w;simp only[a04,beq_iff_eq]at w;exact w.1.1.1
theorem wfN_4{k n o c:Int}{nm:List UInt8}(E:k≠1)(O:k≠2)(T:k≠3)(U:k≠5)(w:wfN k n nm o c=true):k=4/\((o≠20/\o≠21)->c=2/\4<=o/\o<=18)/\((o=20\/o=21)->c=1):=by
 unfold wfN at w;rw[if_neg E,if_neg O,if_neg T]at w;split at w
 ·next h=>
  unfold binO at w;simp only[a04,a0E,beq_iff_eq,decide_eq_true_eq]at w;exact⟨h,λq=>by omega,λq=>by omega⟩
 cases w
end ta
open ta
namespace tb
theorem fm_s(s:StmT)(ind:List UInt8):fmS s ind=ind++fmK s ind (eC s.G4 (ind++[32,32])) (eC s.G7 (ind++[32,32])):=by cases s;rw[fmS]
theorem wts_at: ∀{l:List StmT} {i:Nat},dB l=true->i<Q l->wfS (Y l i n_)=true
 |e::l,0,h,_=>by rw[dB,a04]at h;exact h.1
 |e::l,i+1,h,hi=>by rw[dB,a04]at h;exact wts_at (l:=l) h.2 (by simpa using hi)
theorem wk_v{s:StmT}(h:wfK s=true):(1<=s.j/\s.j<=5)->wfE s.val=true:=by
 intro E;unfold wfK at h;repeat' split at h
 all_goals first|(simp only[a04]at h;first|exact h.2|exact h.1.2|omega)|omega|cases h
theorem wk_a{s:StmT}(h:wfK s=true):s.j=2->wfE s.G2=true:=by intro E;unfold wfK at h;rw[if_neg M,if_pos E]at h;simp only[a04]at h;exact h.1.1.2
section
variable {s:StmT} {ind t e:List UInt8}
theorem fk_1(h:s.j=1):fmK s ind t e=s.pp.b++[32,61,32]++fmE s.val++[59,10]:=by rw[fmK,if_pos h]
theorem fk_2(h:s.j=2):fmK s ind t e=s.pp.b++[91]++fmE s.G2++[93,32,61,32]++fmE s.val++[59,10]:=by rw[fmK,if_neg M,if_pos h]
theorem fk_5(h:s.j=5):fmK s ind t e=[111,117,116,32]++fmE s.val++[59,10]:=by rw[fmK,if_neg M,if_neg M,if_pos h]
theorem fk_7(h:s.j=7):fmK s ind t e=[116,114,97,112,32]++dI s.n++[59,10]:=by rw[fmK,if_neg M,if_neg M,if_neg M,if_pos h]
theorem fk_4(h:s.j=4):fmK s ind t e=[119,104,105,108,101,32,40]++fmE s.val++[41,32,123,10]++t++ind++[125,10]:=by rw[fmK,if_neg M,if_neg M,if_neg M,if_neg M,if_pos h]
theorem fk_3(h:s.j=3):fmK s ind t e=[105,102,32,40]++fmE s.val++[41,32,123,10]++t++ind++[125]++(if 0<Q s.G7 then [32,101,108,115,101,32,123,10]++e++ind++[125] else [])++[10]:=by rw[fmK,if_neg M,if_neg M,if_neg M,if_neg M,if_neg M,if_pos h]
theorem fk_6(E:s.j≠1)(O:s.j≠2)(T:s.j≠5)(U:s.j≠7)(Z:s.j≠4)(h6:s.j≠3):fmK s ind t e=s.pp.b++[32,61,32]++s.K.b++[40]++jn8 (ko (fV s.y))++[41,59,10]:=by rw[fmK,if_neg E,if_neg O,if_neg T,if_neg U,if_neg Z,if_neg h6]
end
theorem oB(l:List ExpT):Q (ko (fV l))=Q l:=by
 unfold ko;rw[a1m];induction l with
 |nil=>rfl
 |cons e l ih=>rw[fV,a02,ih];rfl
theorem strs_at: ∀{l:List ExpT} {k:Nat},k<Q l->(ko (fV l))[k]?=some ⟨fmE (Y l k n_)⟩
 |e::l,0,_=>by rw[fV];rfl
 |e::l,k+1,h=>by rw[fV];exact strs_at (l:=l) (by simpa using h)
theorem st_n{l:List ExpT}{k:Nat}(h:k<Q l):(ko (fV l)).take (k+1)=(ko (fV l)).take k++[⟨fmE (Y l k n_)⟩]:=by rw[a19,strs_at h];rfl
theorem at_mem{l:List ExpT}{k:Nat}(h:k<Q l):(⟨fmE (Y l k n_)⟩:Str)∈ko (fV l):=a0w (strs_at h)
theorem jnR_le: ∀(b:Bool) (l:List Str) (x:Str),x∈l->Q x.b<=Q (jnR b l)
 |b,y::l,x,h=>by
  rw[jnR,a00,a00];rcases a0n.1 h with rfl|h
  ·omega
  have:=jnR_le true l x h;omega
theorem jn_le(l:List Str)(x:Str)(h:x∈l):Q x.b<=Q (jn8 l):=jnR_le false l x h
def SnP(p:PrgT):Prop:=Q p.d<1000000000/\(Q p.U)<1000000000/\∀f∈p.U,Q f.A<1000000000/\(Q f.B)<1000000000/\fw f.G6<1000000000/\ndE f.val<1000000000
theorem SnP.sm{p:PrgT}(h:SnP p):SmP p:=⟨a1V h.1 e_,a1V h.2.1 e_,λf E=>⟨(h.2.2 f E).1,(h.2.2 f E).2.1,a1V (h.2.2 f E).2.2.1 e_,a1V (h.2.2 f E).2.2.2 e_⟩⟩
theorem ck_ok{p:PrgT}(h:chk p=0):wfP p=true/\exL p=false:=by
 unfold chk at h;split at h
 ·cases h
 next E=>
 split at h
 ·cases h
 next O=>exact⟨by simpa using O,by simpa using E⟩
theorem fl_arr{α:Type} [Inhabited α]{g:α->List UInt8}{l:List α}{i:Nat}(h:i<Q l):(l.drop i).flatMap g=g (Y l i n_)++(l.drop (i+1)).flatMap g:=by rw[cz (d:=n_) h,a1r]
theorem wf_ok{p:PrgT}(h:wfP p=true){i:Nat}(hi:i<Q p.U):dB (Y p.U i n_).G6=true/\wfE (Y p.U i n_).val=true:=by unfold wfP at h;rw[a04]at h;have:=a0r.1 h.2 _ (cr hi);rw[wf_f,a04,a04]at this;exact⟨this.1.2,this.2⟩
end tb
open tb
namespace bk
open Go.R w3 l1 pt ca
mutual
def bkE:ExpT->Nat
 |⟨k,_,nm,_,ks⟩=>(5+16 *min 1 (k.toNat+Q ks))+Q nm.b+dD ks
def dD:List ExpT->Nat
 | []=>0
 |e::l=>bkE e+dD l
end
mutual
def bkS:StmT->Nat
 |⟨k,nm,to,_,a,v,ar,t,e⟩=>(165-95 *min 1 ((k-4).toNat+(3-k).toNat)-20 *min 1 ((k-7).toNat+(7-k).toNat))+Q nm.b+Q to.b+bkE a+bkE v+(dD ar+2 *Q ar)+cN t+cN e
def cN:List StmT->Nat
 | []=>0
 |s::l=>bkS s+cN l
end
def uS:StmT->Nat
 |⟨k,nm,to,_,a,v,ar,t,e⟩=>(45-15 *min 1 ((k-4).toNat+(3-k).toNat)-20 *min 1 ((k-7).toNat+(7-k).toNat))+Q nm.b+Q to.b+bkE a+bkE v+(dD ar+2 *Q ar)+cN t+cN e
def uSs:List StmT->Nat
 | []=>0
 |s::l=>uS s+uSs l
def bkN:List Str->Nat
 | []=>0
 |s::l=>2+Q s.b+bkN l
def bkF(f:FunT):Nat:=50+Q f.pp.b+bkN f.A+bkN f.B+uSs f.G6+bkE f.val
def bkFs:List FunT->Nat
 | []=>0
 |f::l=>bkF f+bkFs l
def bkA(a:ArrT):Nat:=30+Q a.pp.b
def lj:List ArrT->Nat
 | []=>0
 |a::l=>bkA a+lj l
def bkP(p:PrgT):Nat:=lj p.d+bkFs p.U
theorem bk_e(e:ExpT):bkE e=(5+16 *min 1 (e.j.toNat+Q e.I))+Q e.pp.b+dD e.I:=by cases e;rw[bkE]
theorem bk_s(s:StmT):bkS s=(165-95 *min 1 ((s.j-4).toNat+(3-s.j).toNat)-20 *min 1 ((s.j-7).toNat+(7-s.j).toNat))+Q s.pp.b+Q s.K.b+bkE s.G2+bkE s.val+(dD s.y+2 *Q s.y)+cN s.G4+cN s.G7:=by cases s;rw[bkS]
theorem bk_u(s:StmT):uS s=(45-15 *min 1 ((s.j-4).toNat+(3-s.j).toNat)-20 *min 1 ((s.j-7).toNat+(7-s.j).toNat))+Q s.pp.b+Q s.K.b+bkE s.G2+bkE s.val+(dD s.y+2 *Q s.y)+cN s.G4+cN s.G7:=by cases s;rw[uS]
theorem bkE_pos(e:ExpT):5<=bkE e:=by rw[bk_e];omega
theorem bkS_pos(s:StmT):50<=bkS s:=by rw[bk_s];omega
theorem u_le(s:StmT):uS s<=bkS s/\10<=uS s:=by rw[bk_s,bk_u];omega
theorem kz: ∀l:List StmT,uSs l<=cN l/\(Q l)<=uSs l
 | []=>⟨a07 _,a07 _⟩
 |s::l=>by rw[cN,uSs,a02];have:=u_le s;have:=kz l;omega
theorem j9: ∀l:List ExpT,Q l<=dD l
 | []=>a0h _
 |e::l=>by rw[dD,a02];have:=j9 l;have:=bkE_pos e;omega
theorem gf: ∀l:List StmT,Q l<=cN l
 | []=>a0h _
 |e::l=>by rw[cN,a02];have:=gf l;have:=bkS_pos e;omega
theorem cY: ∀l:List Str,Q l<=bkN l
 | []=>a0h _
 |e::l=>by rw[bkN,a02];have:=cY l;omega
theorem iS: ∀l:List FunT,Q l<=bkFs l
 | []=>a0h _
 |e::l=>by rw[bkFs,a02];have:=iS l;unfold bkF;omega
theorem lS: ∀l:List ArrT,Q l<=lj l
 | []=>a0h _
 |e::l=>by rw[lj,a02];have:=lS l;unfold bkA;omega
theorem gh: ∀l m:List ExpT,dD (l++m)=dD l+dD m
 | [],m=>by rw[a0o,dD,a0x]
 |e::l,m=>by rw[a0t,dD,dD,gh l m,a0C]
theorem gg: ∀l m:List StmT,cN (l++m)=cN l+cN m
 | [],m=>by rw[a0o,cN,a0x]
 |e::l,m=>by rw[a0t,cN,cN,gg l m,a0C]
theorem bkN_app: ∀l m:List Str,bkN (l++m)=bkN l+bkN m
 | [],m=>by rw[a0o,bkN,a0x]
 |e::l,m=>by rw[a0t,bkN,bkN,bkN_app l m];omega
theorem bkFs_app: ∀l m:List FunT,bkFs (l++m)=bkFs l+bkFs m
 | [],m=>by rw[a0o,bkFs,a0x]
 |e::l,m=>by rw[a0t,bkFs,bkFs,bkFs_app l m,a0C]
theorem bkAs_app: ∀l m:List ArrT,lj (l++m)=lj l+lj m
 | [],m=>by rw[a0o,lj,a0x]
 |e::l,m=>by rw[a0t,lj,lj,bkAs_app l m,a0C]
theorem bkEs_at: ∀{l:List ExpT} {i:Nat},i<Q l->bkE (Y l i default)<=dD l
 |e::l,0,_=>by rw[dD];show bkE e<=_;omega
 |e::l,i+1,h=>by rw[dD];have:=bkEs_at (l:=l) (i:=i) (by simpa using h);show bkE (Y l i default)<=_;omega
theorem kP: ∀{l:List StmT} {i:Nat},i<Q l->bkS (Y l i default)<=cN l
 |e::l,0,_=>by rw[cN];show bkS e<=_;omega
 |e::l,i+1,h=>by rw[cN];have:=kP (l:=l) (i:=i) (by simpa using h);show bkS (Y l i default)<=_;omega
theorem bkEs_set{x:ExpT}{k:Nat}: ∀{l:List ExpT} {i:Nat},i<Q l->bkE x<=bkE (Y l i default)+k->dD (l.set i x)<=dD l+k
 |e::l,0,_,h=>by rw[List.set_cons_zero,dD,dD];have h:bkE x<=bkE e+k:=h;omega
 |e::l,i+1,hi,h=>by rw[a1O,dD,dD];have:=bkEs_set (l:=l) (i:=i) (by simpa using hi) h;omega
theorem lR{x:StmT}{k:Nat}: ∀{l:List StmT} {i:Nat},i<Q l->bkS x<=bkS (Y l i default)+k->cN (l.set i x)<=cN l+k
 |e::l,0,_,h=>by rw[List.set_cons_zero,cN,cN];have h:bkS x<=bkS e+k:=h;omega
 |e::l,i+1,hi,h=>by rw[a1O,cN,cN];have:=lR (l:=l) (i:=i) (by simpa using hi) h;omega
theorem ic{l:List Str}{k m:Nat}(h: ∀s∈l,Q s.b<=m):Q (Y l k default).b<=m:=by
 rcases a0p k (Q l) with q|q
 ·exact h _ (cr q)
 rw[bW q];exact a0h _
end bk
open bk
namespace bg
open Go.R w3 l1 pt ga gb ca bk
theorem iA(k n:Int)(nm:Str)(o:Int)(ks:List ExpT):bkE ⟨k,n,nm,o,ks⟩=(5+16 *min 1 (k.toNat+Q ks))+Q nm.b+dD ks:=by rw[bkE]
theorem gt(k:Int)(nm to:Str)(n:Int)(a v:ExpT)(ar:List ExpT)(t e:List StmT):bkS ⟨k,nm,to,n,a,v,ar,t,e⟩=(165-95 *min 1 ((k-4).toNat+(3-k).toNat)-20 *min 1 ((k-7).toNat+(7-k).toNat))+Q nm.b+Q to.b+bkE a+bkE v+(dD ar+2 *Q ar)+cN t+cN e:=by rw[bkS]
theorem bk_mu(k:Int)(nm to:Str)(n:Int)(a v:ExpT)(ar:List ExpT)(t e:List StmT):uS ⟨k,nm,to,n,a,v,ar,t,e⟩=(45-15 *min 1 ((k-4).toNat+(3-k).toNat)-20 *min 1 ((k-7).toNat+(7-k).toNat))+Q nm.b+Q to.b+bkE a+bkE v+(dD ar+2 *Q ar)+cN t+cN e:=by rw[uS]
theorem bk_nm{f n:Int}:Q (nmG f n).b<=1:=by unfold nmG bo;split<;>exact ic e_
theorem bk_ab{k:Nat}:Q (Y abG k default).b<=1:=ic e_
theorem bk_fg{k:Nat}:Q (Y zGB4 k default).b<=1:=ic e_
theorem bk_z:bkE zE=5:=by unfold zE mkE bP;rw[bkE,dD];rfl
theorem bk_leaf{f n:Int}{b:Bool}:bkE (gn f n b)<=22:=by
 unfold gn mkE;split
 ·rw[bkE,dD];have:=bk_nm (f:=f) (n:=n);omega
 rw[bkE,dD];show 5+16 *min 1 ((1:Int).toNat+0)+0+0<=22;decide
theorem gnx_le(r:RdT):Q (au r).l<=Q r.l:=by show Q r.l.tail<=_;rw[List.length_tail];omega
theorem gnx_lt{r:RdT}(h:r.l≠ []):Q (au r).l+1=Q r.l:=by
 show Q r.l.tail+1=_;cases e:r.l with
 |nil=>exact absurd e h
 |cons x l=>rfl
theorem ghd_nil{r:RdT}(h:r.l=[]):ah (hdG r) 16=0:=by unfold hdG;rw[h];decide
theorem lH(f:Int): ∀(n:Nat) (r:RdT),Q (ap f n r).2.l<=Q r.l/\bkE (ap f n r).1+65 *Q (ap f n r).2.l<=65 *Q r.l+22
 |0,r=>by rw[ap];have:=bk_leaf (f:=f) (n:=hdG r) (b:=true);have:=gnx_le r;exact⟨this,by show bkE (gn f (hdG r) true)+65 *Q (au r).l<=_;omega⟩
 |n+1,r=>by
  have l0:=bk_leaf (f:=f) (n:=hdG r) (b:=false);have E:=gnx_le r;by_cases hl:r.l=[]
  ·have O:ap f (n+1) r=(gn f (hdG r) false,au r):=by rw[ap,if_pos (by rw[ghd_nil hl];decide)]
   rw[O];exact⟨E,by show bkE (gn f (hdG r) false)+65 *Q (au r).l<=_;omega⟩
  have hx:=gnx_lt hl;have T:=lH f n (au r);have U:=lH f n (ap f n (au r)).2;have Z:=lH f n (ap f n (ap f n (au r)).2).2;rw[ap];split
  ·exact⟨E,by show bkE (gn f (hdG r) false)+65 *Q (au r).l<=_;omega⟩
  split
  ·have:=bk_ab (k:=ah ((hdG r).tdiv 16) 1000%2);refine⟨by dsimp only;omega,?_⟩;simp only[mkE,iA,dD];omega
  split
  ·refine⟨by dsimp only;omega,?_⟩;simp only[mkE,bP,iA,dD,a03];omega
  split
  ·refine⟨by dsimp only;omega,?_⟩;simp only[mkE,bP,iA,dD,a03];omega
  refine⟨by dsimp only;omega,?_⟩;simp only[mkE,bP,iA,dD,a03];omega
theorem bk_args(f:Int): ∀(k:Nat) (r:RdT),Q (bT f k r).2.l<=Q r.l/\(Q (bT f k r).1)=k/\dD (bT f k r).1+65 *Q (bT f k r).2.l<=65 *Q r.l+22 *k
 |0,r=>by rw[bT,dD];exact⟨a07 _,V,by dsimp only;omega⟩
 |k+1,r=>by rw[bT,dD];have O:=lH f 2 r;have E:=bk_args f k (ap f 2 r).2;exact⟨by dsimp only;omega,by rw[a02,E.2.1],by dsimp only;omega⟩
def RwC(x:List StmT×RdT)(r:RdT):Prop:=Q x.2.l<=Q r.l/\cN x.1+174 *Q x.2.l<=174 *Q r.l
def StC(x:StmT×RdT)(r:RdT):Prop:=Q x.2.l+1<=Q r.l/\bkS x.1+174 *Q x.2.l<=174 *Q r.l
theorem bk_row{g:RdT->StmT×RdT}(h: ∀r,r.l≠ []->StC (g r) r): ∀(k:Nat) (r:RdT),RwC (jT g k r) r
 |0,r=>by rw[jT];exact⟨a07 _,by rw[cN];dsimp only;omega⟩
 |k+1,r=>by
  rw[jT];split
  ·exact⟨a07 _,by rw[cN];dsimp only;omega⟩
  next hl=>
  have⟨E,O⟩:=h r hl;have⟨T,U⟩:=bk_row h k (g r).2;exact⟨by dsimp only;omega,by rw[cN];dsimp only;omega⟩
theorem bk_sub{g:RdT->StmT×RdT}(h: ∀r,r.l≠ []->StC (g r) r)(m:Nat)(r:RdT):RwC (subG g m r) r:=by unfold subG;have⟨E,O⟩:=bk_row h (ah (hdG r) (m+1)) (au r);have:=gnx_le r;exact⟨M,M⟩
theorem bk_sB{sub:Nat->RdT->List StmT×RdT}{flat:Bool}{f:Int}{r:RdT}(hl:r.l≠ [])(h: ∀m r,RwC (sub m r) r):StC (gK sub flat f r) r:=by
 have z:=bk_z;have a:=bk_nm (f:=f) (n:=hdG r);have b:=bk_ab (k:=ah ((hdG r).tdiv 16) 1000%2);have c:=bk_fg (k:=ah ((hdG r).tdiv 16) 1000%2);have hx:=gnx_lt hl;unfold gK;split
 ·have E:=lH f 4 (au r);refine⟨by dsimp only;omega,?_⟩;simp only[mkS,bP,gt,dD,cN,a03];omega
 split
 ·have E:=lH f 2 (au r);have O:=lH f 3 (ap f 2 (au r)).2;refine⟨by dsimp only;omega,?_⟩;simp only[mkS,bP,gt,dD,cN,a03];omega
 split
 ·have E:=lH f 3 (au r);have⟨O,Z⟩:=h 3 (ap f 3 (au r)).2;have⟨T,h5⟩:=h 2 (sub 3 (ap f 3 (au r)).2).2;refine⟨by dsimp only;omega,?_⟩;simp only[mkS,bP,gt,dD,cN,a03];omega
 split
 ·have E:=lH f 3 (nr (au r));have U:(nr (au r)).l=(au r).l:=rfl;rw[U]at E;have⟨O,Z⟩:=h 3 (ap f 3 (nr (au r))).2;refine⟨by dsimp only;omega,?_⟩;simp only[mkS,bP,gt,dD,cN,a03];omega
 split
 ·have E:=lH f 3 (au r);refine⟨by dsimp only;omega,?_⟩;simp only[mkS,bP,gt,dD,cN,a03];omega
 split
 ·have⟨E,T,O⟩:=bk_args f (2-ah ((hdG r).tdiv 16) 1000%2) (au r);refine⟨by dsimp only;omega,?_⟩;simp only[mkS,bP,gt,dD,cN,a03];rw[T];omega
 refine⟨by dsimp only;omega,?_⟩;simp only[mkS,bP,gt,dD,cN,a03];omega
theorem bk_st(f:Int): ∀(d:Nat) (r:RdT),r.l≠ []->StC (cj f d r) r
 |0,r,hl=>by rw[cj];exact bk_sB hl λ_ r=>⟨a07 _,by show cN []+174 *Q r.l<=_;rw[cN];omega⟩
 |d+1,r,hl=>by rw[cj];exact bk_sB hl λm r=>bk_sub (bk_st f d) m r
theorem bk_all(l:List Int):cN (cn l).1+bkE (eF l).1+cN (cW l).1+bkE (ii l).1<=10320:=by
 have h0:=take60 l;have h1:Q (rdG l).l<=60:=h0;obtain⟨a1,a2⟩:RwC (cn l) (au (rdG l)):=bk_sub (bk_st 0 3) 5 _;have⟨E,O⟩:=lH 0 3 (cn l).2;obtain⟨c1,c2⟩:RwC (cW l) (eF l).2:=bk_sub (bk_st 1 2) 3 _;have⟨T,U⟩:=lH 1 3 (cW l).2;have Z:ap 0 3 (cn l).2=eF l:=rfl;have e2:ap 1 3 (cW l).2=ii l:=rfl;rw[Z]at E O;rw[e2]at T U;have h2:Q (au (rdG l)).l<=59:=by
  by_cases hl:(rdG l).l=[]
  ·have:=gnx_le (rdG l);rw[hl]at this;exact a0i this (a0h _)
  have:=gnx_lt hl;omega
 omega
end bg
open bg
namespace da
variable (ex:FuncId) {F:Fz} {H:Heap} {R:List Fp}
theorem jl9{B:Base}{F}{L R:List Fp}{H:Heap}(hs:HS B F H L R){b:Nat}{cs:List Value}{w:Value}(t:TypeId)(i j:Nat)(ha:ff Tryz.prog t=some false)(h:L[j]?=some [(b,.cells cs none false)])(E:cs[i]?=some w): ∀H,JJ B F L R H->LDv Tryz.prog H t (pT b i) w:=jl0 hs t i j ha h E
theorem jn9{B:Base}{F}{L R:List Fp}{H:Heap}(hs:HS B F H L R){b:Nat}{cs l:List Value}(t:TypeId)(i n j:Nat)(ha:ff Tryz.prog t=some true)(T:dL Tryz.prog t=some n)(h:L[j]?=some [(b,.cells cs none false)])(O:Nat.ble (i+n) (Q cs)=true)(E:eB (eK cs i) n=l): ∀H,JJ B F L R H->LDv Tryz.prog H t (pT b i) (.agg ⟨l⟩):=jn0 hs t i n j ha T h O E
structure FdT where
 pp:Bool
 K:Bool
 n:Bool
 G2:Bool
 val:Bool
 y:Bool
 G4:Bool
 G7:Bool
 deriving Inhabited
instance :Rp FdT where
 sz:=8
 rep F cs x:=cs=[.bool x.pp,.bool x.K,.bool x.n,.bool x.G2,.bool x.val,.bool x.y,.bool x.G4,.bool x.G7]
 len:=by rintro F cs x rfl;rfl
 one:=by rintro F cs x rfl;rfl
 ac:=by intro F F' cs x _ h;exact h
mutual
def nmE:ExpT->Prop
 |⟨_,_,nm,_,ks⟩=>Q nm.b<4611686018427387904/\nmEs ks
def nmEs:List ExpT->Prop
 | []=>True
 |e::l=>nmE e/\nmEs l
end
theorem nm_e{e:ExpT}(h:nmE e):Q e.pp.b<4611686018427387904/\nmEs e.I:=by cases e;rwa [nmE]at h
theorem nm_at: ∀{l:List ExpT} {i:Nat},nmEs l->i<Q l->nmE (Y l i n_)
 |e::l,0,h,_=>by rw[nmEs]at h;exact h.1
 |e::l,i+1,h,hi=>by rw[nmEs]at h;exact nm_at (l:=l) h.2 (by simpa using hi)
theorem drp5{α:Type}{l:List α}{i:Nat}{d:α}(h:i<Q l):l.drop i=Y l i d::l.drop (i+1):=by rw[a0O h,a09,a08 h];rfl
theorem dre5{α:Type}{l:List α}{i:Nat}(h:Q l<=i):l.drop i=[]:=a0Z h
theorem m8{α:Type} [Inhabited α]{p:α->Bool}{l:List α}{i:Nat}(h:i<Q l)(c:p (Y l i n_)=true):(l.drop i).all p=(l.drop (i+1)).all p:=by rw[drp5 (d:=n_) h,a0l,c];rfl
theorem lu{α:Type} [Inhabited α]{p:α->Bool}{l:List α}{i:Nat}(h:i<Q l)(c:p (Y l i n_)=false):(l.drop i).all p=false:=by rw[drp5 (d:=n_) h,a0l,c];rfl
def fdK(k:Int):FdT:=if k=1 then⟨true,false,false,false,true,false,false,false⟩ else if k=2 then⟨true,false,false,true,true,false,false,false⟩ else if k=3 then⟨false,false,false,false,true,false,true,true⟩ else if k=4 then⟨false,false,false,false,true,false,true,false⟩ else if k=5 then⟨false,false,false,false,true,false,false,false⟩ else if k=6 then⟨true,true,false,false,false,true,false,false⟩ else if k=7 then⟨false,false,true,false,false,false,false,false⟩ else⟨false,false,false,false,false,false,false,false⟩
def fdO(k:Int):Bool:=decide (1<=k)&&decide (k<=7)
def opK5(k n:Int):Bool:=if((k==20)||(k==21))=true then(n==1) else(((decide ((4:Int)<=k))&&(decide (k<=18)))&&(n==2))
def zrE(x:ExpT):Bool:=((((x.j==0)&&(x.n==0))&&(x.pp.b==[]))&&(x.op==0))&&((Q x.I:Int)==0)
def rsK(s:List UInt8):Bool:=(s==[97,114,114,97,121])||(s==[102,117,110,99])||(s==[118,97,114])||(s==[114,101,116,117,114,110])||(s==[105,102])||(s==[101,108,115,101])||(s==[119,104,105,108,101])||(s==[111,117,116])||(s==[116,114,97,112])
def scK(s:List UInt8):Bool:=((((bU s).2.1 !=0)||((Q (bU s).1:Int) !=1))||((Y (bU s).1 0 n_).j !=1))||((Y (bU s).1 0 n_).D.b !=s)
def vnK(s:List UInt8):Bool:= !scK s&& !rsK s
def nmF(s:List UInt8)(w:Bool):Bool:=if w=true then vnK s else(s==[])
def wxE(x:ExpT):Bool:=
 if x.j=1 then((x.pp.b==[])&&(x.op==0))&&((Q x.I:Int)==0)
 else if x.j=5 then(((x.n==0)&&(x.pp.b==[]))&&(x.op==0))&&((Q x.I:Int)==3)
 else if x.j=4 then((x.n==0)&&(x.pp.b==[]))&&opK5 x.op (Q x.I:Int)
 else if x.j=2 then(((x.n==0)&&(x.op==0))&&((Q x.I:Int)==0))&&vnK x.pp.b
 else if x.j=3 then(((x.n==0)&&(x.op==0))&&((Q x.I:Int)==1))&&vnK x.pp.b
 else false
theorem validop_c(k:Int)(n:Int)(H:Heap):kKt ex 122 [k,n] H λv H'=> ∃(o:Bool),H'=H/\v= .bool o/\o=opK5 k n:=by
 refine ay Tryz.func122 V V (aj 1 V (wr 3 [] 4 4 [] [(4,false)] trivial V V λ_=>wr 1 [] 5 10 [] [(10,((k==20)||(k==21)))] trivial V V λ_=>zI 1 2 (λE=>?_) λE=>?_))
 ·refine wr 1 [] 11 12 [4] [(4,(n==1))] trivial V V λ_=>ag ⟨.inr V,_,V,_,V,V,(by unfold opK5;simp_all)⟩
 refine wr 1 [] 13 22 [4] [(4,(((decide ((4:Int)<=k))&&(decide (k<=18)))&&(n==2)))] trivial V V λ_=>ag ⟨.inr V,_,V,_,V,V,(by unfold opK5;simp_all)⟩
theorem validop_c_q(k:Int)(n:Int)(H:Heap):kKt ex 122 [k,n] H λv H'=>v=(.bool (opK5 k n))/\H'=H:=
 cq (validop_c ex k n H) (by rintro _ _ ⟨_,rfl,rfl,rfl⟩;exact⟨V,V⟩)
theorem iszero5_c{O T}(x:ExpT)(hs:Hb H F H [] R)(U:in64 x.j)(Z:in64 x.n)(al:in64 x.op)(an:Sr F O x.I T):kKt ex 137 [(aG [x.j,x.n,(tX x.pp.b),x.op,(S_ O x.I T)])] H λv H'=> ∃(o:Bool),∃F',F.le F'/\Hb H F' H' [] R/\v= .bool o/\o=zrE x:=by refine ay Tryz.func137 V V (aj 1 V (ab (bd (aW hs V V) V V ?_)));rintro _ H2 _ ⟨b1,rfl,E,_⟩;refine za _ (ai 2 V (bQ 1 2 26 [] [(2,(((((x.j==0)&&(x.n==0))&&(x.pp.b==([]:List UInt8)))&&(x.op==0))&&((Q x.I:Int)==0)))] (Hr_ 1 0 (dj 5 (λ_=>(ql 2 1 (h_ E V) V V)) (dj 10 (λ_=>(ql 9 2 (h_ E V) V V)) (dj 15 (λ_=>(ql 3 3 (h_ E V) V V)) (dj 20 (λ_=>(ql 44 4 (h_ E V) V V)) Hn_))))) E V V λ_=>ag ⟨.inr V,_,V,_,_,fR,(HS.G3 E),V,k_⟩))
theorem a_1{p:Prop}(h:p:=by(unfold vnK;simp_all[scK,rsK];done)):p:=h
theorem iH(s:List UInt8)(hs:Hb H F H [] R)(hl:Q s<4611686018427387904):kKt ex 90 [(tX s)] H λv H'=> ∃(o:Bool),∃F',F.le F'/\Hb H F' H' [] R/\v= .bool o/\o=vnK s:=by
 refine ay Tryz.func90 V V (aj 1 V (wr 2 [] 2 2 [] [(2,false)] trivial V V λ_=>ab (zm _ (zc (l1.scan_c ex s (HS.call hs) M) ?_))));rintro _ H2 ⟨a6,a7,l2,p2,e2,F2,O,a4,rfl,a3,b0,b1,rfl,rfl⟩;replace a4:=HS.G8 hs V a4;refine cu 3 2 8 9 [5] [(8,(sL a6 _ a7)),(9,(aG [_,_]))] Hn_ V V λ_=>zn a4 V λb4 H5 b2=>sgo 2 6 1 0 [3] [(3,(sL a6 _ a7))] (Hr_ 7 1 Hn_) b2 V V λb7 H6 E=>ai 3 V ?_
 have⟨b6,a5⟩:=Sv.Gg (OS.sv a3 E (i:=0) V);have⟨b3,b5⟩:=Token.fx (a5 0);refine bQ 1 10 32 [] [(32,(((((ErrT.mk _ _).L !=0)||((Q ((bU s).1):Int) !=1))||((Y ((bU s).1) 0 _).j !=1))||((Y ((bU s).1) 0 _).D.b !=s)))] (Hr_ 1 1 (Ha_ (λ(g1:_)=>(Sv.ix (OS.sv a3 E (i:=0) V) e_ (by(try simp only[BS]at g1);(first|omega|(dsimp only;omega))))) (dj 12 (λg1=>(ql 3 0 (Token.vw (a5 0) (by(try simp only[BS]at g1);(first|omega|(dsimp only;omega)))) V V)) (Ha_ (λ(g1:_)=>(Sv.ix (OS.sv a3 E (i:=0) V) e_ (by(try simp only[BS]at g1);(first|omega|(dsimp only;omega))))) (dj 19 (λg1=>(ql 9 1 (Token.vw (a5 0) (by(try simp only[BS]at g1);(first|omega|(dsimp only;omega)))) V V)) Hn_))))) E V V λ_=>zI 1 3 (λa8=>?_) λa8=>?_
 ·refine wr 1 [] 2 2 [] [(2,false)] trivial V V λ_=>ag ⟨.inr V,_,V,_,_,(O),(HS.G3 E),V,(by(unfold vnK scK rsK;grind))⟩
 refine wr 4 [] 33 33 [] [(33,(tX s))] trivial V V λ_=>wr 1 [] 34 35 [] [(34,(s==([97,114,114,97,121]:List UInt8)))] trivial V V λ_=>zi 1 1 (λT=>?_) λT=>?_
 ·have a9:=T;try simp only[BS]at a9
  refine bx 1 V T V V (wr 1 [] 2 2 [] [(2,false)] trivial V V λ_=>ag ⟨.inr V,_,V,_,_,(O),(HS.G3 E),V,a_1⟩)
 refine wr 1 [] 34 36 [] [(34,(s==([102,117,110,99]:List UInt8)))] trivial V V λ_=>zi 1 1 (λU=>?_) λU=>?_
 ·have ba:=U;try simp only[BS]at ba
  refine bx 1 V U V V (wr 1 [] 2 2 [] [(2,false)] trivial V V λ_=>ag ⟨.inr V,_,V,_,_,(O),(HS.G3 E),V,a_1⟩)
 refine wr 1 [] 34 37 [] [(34,(s==([118,97,114]:List UInt8)))] trivial V V λ_=>zi 1 1 (λZ=>?_) λZ=>?_
 ·have bb:=Z;try simp only[BS]at bb
  refine bx 1 V Z V V (wr 1 [] 2 2 [] [(2,false)] trivial V V λ_=>ag ⟨.inr V,_,V,_,_,(O),(HS.G3 E),V,a_1⟩)
 refine wr 1 [] 34 38 [] [(34,(s==([114,101,116,117,114,110]:List UInt8)))] trivial V V λ_=>zi 1 1 (λal=>?_) λal=>?_
 ·have bf:=al;try simp only[BS]at bf
  refine bx 1 V al V V (wr 1 [] 2 2 [] [(2,false)] trivial V V λ_=>ag ⟨.inr V,_,V,_,_,(O),(HS.G3 E),V,a_1⟩)
 refine wr 1 [] 34 39 [] [(34,(s==([105,102]:List UInt8)))] trivial V V λ_=>zi 1 1 (λan=>?_) λan=>?_
 ·have bl:=an;try simp only[BS]at bl
  refine bx 1 V an V V (wr 1 [] 2 2 [] [(2,false)] trivial V V λ_=>ag ⟨.inr V,_,V,_,_,(O),(HS.G3 E),V,a_1⟩)
 refine wr 1 [] 34 40 [] [(34,(s==([101,108,115,101]:List UInt8)))] trivial V V λ_=>zi 1 1 (λax=>?_) λax=>?_
 ·have bn:=ax;try simp only[BS]at bn
  refine bx 1 V ax V V (wr 1 [] 2 2 [] [(2,false)] trivial V V λ_=>ag ⟨.inr V,_,V,_,_,(O),(HS.G3 E),V,a_1⟩)
 refine wr 1 [] 34 41 [] [(34,(s==([119,104,105,108,101]:List UInt8)))] trivial V V λ_=>zi 1 1 (λaA=>?_) λaA=>?_
 ·have bt:=aA;try simp only[BS]at bt
  refine bx 1 V aA V V (wr 1 [] 2 2 [] [(2,false)] trivial V V λ_=>ag ⟨.inr V,_,V,_,_,(O),(HS.G3 E),V,a_1⟩)
 refine wr 1 [] 34 42 [] [(34,(s==([111,117,116]:List UInt8)))] trivial V V λ_=>zi 1 0 (λa1=>?_) λa1=>?_
 ·have bw:=a1;try simp only[BS]at bw
  refine bx 1 V a1 V V (wr 1 [] 2 2 [] [(2,false)] trivial V V λ_=>ag ⟨.inr V,_,V,_,_,(O),(HS.G3 E),V,a_1⟩)
 refine wr 1 [] 34 43 [] [(34,(s==([116,114,97,112]:List UInt8)))] trivial V V λ_=>zI 1 3 (λbF=>?_) λbF=>?_
 ·refine wr 1 [] 2 2 [] [(2,false)] trivial V V λ_=>ag ⟨.inr V,_,V,_,_,(O),(HS.G3 E),V,a_1⟩
 refine wr 1 [] 2 2 [] [(2,true)] trivial V V λ_=>ag ⟨.inr V,_,V,_,_,(O),(HS.G3 E),V,a_1⟩
theorem vnames5_c{an ar}(l:List Str)(hs:Hb H F H [] R)(hl:Sr F an l ar)(hv: ∀i,i<Q l->Q (Y l i n_).b<4611686018427387904)(hn:Q l<4611686018427387904):kKt ex 91 [(S_ an l ar)] H λv H'=> ∃(o:Bool),∃F',F.le F'/\Hb H F' H' [] R/\v= .bool o/\o=l.all (λs=>vnK s.b):=by
 refine ay Tryz.func91 V V (aj 1 V (wr 3 [] 2 2 [] [(2,false)] trivial V V λ_=>wr 2 [] 5 7 [] [(5,(sL an _ ar)),(6,(.int _ _)),(7,(.int _ 0))] trivial V V λ_=>ak (λ(mm:Nat) f H'=> ∃(i:Nat),∃F',F.le F'/\HS _ F' H' [] R/\aI f [(5,(sL an _ ar)),(6,(.int _ _)),(7,(.int _ (i:Int)))]/\mm=Q l-i/\(l.all (λs=>vnK s.b)=(l.drop i).all (λs=>vnK s.b))/\(i<=Q l)) _ ⟨0,_,fR,hs,f_,V,k_,M⟩ ?_));rintro a3 f3 H3 ⟨i,F3,O,E,al,rfl,h1,hi⟩ aA;refine aw _ al (λ_=>?_);clear al;have hl:=hl.ac O;refine aj 1 V (wr 2 [] 8 8 [] [(8,(decide ((i:Int)<(Q l:Int))))] trivial V V λ_=>zd 4 5 (λc5=>?_) λc5=>?_)
 ·have⟨a2,ax⟩:=Sv.Gg (SR.sv hl E);refine wrp 2 9 10 [4] [(4,(tX (Y l i _).b))] (Ha_ (Sv.ix (SR.sv hl E)) (Hl_ 1 (ql 9 0 (vS (ax i)) V V) Hn_)) V V λ_=>ab (zm _ (zc (iH ex _ (HS.call E) (hv i M)) ?_))
  rintro _ H9 ⟨o9,F9,Z,T,rfl,rfl⟩;replace T:=HS.G8 E V T;refine wro 1 2 [] 13 13 [] [(13,(!(vnK (Y l i _).b)))] trivial V V λ_=>ai 1 V (zI 1 2 (λU=>?_) λU=>?_)
  ·have a4:=lu (p:=λs:Str=>vnK s.b) (l:=l) (i:=i) M (by simpa using U);refine wr 1 [] 2 2 [] [(2,false)] trivial V V λ_=>ag ⟨.inr V,_,V,_,_,(fT (O) Z),(HS.G3 T),V,(h1.trans a4).symm⟩
  have a5:=m8 (p:=λs:Str=>vnK s.b) (l:=l) (i:=i) M (by simpa using U);refine wr 1 [] 7 7 [14] [(7,(.int _ _))] (vA (vi) trivial) V V λ_=>?_
  refine aA _ _ _ ?_ ⟨i+1,_,(fT (O) Z),T,f_,V,(h1.trans a5),M⟩;omega
 refine wr 1 [] 2 2 [] [(2,true)] trivial V V λ_=>ag ⟨.inr V,_,V,_,_,(O),(HS.G3 E),V,(h1.trans (by rw[dre5 M];rfl)).symm⟩
theorem a_4{p:Prop}(h:p:=by unfold wxE;simp_all):p:=h
theorem wfexpr5_c{O T}(x:ExpT)(d:Int)(hs:Hb H F H [] R)(a8:in64 x.j)(a9:in64 x.n)(ba:in64 x.op)(bb:Sr F O x.I T)(hx:nmE x):kKt ex 93 [(aG [x.j,x.n,(tX x.pp.b),x.op,(S_ O x.I T)]),d] H λv H'=> ∃(o:Bool),∃F',F.le F'/\Hb H F' H' [] R/\v= .bool o/\o=wxE x:=by
 have⟨U,bw⟩:=nm_e hx;refine ay Tryz.func93 V V (aj 1 V (ab (bd (aW hs V V) V V ?_)));rintro _ H2 _ ⟨b1,rfl,E,_⟩;refine za (.bool false) (ai 2 V (wr 3 [] 1 0 [5] [(5,(.int _ 0))] trivial V V λ_=>bQ 3 6 7 [] [(7,(.int _ _))] (Hr_ 1 0 Hn_) E V V λ_=>wr 1 [] 8 9 [] [(8,(x.j==1))] trivial V V λ_=>zI 1 1 (λc6=>?_) λc6=>?_))
 ·refine bQ 1 10 23 [4] [(4,(((x.pp.b==([]:List UInt8))&&(x.op==0))&&((Q x.I:Int)==0)))] (Hr_ 1 0 (dj 5 (λ_=>(ql 3 3 (h_ E V) V V)) (dj 10 (λ_=>(ql 44 4 (h_ E V) V V)) Hn_))) E V V λ_=>ag ⟨.inr V,_,V,_,_,fR,(HS.G3 E),V,a_4⟩
 refine wr 1 [] 24 25 [] [(24,(x.j==2))] trivial V V λ_=>zI 3 1 (λc9=>?_) λc9=>?_
 ·refine sj 1 67 86 [4] [(4,((((x.n==0)&&(x.op==0))&&((Q x.I:Int)==0))&&vnK x.pp.b))] (Hr_ 1 0 (dx 5 (λ_=>(jl9 E 3 3 0 V V V)) (dx 10 (λ_=>(jl9 E 44 4 0 V V V)) (dx 17 (λ_=>(jl9 E 9 2 0 V V V)) (hP 18 (λ_=>(jc E λ_ _ _ q=>iH ex _ q (U))) Hn_))))) E V V λa6 bn bf Z an=>?_
  refine ag ⟨.inr V,_,V,_,_,(Z),(HS.G3 an),V,a_4⟩
 refine wr 1 [] 26 27 [] [(26,(x.j==3))] trivial V V λ_=>zI 0 1 (λaA=>?_) λaA=>?_
 ·refine wr 3 [] 1 0 [5] [(5,(.int _ 1))] trivial V V λ_=>sj 1 67 86 [4] [(4,((((x.n==0)&&(x.op==0))&&((Q x.I:Int)==1))&&vnK x.pp.b))] (Hr_ 1 0 (dx 5 (λ_=>(jl9 E 3 3 0 V V V)) (dx 10 (λ_=>(jl9 E 44 4 0 V V V)) (dx 17 (λ_=>(jl9 E 9 2 0 V V V)) (hP 18 (λ_=>(jc E λ_ _ _ q=>iH ex _ q (U))) Hn_))))) E V V λa7 bt bl al ax=>?_
  refine ag ⟨.inr V,_,V,_,_,(al),(HS.G3 ax),V,a_4⟩
 refine wr 1 [] 28 29 [] [(28,(x.j==5))] trivial V V λ_=>zI 1 1 (λa1=>?_) λa1=>?_
 ·refine bQ 1 30 48 [4] [(4,((((x.n==0)&&(x.pp.b==([]:List UInt8)))&&(x.op==0))&&((Q x.I:Int)==3)))] (Hr_ 1 0 (dj 5 (λ_=>(ql 9 2 (h_ E V) V V)) (dj 10 (λ_=>(ql 3 3 (h_ E V) V V)) (dj 15 (λ_=>(ql 44 4 (h_ E V) V V)) Hn_)))) E V V λ_=>ag ⟨.inr V,_,V,_,_,fR,(HS.G3 E),V,a_4⟩
 refine wr 1 [] 49 50 [] [(49,(x.j==4))] trivial V V λ_=>zI 1 1 (λa2=>?_) λa2=>?_
 ·refine bQ 1 51 66 [4] [(4,(((x.n==0)&&(x.pp.b==([]:List UInt8)))&&opK5 _ _))] (Hr_ 1 0 (dj 5 (λ_=>(ql 9 2 (h_ E V) V V)) (dj 10 (λ_=>(ql 3 3 (h_ E V) V V)) (dj 12 (λ_=>(ql 44 4 (h_ E V) V V)) (Hc1_ 14 (λ_=>(validop_c_q ex _ _ H2)) Hn_))))) E V V λ_=>ag ⟨.inr V,_,V,_,_,fR,(HS.G3 E),V,a_4⟩
 refine wr 1 [] 4 4 [] [(4,false)] trivial V V λ_=>ag ⟨.inr V,_,V,_,_,fR,(HS.G3 E),V,a_4⟩
theorem a_2{p:Prop}(h:p:=by(unfold fdK;simp_all;done)):p:=h
theorem a_3{p:Prop}(h:p:=by(unfold fdO;simp_all;done)):p:=h
theorem fields_c(k:Int)(hs:Hb H F H [] R):kKt ex 123 [k] H λv H'=> ∃(w:FdT) (o:Bool),∃F',F.le F'/\Hb H F' H' [] R/\v= .tuple ⟨[.agg ⟨[.bool w.pp,.bool w.K,.bool w.n,.bool w.G2,.bool w.val,.bool w.y,.bool w.G4,.bool w.G7]⟩,.bool o]⟩/\w=fdK k/\o=fdO k:=by
 refine ay Tryz.func123 V V (aj 1 V (ab (zn hs V λb1 H2 E=>za (.bool false) (ai 3 V ?_))));refine wr 3 [] 4 4 [] [(4,(.int _ k))] trivial V V λ_=>wr 1 [] 5 6 [] [(5,(k==1))] trivial V V λ_=>zI 1 1 (λc5=>?_) λc5=>?_
 ·refine sgr 1 3 3 [7] [(3,true)] (Hr_ 1 0 Hn_) E V V λb3 H6 ax=>ag ⟨.inr V,_,(rC V (bV V V (h_ ax V) V) (rT V rN)),(⟨_,_,_,_,_,_,_,_⟩:FdT),_,_,fR,(HS.G3 ax),V,a_2,a_3⟩
 refine wr 1 [] 8 9 [] [(8,(k==2))] trivial V V λ_=>zI 1 1 (λc8=>?_) λc8=>?_
 ·refine sgr 1 3 3 [10] [(3,true)] (Hr_ 1 0 Hn_) E V V λb4 H9 aA=>ag ⟨.inr V,_,(rC V (bV V V (h_ aA V) V) (rT V rN)),(⟨_,_,_,_,_,_,_,_⟩:FdT),_,_,fR,(HS.G3 aA),V,a_2,a_3⟩
 refine wr 1 [] 11 12 [] [(11,(k==3))] trivial V V λ_=>zI 1 1 (λa1=>?_) λa1=>?_
 ·refine sgr 1 3 3 [13] [(3,true)] (Hr_ 1 0 Hn_) E V V λa8 bn O=>ag ⟨.inr V,_,(rC V (bV V V (h_ O V) V) (rT V rN)),(⟨_,_,_,_,_,_,_,_⟩:FdT),_,_,fR,(HS.G3 O),V,a_2,a_3⟩
 refine wr 1 [] 14 15 [] [(14,(k==4))] trivial V V λ_=>zI 1 1 (λa2=>?_) λa2=>?_
 ·refine sgr 1 3 3 [16] [(3,true)] (Hr_ 1 0 Hn_) E V V λa9 bt T=>ag ⟨.inr V,_,(rC V (bV V V (h_ T V) V) (rT V rN)),(⟨_,_,_,_,_,_,_,_⟩:FdT),_,_,fR,(HS.G3 T),V,a_2,a_3⟩
 refine wr 1 [] 17 18 [] [(17,(k==5))] trivial V V λ_=>zI 1 1 (λa3=>?_) λa3=>?_
 ·refine sgr 1 3 3 [19] [(3,true)] (Hr_ 1 0 Hn_) E V V λba bw U=>ag ⟨.inr V,_,(rC V (bV V V (h_ U V) V) (rT V rN)),(⟨_,_,_,_,_,_,_,_⟩:FdT),_,_,fR,(HS.G3 U),V,a_2,a_3⟩
 refine wr 1 [] 20 21 [] [(20,(k==6))] trivial V V λ_=>zI 1 1 (λa4=>?_) λa4=>?_
 ·refine sgr 1 3 3 [22] [(3,true)] (Hr_ 1 0 Hn_) E V V λbb bF Z=>ag ⟨.inr V,_,(rC V (bV V V (h_ Z V) V) (rT V rN)),(⟨_,_,_,_,_,_,_,_⟩:FdT),_,_,fR,(HS.G3 Z),V,a_2,a_3⟩
 refine wr 1 [] 23 24 [] [(23,(k==7))] trivial V V λ_=>zI 1 3 (λa5=>?_) λa5=>?_
 ·refine sgr 1 3 3 [25] [(3,true)] (Hr_ 1 0 Hn_) E V V λbf b0 al=>ag ⟨.inr V,_,(rC V (bV V V (h_ al V) V) (rT V rN)),(⟨_,_,_,_,_,_,_,_⟩:FdT),_,_,fR,(HS.G3 al),V,a_2,a_3⟩
 refine sgr 1 3 3 [26] [(3,false)] (Hr_ 1 0 Hn_) E V V λbl b2 an=>ag ⟨.inr V,_,(rC V (bV V V (h_ an V) V) (rT V rN)),(⟨_,_,_,_,_,_,_,_⟩:FdT),_,_,fR,(HS.G3 an),V,a_2,(by(unfold fdO;simp;omega))⟩
theorem namef_c(s:List UInt8)(w:Bool)(hs:Hb H F H [] R)(hl:Q s<4611686018427387904):kKt ex 124 [(tX s),w] H λv H'=> ∃(o:Bool),∃F',F.le F'/\Hb H F' H' [] R/\v= .bool o/\o=nmF s w:=by
 refine ay Tryz.func124 V V (aj 1 V (wr 3 [] 4 4 [] [(4,false)] trivial V V λ_=>wr 1 [] 5 5 [] [(5,w)] trivial V V λ_=>zI 1 2 (λT=>?_) λT=>?_))
 ·refine ab (zm _ (zc (iH ex s (HS.call hs) M) ?_));rintro _ Z ⟨o4,U,O,E,rfl,rfl⟩;replace E:=HS.G8 hs V E;refine za _ (ai 1 V (ag ⟨.inr V,_,V,vnK s,_,(O),(HS.G3 E),V,(by unfold nmF;simp_all)⟩))
 refine wr 1 [] 8 9 [4] [(4,(s==([]:List UInt8)))] trivial V V λ_=>ag ⟨.inr V,_,V,_,_,fR,(HS.G3 hs),V,(by unfold nmF;simp_all)⟩
end da
open da
namespace db
variable (ex:FuncId) {F:Fz} {H:Heap} {R:List Fp}
structure FnV where
 g:FuncId
 Z:List Value
 cp:List Value
abbrev FnV.v(f:FnV):Value:= .func (.func f.g) ⟨f.Z⟩ ⟨f.cp⟩
mutual
def nE5:ExpT->Nat
 |⟨_,_,_,_,ks⟩=>1+nEs5 ks
def nEs5:List ExpT->Nat
 | []=>0
 |e::l=>nE5 e+1+nEs5 l
end
theorem nde5(e:ExpT):nE5 e=1+nEs5 e.I:=by cases e;rw[nE5]
theorem ndl5: ∀l:List ExpT,Q l<=nEs5 l
 | []=>a0h _
 |e::l=>by have:=ndl5 l;rw[nEs5,a02];omega
theorem nda5: ∀{l:List ExpT} {i:Nat},i<Q l->nE5 (Y l i n_)<nEs5 l
 |e::l,0,_=>by rw[nEs5];show nE5 e<_;omega
 |e::l,i+1,h=>by have:=nda5 (l:=l) (i:=i) (by simpa using h);rw[nEs5];show nE5 (Y l i n_)<_;omega
def FnE(ex:FuncId)(f:FnV)(m:ExpT->Int->Bool)(E:Fz):Prop:=
 (∃fn,Tryz.prog.funcs[f.g]?=some fn/\(fn.body.isSome&& !(fn.name== "runtime.NumGoroutine"))=true)/\
 ∀(a:Option Addr) (k:Nat) (x:ExpT) (d:Int) (F:Fz) (H:Heap) (R:List Fp),E.le F->HS (.of H []) F H [] R->in64 x.j->in64 x.n->in64 x.op->SR F (sL a (Q x.I) k) x.I->in64 d->nmE x->
  C Tryz.prog 0 (KX ex) f.g (lU f.Z (lU [(.agg ⟨[(iI x.j),(iI x.n),(tX x.pp.b),(iI x.op),(sL a (Q x.I) k)]⟩),(iI d)] f.cp)) H λv H'=> ∃(o:Bool),∃F',F.le F'/\HS (.of H []) F' H' [] R/\v= .bool o/\o=m x d
theorem FnE.ac{ex:FuncId}{f:FnV}{m:ExpT->Int->Bool}{F F'}(h:FnE ex f m F)(T:F.le F'):FnE ex f m F':=⟨h.1,λa k x d E H R O=>h.2 a k x d E H R (fT T O)⟩
instance{ex:FuncId}{f:FnV}{m:ExpT->Int->Bool}{F F':Fz}:Mo F F' (FnE ex f m F) (FnE ex f m F'):=⟨λh x=>x.ac h⟩
theorem FnE.call{ex:FuncId}{f:FnV}{m:ExpT->Int->Bool}{F}(h:FnE ex f m F){a}{k:Nat}(x:ExpT)(d:Int){H:Heap}{R:List Fp}(hs:Hb H F H [] R)(E:in64 x.j)(O:in64 x.n)(T:in64 x.op)(U:Sr F a x.I k)(hd:in64 d)(Z:nmE x):
  C Tryz.prog 0 (KX ex) f.g (lU f.Z (lU [(aG [x.j,x.n,(tX x.pp.b),x.op,(S_ a x.I k)]),d] f.cp)) H λv H'=> ∃(o:Bool),∃F',F.le F'/\Hb H F' H' [] R/\v= .bool o/\o=m x d:=h.2 a k x d F H R (Fz.le_refl F) hs E O T U hd Z
mutual
def wkE(m:ExpT->Int->Bool):ExpT->Int->Bool
 |⟨k,n,nm,op,ks⟩,d=>m ⟨k,n,nm,op,ks⟩ d&&wkEs m ks (d+1)
def wkEs(m:ExpT->Int->Bool):List ExpT->Int->Bool
 | [],_=>true
 |e::l,d=>wkE m e d&&wkEs m l d
end
theorem wk_e{m:ExpT->Int->Bool}(x:ExpT)(d:Int):wkE m x d=(m x d&&wkEs m x.I (d+1)):=by cases x;rw[wkE]
theorem wk_0{m:ExpT->Int->Bool}{x:ExpT}{d:Int}(h:m x d=false):wkE m x d=false:=by rw[wk_e,h];rfl
theorem wk_1{m:ExpT->Int->Bool}{x:ExpT}{d:Int}(h:m x d=true):wkE m x d=wkEs m x.I (d+1):=by rw[wk_e,h];rfl
theorem wk_no{m:ExpT->Int->Bool}{l:List ExpT}{i:Nat}{d:Int}(h:i<Q l)(c:wkE m (Y l i n_) d=false):wkEs m (l.drop i) d=false:=by rw[drp5 (d:=n_) h,wkEs,c];rfl
theorem wk_go{m:ExpT->Int->Bool}{l:List ExpT}{i:Nat}{d:Int}(h:i<Q l)(c:wkE m (Y l i n_) d=true):wkEs m (l.drop i) d=wkEs m (l.drop (i+1)) d:=by rw[drp5 (d:=n_) h,wkEs,c];rfl
theorem wk_end{m:ExpT->Int->Bool}{l:List ExpT}{i:Nat}{d:Int}(h:Q l<=i):wkEs m (l.drop i) d=true:=by rw[dre5 h,wkEs]
mutual
def nmS:StmT->Prop
 |⟨_,nm,to,_,a,v,ar,t,e⟩=>Q nm.b<4611686018427387904/\(Q to.b)<4611686018427387904/\nmE a/\nmE v/\nmEs ar/\nmSs t/\nmSs e
def nmSs:List StmT->Prop
 | []=>True
 |s::l=>nmS s/\nmSs l
end
theorem nm_s{s:StmT}(h:nmS s):Q s.pp.b<4611686018427387904/\(Q s.K.b)<4611686018427387904/\nmE s.G2/\nmE s.val/\nmEs s.y/\nmSs s.G4/\nmSs s.G7:=by cases s;rwa [nmS]at h
theorem nms_at: ∀{l:List StmT} {i:Nat},nmSs l->i<Q l->nmS (Y l i n_)
 |e::l,0,h,_=>by rw[nmSs]at h;exact h.1
 |e::l,i+1,h,hi=>by rw[nmSs]at h;exact nms_at (l:=l) h.2 (by simpa using hi)
mutual
def nS5:StmT->Nat
 |⟨_,_,_,_,a,v,ar,t,e⟩=>1+nE5 a+nE5 v+nEs5 ar+oR t+oR e
def oR:List StmT->Nat
 | []=>0
 |s::l=>nS5 s+1+oR l
end
theorem nd_s(s:StmT):nS5 s=1+nE5 s.G2+nE5 s.val+nEs5 s.y+oR s.G4+oR s.G7:=by cases s;rw[nS5]
theorem nds_len: ∀l:List StmT,Q l<=oR l
 | []=>a0h _
 |e::l=>by have:=nds_len l;rw[oR,a02];omega
theorem nds_at: ∀{l:List StmT} {i:Nat},i<Q l->nS5 (Y l i n_)<oR l
 |e::l,0,_=>by rw[oR];show nS5 e<_;omega
 |e::l,i+1,h=>by have:=nds_at (l:=l) (i:=i) (by simpa using h);rw[oR];show nS5 (Y l i n_)<_;omega
def FnS{σ:Type}(ex:FuncId)(f:FnV)(m:σ->StmT->Int->σ×Bool)(ps:σ->Fp)(F0:Fz):Prop:=
 (∃fn,Tryz.prog.funcs[f.g]?=some fn/\(fn.body.isSome&& !(fn.name== "runtime.NumGoroutine"))=true)/\
 ∀(U T O E a8:Option Addr) (ar an al Z k8:Nat) (s:StmT) (d:Int) (w:σ) (F:Fz) (H:Heap) (R:List Fp),F0.le F->HS (.of H ((ps w).map Prod.fst)) F H [ps w] R->in64 s.j->in64 s.n->in64 s.G2.j->in64 s.G2.n->in64 s.G2.op->SR F (sL a8 (Q s.G2.I) k8) s.G2.I->in64 s.val.j->in64 s.val.n->in64 s.val.op->SR F (sL E (Q s.val.I) Z) s.val.I->SR F (sL O (Q s.y) al) s.y->SR F (sL T (Q s.G4) an) s.G4->SR F (sL U (Q s.G7) ar) s.G7->in64 d->nmS s->nS5 s<4611686018427387904->
  C Tryz.prog 0 (KX ex) f.g (lU f.Z (lU [(.agg ⟨[(iI s.j),(tX s.pp.b),(tX s.K.b),(iI s.n),(iI s.G2.j),(iI s.G2.n),(tX s.G2.pp.b),(iI s.G2.op),(sL a8 (Q s.G2.I) k8),(iI s.val.j),(iI s.val.n),(tX s.val.pp.b),(iI s.val.op),(sL E (Q s.val.I) Z),(sL O (Q s.y) al),(sL T (Q s.G4) an),(sL U (Q s.G7) ar)]⟩),(iI d)] f.cp)) H λv H'=> ∃(o:Bool) (w':σ),∃F',F.le F'/\HS (.of H ((ps w).map Prod.fst)) F' H' [ps w'] R/\v= .bool o/\w'=(m w s d).1/\o=(m w s d).2
theorem FnS.ac{σ:Type}{ex:FuncId}{f:FnV}{m:σ->StmT->Int->σ×Bool}{ps:σ->Fp}{F F'}(h:FnS ex f m ps F)(U:F.le F'):FnS ex f m ps F':=⟨h.1,λa b c d e f g T i j k l m E H R O=>h.2 a b c d e f g T i j k l m E H R (fT U O)⟩
instance{σ:Type}{ex:FuncId}{f:FnV}{m:σ->StmT->Int->σ×Bool}{ps:σ->Fp}{F F':Fz}:Mo F F' (FnS ex f m ps F) (FnS ex f m ps F'):=⟨λh x=>x.ac h⟩
theorem FnS.call{σ:Type}{ex:FuncId}{f:FnV}{m:σ->StmT->Int->σ×Bool}{ps:σ->Fp}{F}(h:FnS ex f m ps F){U T O E a8}{ax an al Z k8:Nat}(s:StmT)(d:Int)(w:σ){H:Heap}{R:List Fp}(hs:HS (.of H ((ps w).map Prod.fst)) F H [ps w] R)(h0:in64 s.j)(h1:in64 s.n)(h2:in64 s.G2.j)(h3:in64 s.G2.n)(h4:in64 s.G2.op)(h5:Sr F a8 s.G2.I k8)(h6:in64 s.val.j)(h7:in64 s.val.n)(h8:in64 s.val.op)(h9:Sr F E s.val.I Z)(g0:Sr F O s.y al)(g1:Sr F T s.G4 an)(g2:Sr F U s.G7 ax)(hd:in64 d)(hx:nmS s)(hn:nS5 s<4611686018427387904):
  C Tryz.prog 0 (KX ex) f.g (lU f.Z (lU [(aG [s.j,(tX s.pp.b),(tX s.K.b),s.n,s.G2.j,s.G2.n,(tX s.G2.pp.b),s.G2.op,(S_ a8 s.G2.I k8),s.val.j,s.val.n,(tX s.val.pp.b),s.val.op,(S_ E s.val.I Z),(S_ O s.y al),(S_ T s.G4 an),(S_ U s.G7 ax)]),d] f.cp)) H λv H'=> ∃(o:Bool) (w':σ),∃F',F.le F'/\HS (.of H ((ps w).map Prod.fst)) F' H' [ps w'] R/\v= .bool o/\w'=(m w s d).1/\o=(m w s d).2:=h.2 U T O E a8 ax an al Z k8 s d w F H R (Fz.le_refl F) hs h0 h1 h2 h3 h4 h5 h6 h7 h8 h9 g0 g1 g2 hd hx hn
section
variable {σ:Type} (m:σ->StmT->Int->σ×Bool)
mutual
def wsS:StmT->σ->Int->σ×Bool
 |⟨k,nm,to,n,a,v,ar,t,e⟩,w,d=>match m w ⟨k,nm,to,n,a,v,ar,t,e⟩ d with
  |(w1,false)=>(w1,false)
  |(w1,true)=>match wsL t w1 (d+1) with
   |(w2,false)=>(w2,false)
   |(w2,true)=>wsL e w2 (d+1)
def wsL:List StmT->σ->Int->σ×Bool
 | [],w,_=>(w,true)
 |s::l,w,d=>match wsS s w d with
  |(w1,false)=>(w1,false)
  |(w1,true)=>wsL l w1 d
end
end
theorem ws_s{σ:Type}{m:σ->StmT->Int->σ×Bool}(s:StmT)(w:σ)(d:Int):wsS m s w d=match m w s d with
  |(w1,false)=>(w1,false)
  |(w1,true)=>match wsL m s.G4 w1 (d+1) with
   |(E,false)=>(E,false)
   |(E,true)=>wsL m s.G7 E (d+1):=by cases s;rw[wsS]
section
variable {σ:Type} {m:σ->StmT->Int->σ×Bool} {l:List StmT} {i:Nat} {w:σ} {d:Int}
theorem ws_l(h:i<Q l):wsL m (l.drop i) w d=match wsS m (Y l i n_) w d with
  |(w1,false)=>(w1,false)
  |(w1,true)=>wsL m (l.drop (i+1)) w1 d:=by rw[drp5 (d:=n_) h,wsL]
theorem ws_1(h:i<Q l)(c:(m w (Y l i n_) d).2=false):wsL m (l.drop i) w d=((m w (Y l i n_) d).1,false):=by rw[ws_l h,ws_s];rcases e:m w (Y l i n_) d with⟨a,b⟩;rw[e]at c;subst c;rfl
theorem ws_2(h:i<Q l)(c:(m w (Y l i n_) d).2=true)(c2:(wsL m (Y l i n_).G4 (m w (Y l i n_) d).1 (d+1)).2=false):wsL m (l.drop i) w d=((wsL m (Y l i n_).G4 (m w (Y l i n_) d).1 (d+1)).1,false):=by rw[ws_l h,ws_s];rcases e:m w (Y l i n_) d with⟨a,b⟩;rw[e]at c c2;subst c;dsimp only at c2⊢;rcases E:wsL m (Y l i n_).G4 a (d+1) with⟨O,T⟩;rw[E]at c2;subst c2;rfl
theorem ws_3(h:i<Q l)(c:(m w (Y l i n_) d).2=true)(c2:(wsL m (Y l i n_).G4 (m w (Y l i n_) d).1 (d+1)).2=true)(E:(wsL m (Y l i n_).G7 (wsL m (Y l i n_).G4 (m w (Y l i n_) d).1 (d+1)).1 (d+1)).2=false):wsL m (l.drop i) w d=((wsL m (Y l i n_).G7 (wsL m (Y l i n_).G4 (m w (Y l i n_) d).1 (d+1)).1 (d+1)).1,false):=by rw[ws_l h,ws_s];rcases e:m w (Y l i n_) d with⟨a,b⟩;rw[e]at c c2 E;subst c;dsimp only at c2 E⊢;rcases T:wsL m (Y l i n_).G4 a (d+1) with⟨O,b2⟩;rw[T]at c2 E;subst c2;dsimp only at E⊢;rcases U:wsL m (Y l i n_).G7 O (d+1) with⟨Z,b3⟩;rw[U]at E;subst E;rfl
theorem ws_4(h:i<Q l)(c:(m w (Y l i n_) d).2=true)(c2:(wsL m (Y l i n_).G4 (m w (Y l i n_) d).1 (d+1)).2=true)(E:(wsL m (Y l i n_).G7 (wsL m (Y l i n_).G4 (m w (Y l i n_) d).1 (d+1)).1 (d+1)).2=true):wsL m (l.drop i) w d=wsL m (l.drop (i+1)) (wsL m (Y l i n_).G7 (wsL m (Y l i n_).G4 (m w (Y l i n_) d).1 (d+1)).1 (d+1)).1 d:=by rw[ws_l h,ws_s];rcases e:m w (Y l i n_) d with⟨a,b⟩;rw[e]at c c2 E;subst c;dsimp only at c2 E⊢;rcases T:wsL m (Y l i n_).G4 a (d+1) with⟨O,b2⟩;rw[T]at c2 E;subst c2;dsimp only at E⊢;rcases U:wsL m (Y l i n_).G7 O (d+1) with⟨Z,b3⟩;rw[U]at E;subst E;rfl
theorem ws_e(h:Q l<=i):wsL m (l.drop i) w d=(w,true):=by rw[dre5 h,wsL]
end
theorem ni: ∀(fuel:Nat) {al} {ax:Nat} (x:ExpT) (d:Int) (fu:FnV) (m:ExpT->Int->Bool) {F} {H:Heap} {R:List Fp} (hs:Hb H F H [] R) (bf:in64 x.j) (bl:in64 x.n) (bn:in64 x.op) (E:Sr F al x.I ax) (ar:FnE ex fu m F) (hx:nmE x) (hd:0<=d/\d+(nE5 x:Int)<4611686018427387904),nE5 x<fuel->kKt ex 92 [(aG [x.j,x.n,(tX x.pp.b),x.op,(S_ al x.I ax)]),d,fu.v] H λv H'=> ∃(o:Bool),∃F',F.le F'/\Hb H F' H' [] R/\v= .bool o/\o=wkE m x d:=by
 intro fuel;induction fuel with
 |zero=>intros;omega
 |succ fuel ih=>
 intro al ax x d fu m F H R hs bf bl bn E ar hx hd dn;have⟨_,a9,ba⟩:=ar.1;have⟨c5,bF⟩:=nm_e hx;have c3:=nde5 x;have c4:=ndl5 x.I;refine ay Tryz.func92 V V (aj 1 V (ab (bd (aW hs V V) V V ?_)));rintro _ H2 _ ⟨b1,rfl,a3,_⟩;refine za (.bool false) (ai 3 V (ab (cS 3 0 9 11 [] [(9,fu.v),(10,(aG [_,_,_,_,_])),(11,(.int _ d))] (Hr_ 1 0 Hn_) a3 V V λ_=>lW (ap_callc V a9 ba V) V V (ar.call x d (HS.call a3) M M M E M X) ?_)));rintro _ H4 ⟨o4,F4,T,Z,rfl,rfl⟩;replace Z:=HS.G8 a3 V Z;have⟨ar,E⟩:=M2 T ar E;refine cu 1 4 13 13 [] [(13,(!(m x d)))] Hn_ V V λ_=>ai 1 V (zI 1 3 (λc6=>?_) λc6=>?_)
 ·have a8:=c6;refine wr 1 [] 6 6 [] [(6,false)] trivial V V λ_=>ag ⟨.inr V,_,V,_,_,(T),(HS.G3 Z),V,(wk_0 a8).symm⟩
 have b4:=c6;refine bQ 2 14 17 [] [(15,(sL _ _ _)),(16,(.int _ _)),(17,(.int _ 0))] (Hr_ 1 0 Hn_) Z V V λ_=>ak (λ(mm:Nat) f H'=> ∃(i:Nat),∃F',F4.le F'/\HS _ F' H' [[(b1,.cells [_,_,_,_,_] _ _)]] R/\aI f [(1,(.int _ d)),(2,fu.v),(15,(sL _ _ _)),(16,(.int _ _)),(17,(.int _ (i:Int)))]/\mm=Q x.I-i/\(wkE m x d=wkEs m (x.I.drop i) _)/\(i<=Q x.I)) _ ⟨0,_,fR,Z,f_,V,(wk_1 b4),M⟩ ?_
 rintro cL f9 H9 ⟨i,F9,U,aA,a6,rfl,h1,hi⟩ bw;refine aw _ a6 (λ_=>?_);clear a6;have⟨ar,E⟩:=M2 U ar E;refine aj 1 V (wr 2 [] 18 18 [] [(18,(decide ((i:Int)<(Q x.I:Int))))] trivial V V λ_=>zd 4 5 (λbt=>?_) λbt=>?_)
 ·have qa:=nda5 (l:=x.I) (i:=i) M;refine ab ?_;have⟨b6,a4⟩:=Sv.Gg (SR.sv E aA);have⟨b0,b2,b3,a5⟩:=ExpT.fx (a4 i);refine cu 2 0 19 20 [] [(20,(aG [_,_,_,_,_]))] (Ha_ (Sv.ix (SR.sv E aA)) (Hl_ 1 (qn 46 0 5 (ExpT.vw (a4 i)) V V V V) Hn_)) V V λ_=>zn aA V λco b9 bb=>sgo 1 3 1 0 [] [] (Hr_ 3 1 Hn_) bb V V λb7 ch an=>ai 2 V (ab (cS 4 0 21 24 [] [(21,(aG [_,_,_,_,_])),(23,(.int _ _)),(24,fu.v)] (Hr_ 0 1 (Ha_ (vi) Hn_)) an V V λ_=>?_))
  refine zc (ih _ (d+1) fu m (HS.call an) M M M a5 ar (nm_at bF M) M M) ?_;rintro _ ci ⟨c0,b8,a2,O,rfl,rfl⟩;replace O:=HS.G8 an V O;refine cu 1 5 26 26 [] [(26,(!(wkE m _ _)))] Hn_ V V λ_=>ai 1 V (zI 1 2 (λa1=>?_) λa1=>?_)
  ·have a8:=wk_no (l:=x.I) (i:=i) M (by simpa using a1);refine wr 1 [] 6 6 [] [(6,false)] trivial V V λ_=>ag ⟨.inr V,_,V,_,_,(fT (fT (T) U) a2),(HS.G3 O),V,(h1.trans a8).symm⟩
  have b4:=wk_go (l:=x.I) (i:=i) M (by simpa using a1);refine wr 1 [] 17 17 [27] [(17,(.int _ _))] (vA (vi) trivial) V V λ_=>?_
  refine bw _ _ _ ?_ ⟨i+1,_,(fT (U) a2),(HS.sub O (a06 _ _)),f_,V,(h1.trans b4),M⟩;omega
 refine wr 1 [] 6 6 [] [(6,true)] trivial V V λ_=>ag ⟨.inr V,_,V,_,_,(fT (T) U),(HS.G3 aA),V,(h1.trans (wk_end M)).symm⟩
theorem eE{E O}(x:ExpT)(d:Int)(fu:FnV)(m:ExpT->Int->Bool)(hs:Hb H F H [] R)(T:in64 x.j)(U:in64 x.n)(Z:in64 x.op)(al:Sr F E x.I O)(ar:FnE ex fu m F)(hx:nmE x)(hd:0<=d/\d+(nE5 x:Int)<4611686018427387904):kKt ex 92 [(aG [x.j,x.n,(tX x.pp.b),x.op,(S_ E x.I O)]),d,fu.v] H λv H'=> ∃(o:Bool),∃F',F.le F'/\Hb H F' H' [] R/\v= .bool o/\o=wkE m x d:=
 ni ex (nE5 x+1) x d fu m hs T U Z al ar hx hd (a0y _)
theorem lZ: ∀(fuel:Nat) {bF} {b4:Nat} (l:List StmT) (d:Int) {σ:Type} (fu:FnV) (m:σ->StmT->Int->σ×Bool) {ps:σ->Fp} (w:σ) {F} {H:Heap} {R:List Fp} (hs:HS (.of H ((ps w).map Prod.fst)) F H [(ps w)] R) (hl:Sr F bF l b4) (ar:FnS ex fu m ps F) (hx:nmSs l) (hd:0<=d/\d+(oR l:Int)<4611686018427387904),oR l<fuel->kKt ex 86 [(S_ bF l b4),d,fu.v] H λv H'=> ∃(o:Bool) (w':σ),∃F',F.le F'/\HS (.of H ((ps w).map Prod.fst)) F' H' [(ps w')] R/\v= .bool o/\w'=(wsL m l w d).1/\o=(wsL m l w d).2:=by
 intro fuel;induction fuel with
 |zero=>intros;omega
 |succ fuel ih=>
 intro bF b4 l d σ fu m ps w F H R hs hl ar hx hd ez;have⟨_,bl,bn⟩:=ar.1;have d6:=nds_len l;refine ay Tryz.func86 V V (aj 1 V (wr 3 [] 6 6 [] [(6,false)] trivial V V λ_=>wr 2 [] 9 11 [] [(9,(sL bF _ b4)),(10,(.int _ _)),(11,(.int _ 0))] trivial V V λ_=>ak (λ(mm:Nat) f H'=> ∃(i:Nat) (a3:σ),∃F',F.le F'/\HS _ F' H' [(ps a3)] R/\aI f [(1,(.int _ d)),(2,fu.v),(9,(sL bF _ b4)),(10,(.int _ _)),(11,(.int _ (i:Int)))]/\mm=Q l-i/\(wsL m l w d=wsL m (l.drop i) a3 d)/\(i<=Q l)) _ ⟨0,w,_,fR,hs,f_,V,k_,M⟩ ?_));rintro d2 f3 H3 ⟨i,a3,F3,aA,a7,bb,rfl,h1,hi⟩ b1;refine aw _ bb (λ_=>?_);clear bb;have⟨ar,hl⟩:=M2 aA ar hl;refine aj 1 V (wr 2 [] 12 12 [] [(12,(decide ((i:Int)<(Q l:Int))))] trivial V V λ_=>zd 4 5 (λc5=>?_) λc5=>?_)
 ·have qa:=nds_at (l:=l) (i:=i) M;have qs:=nd_s (Y l i n_);have et:=nms_at hx (i:=i) M;have⟨_,_,_,_,_,qt,qe⟩:=nm_s et;refine ab ?_;have⟨d1,bf⟩:=Sv.Gg (SR.sv hl a7);have⟨b5,b6,b7,b8,ch,ci,b2,b3,bw,a9,ba,an,T⟩:=StmT.fx (bf i);refine cu 2 0 13 14 [] [(14,(aG [_,_,_,_,_,_,_,_,_,_,_,_,_,_,_,_,_]))] (Ha_ (Sv.ix (SR.sv hl a7)) (Hl_ 1 (qn 63 0 17 (StmT.vw (bf i)) V V V V) Hn_)) V V λ_=>zn a7 V λb9 c8 bt=>sgo 1 3 1 0 [] [] (Hr_ 3 1 Hn_) bt V V λco c9 a4=>ai 2 V (ab (zm fu.v ?_))
  refine ad (v:=(aG [_,_,_,_,_,_,_,_,_,_,_,_,_,_,_,_,_])) (cm (i:=0) V V V (i_ a4 V) V V V) V V (zm _ (lW (ap_callc V bl bn V) V V (ar.call _ d _ (g_ a4 V) M M M M M bw M M M a9 ba an T M M M) ?_));rintro _ dk ⟨d3,cL,c4,U,Z,rfl,rfl,rfl⟩;replace Z:=a4.bO Z;have⟨ar,an,T⟩:=M3 U ar an T;refine ad (bY V) V V (zm (.bool (!((m _ _ d).2))) (bM V V (λE=>?_) (λE=>?_)))
  ·have a5:=E;try simp only[BS]at a5
   refine ad (v:=(pT b9 15)) (bI V V) V V (aC V E (ad (aU (i:=15) V V (i_ Z V) V V) V V (aC V E (zm (.int _ d) (aC V E ?_)))));refine ad (iC V V (lA M)) V V (aC V E (zm fu.v (aC V E (zc (ih _ (d+1) fu m _ (g_ Z V) an ar M M M) ?_))));rintro _ dn ⟨d4,c0,c6,ax,al,rfl,rfl,rfl⟩;replace al:=Z.bO al;have⟨ar,T⟩:=M2 ax ar T;refine aC V E (ad (bY V) V V (ad (v:=(.bool (!((wsL m _ _ _).2)))) (aH V E V) V V (zm (.bool (!((wsL m _ _ _).2))) (bM V V (λO=>?_) (λO=>?_)))))
   ·have a6:=O;try simp only[BS]at a6
    refine ad (v:=(pT b9 16)) (bI V V) V V (aC V O (ad (aU (i:=16) V V (i_ al V) V V) V V (aC V O (zm (.int _ d) (aC V O ?_)))));refine ad (iC V V (lA M)) V V (aC V O (zm fu.v (aC V O (zc (ih _ (d+1) fu m _ (g_ al V) T ar M M M) ?_))));rintro _ dt ⟨d5,c3,c7,a8,a2,rfl,rfl,rfl⟩;replace a2:=al.bO a2;refine aC V O (ad (bY V) V V (ad (v:=(.bool (!((wsL m _ _ _).2)))) (aH V O V) V V (aB (aj 1 V (zI 1 2 (λb0=>?_) λb0=>?_)))))
    ·refine wr 1 [] 6 6 [] [(6,false)] trivial V V λ_=>ag ⟨.inr V,_,V,_,_,_,(fT (fT (fT (aA) U) ax) a8),(HS.G9 a2),V,(by(rw[h1,ws_3 M X X X];done)),(by(rw[h1,ws_3 M X X X];done))⟩
    refine wr 1 [] 11 11 [38] [(11,(.int _ _))] (vA (vi) trivial) V V λ_=>?_
    refine b1 _ _ _ ?_ ⟨i+1,_,_,(fT (fT (fT (aA) U) ax) a8),(HS.sub a2 (a06 _ _)),f_,V,(by rw[h1,ws_4 M X X X]),M⟩;omega
   have a6:=O;try simp only[BS]at a6
   refine ae V O V (ae V O V (ae V O V (ae V O V (ae V O V (ae V O V ?_)))));refine ad (aq V O V) V V (aB (aj 1 V (bx 1 V V V V (wr 1 [] 6 6 [] [(6,false)] trivial V V λ_=>ag ⟨.inr V,_,V,_,_,_,(fT (fT (aA) U) ax),(HS.G9 al),V,(by(rw[h1,ws_2 M X X];done)),(by(rw[h1,ws_2 M X X];done))⟩))))
  have a5:=E;try simp only[BS]at a5
  refine ae V E V (ae V E V (ae V E V (ae V E V (ae V E V (ae V E V ?_)))));refine ad (v:=(.bool true)) (aq V E V) V V (zm (.bool true) (ae V V V (ae V V V (ae V V V (ae V V V ?_)))));refine ae V V V (ae V V V (ae V V V (ad (v:=(.bool true)) (aq V V V) V V (aB (aj 1 V ?_)))));refine bx 1 V V V V (wr 1 [] 6 6 [] [(6,false)] trivial V V λ_=>ag ⟨.inr V,_,V,_,_,_,(fT (aA) U),(HS.G9 Z),V,(by(rw[h1,ws_1 M X];done)),(by(rw[h1,ws_1 M X];done))⟩)
 refine wr 1 [] 6 6 [] [(6,true)] trivial V V λ_=>ag ⟨.inr V,_,V,_,_,_,(aA),(HS.G9 a7),V,(by(rw[h1,ws_e M];done)),(by(rw[h1,ws_e M];done))⟩
theorem jh{E O}(l:List StmT)(d:Int){σ:Type}(T:FnV)(m:σ->StmT->Int->σ×Bool){ps}(w:σ)(hs:HS (.of H ((ps w).map Prod.fst)) F H [(ps w)] R)(Z:Sr F E l O)(U:FnS ex T m ps F)(hx:nmSs l)(hd:0<=d/\d+(oR l:Int)<4611686018427387904):kKt ex 86 [(S_ E l O),d,T.v] H λv H'=> ∃(o:Bool) (w':σ),∃F',F.le F'/\HS (.of H ((ps w).map Prod.fst)) F' H' [(ps w')] R/\v= .bool o/\w'=(wsL m l w d).1/\o=(wsL m l w d).2:=
 lZ ex (oR l+1) l d T m w hs Z U hx hd (a0y _)
end db
open db
namespace dc
variable (ex:FuncId) {F:Fz} {H:Heap} {R:List Fp}
theorem fne_wf{F}:FnE ex (⟨93,[],[]⟩:FnV) (λx _=>wxE x) F:=
 ⟨⟨_,V,V⟩,λa k x d Z H R _ hs E O T U _ hx=>wfexpr5_c ex x d hs E O T U hx⟩
def wfX(x:ExpT):Bool:=wkE (λx _=>wxE x) x 0
def exF(x:ExpT)(w:Bool):Bool:=if w=true then wfX x else zrE x
def ws1(s:StmT):Bool:=(((!fdO s.j|| !nmF s.pp.b (fdK s.j).pp)|| !nmF s.K.b (fdK s.j).K)|| !exF s.G2 (fdK s.j).G2)|| !exF s.val (fdK s.j).val
def ws2(s:StmT):Bool:=(((((decide (s.n<0))||(decide ((1000000:Int)<s.n)))||((!((fdK s.j).n))&&(s.n !=0)))||((!((fdK s.j).y))&&(decide ((0:Int)<(Q s.y:Int)))))||((!((fdK s.j).G4))&&(decide ((0:Int)<(Q s.G4:Int)))))||((!((fdK s.j).G7))&&(decide ((0:Int)<(Q s.G7:Int))))
def wsK(s:StmT):Bool:= !ws1 s&& !ws2 s&&s.y.all wfX
theorem FnS.pure{ex:FuncId}{f:FnV}{m:StmT->Int->Bool}{F0}(h0: ∃fn,Tryz.prog.funcs[f.g]?=some fn/\(fn.body.isSome&& !(fn.name== "runtime.NumGoroutine"))=true)
  (h: ∀(U T O E a8:Option Addr) (ax an al Z k8:Nat) (s:StmT) (d:Int) (F:Fz) (H:Heap) (R:List Fp),F0.le F->Hb H F H [] R->in64 s.j->in64 s.n->in64 s.G2.j->in64 s.G2.n->in64 s.G2.op->Sr F a8 s.G2.I k8->in64 s.val.j->in64 s.val.n->in64 s.val.op->Sr F E s.val.I Z->Sr F O s.y al->Sr F T s.G4 an->Sr F U s.G7 ax->in64 d->nmS s->nS5 s<4611686018427387904->
  C Tryz.prog 0 (KX ex) f.g (lU f.Z (lU [(aG [s.j,(tX s.pp.b),(tX s.K.b),s.n,s.G2.j,s.G2.n,(tX s.G2.pp.b),s.G2.op,(S_ a8 s.G2.I k8),s.val.j,s.val.n,(tX s.val.pp.b),s.val.op,(S_ E s.val.I Z),(S_ O s.y al),(S_ T s.G4 an),(S_ U s.G7 ax)]),d] f.cp)) H λv H'=> ∃(o:Bool),∃F',F.le F'/\Hb H F' H' [] R/\v= .bool o/\o=m s d):
  FnS ex f (λ(_:Unit) s d=>((),m s d)) (λ_=> []) F0:=
 ⟨h0,λa b c d e a' b' c' d' e' s dd w F H R hF hs g0 g1 g2 g3 g4 g5 g6 g7 g8 g9 k0 k1 k2 k3 k4 k5=>(h a b c d e a' b' c' d' e' s dd F H R hF hs.G3 g0 g1 g2 g3 g4 g5 g6 g7 g8 g9 k0 k1 k2 k3 k4 k5).ac λv H' ⟨o,F',h1,h2,h3,h4⟩=>⟨o,(),F',h1,h2.snoc,h3,V,h4⟩⟩
def FnP(ex:FuncId)(f:FnV)(m:StmT->Int->Bool)(F:Fz):Prop:=FnS ex f (λ(_:Unit) s d=>((),m s d)) (λ_=> []) F
theorem FnP.ac{ex:FuncId}{f:FnV}{m:StmT->Int->Bool}{F F'}(h:FnP ex f m F)(E:F.le F'):FnP ex f m F':=FnS.ac h E
instance{ex:FuncId}{f:FnV}{m:StmT->Int->Bool}{F F':Fz}:Mo F F' (FnP ex f m F) (FnP ex f m F'):=⟨λh x=>x.ac h⟩
def wpL(m:StmT->Int->Bool)(l:List StmT)(d:Int):Bool:=(wsL (λ(_:Unit) s d=>((),m s d)) l () d).2
theorem lY{a}{k:Nat}(l:List StmT)(d:Int)(Z:FnV)(m:StmT->Int->Bool)(hs:Hb H F H [] R)(hl:Sr F a l k)(al:FnP ex Z m F)(hx:nmSs l)(hd:0<=d/\d+(oR l:Int)<4611686018427387904):
  C Tryz.prog 0 (KX ex) 86 [(S_ a l k),d,Z.v] H λv H'=> ∃(o:Bool),∃F',F.le F'/\Hb H F' H' [] R/\v= .bool o/\o=wpL m l d:=
 (jh ex l d Z (λ(_:Unit) s d=>((),m s d)) () (hs:=hs.snoc) hl al hx hd).ac λv H' ⟨o,_,F',E,O,T,_,U⟩=>⟨o,F',E,O.G3,T,U⟩
def NmF(f:FunT):Prop:=Q f.pp.b<4611686018427387904/\(∀i,i<Q f.A->Q (Y f.A i n_).b<4611686018427387904)/\(∀i,i<Q f.B->Q (Y f.B i n_).b<4611686018427387904)/\(Q f.A)<4611686018427387904/\(Q f.B)<4611686018427387904/\nmSs f.G6/\nmE f.val/\oR f.G6<4611686018427387904/\nE5 f.val<4611686018427387904
def NmP(p:PrgT):Prop:=Q p.d<4611686018427387904/\(Q p.U)<4611686018427387904/\(∀i,i<Q p.d->Q (Y p.d i n_).pp.b<4611686018427387904)/\∀i,i<Q p.U->NmF (Y p.U i n_)
def wfF5(f:FunT):Bool:= !((((!vnK f.pp.b|| !f.A.all (λs=>vnK s.b))|| !f.B.all (λs=>vnK s.b))|| !wfX f.val)|| !wpL (λs _=>wsK s) f.G6 0)
def wfPr(p:PrgT):Bool:=p.d.all (λa=>vnK a.pp.b)&&p.U.all wfF5
theorem exprf_c{O al}(x:ExpT)(w:Bool)(hs:Hb H F H [] R)(a1:in64 x.j)(a2:in64 x.n)(a3:in64 x.op)(Z:Sr F O x.I al)(hx:nmE x)(hn:nE5 x<4611686018427387904):kKt ex 125 [(aG [x.j,x.n,(tX x.pp.b),x.op,(S_ O x.I al)]),w] H λv H'=> ∃(o:Bool),∃F',F.le F'/\Hb H F' H' [] R/\v= .bool o/\o=exF x w:=by
 refine ay Tryz.func125 V V (aj 1 V (ab (bd (aW hs V V) V V ?_)));rintro _ H2 _ ⟨b1,rfl,E,_⟩;refine za (.bool false) (ai 3 V (wr 1 [] 5 5 [] [(5,w)] trivial V V λ_=>zI 1 2 (λc4=>?_) λc4=>?_))
 ·refine ab (cS 1 0 6 6 [] [(6,(aG [_,_,_,_,_]))] (Hr_ 0 0 Hn_) E V V λ_=>zc (db.eE ex x (0) _ _ (HS.call E) M M M Z (fne_wf ex) M M) ?_);rintro _ H6 ⟨o6,F6,an,T,rfl,rfl⟩;replace T:=HS.G8 E V T;refine za _ (ai 1 V (ag ⟨.inr V,_,V,wkE (λx _=>wxE x) x (0:Int),_,(an),(HS.G3 T),V,(by unfold exF;simp_all[wfX])⟩))
 refine ab (cS 1 0 8 8 [] [(8,(aG [_,_,_,_,_]))] (Hr_ 0 0 Hn_) E V V λ_=>zc (da.iszero5_c ex x (HS.call E) M M M Z) ?_);rintro _ H8 ⟨o8,F8,ax,U,rfl,rfl⟩;replace U:=HS.G8 E V U;refine za _ (ai 1 V (ag ⟨.inr V,_,V,zrE x,_,(ax),(HS.G3 U),V,(by unfold exF;simp_all[wfX])⟩))
theorem wfstmt5_c{a1 ba aA a9 U Z ax a8 bl bw}(s:StmT)(d:Int)(hs:Hb H F H [] R)(d6:in64 s.j)(d7:in64 s.n)(d8:in64 s.G2.j)(d9:in64 s.G2.n)(ea:in64 s.G2.op)(bt:Sr F bl s.G2.I bw)(ee:in64 s.val.j)(dk:in64 s.val.n)(dn:in64 s.val.op)(a7:Sr F ax s.val.I a8)(T:Sr F U s.y Z)(dt:Sr F aA s.G4 a9)(d1:Sr F a1 s.G7 ba)(hx:nmS s)(hn:nS5 s<4611686018427387904):kKt ex 94 [(aG [s.j,(tX s.pp.b),(tX s.K.b),s.n,s.G2.j,s.G2.n,(tX s.G2.pp.b),s.G2.op,(S_ bl s.G2.I bw),s.val.j,s.val.n,(tX s.val.pp.b),s.val.op,(S_ ax s.val.I a8),(S_ U s.y Z),(S_ aA s.G4 a9),(S_ a1 s.G7 ba)]),d] H λv H'=> ∃(o:Bool),∃F',F.le F'/\Hb H F' H' [] R/\v= .bool o/\o=wsK s:=by
 have⟨fb,fd,fi,fk,c6,fq,fu⟩:=nm_s hx;have f1:=nd_s s;have f2:=ndl5 s.y;refine ay Tryz.func94 V V (aj 1 V (ab (bd (aW hs V V) V V ?_)));rintro _ H2 _ ⟨b1,rfl,b5,_⟩;refine za (.bool false) (ai 2 V (ab (cS 2 0 10 11 [] [(11,(.int _ _))] (Hr_ 1 0 Hn_) b5 V V λ_=>zc (da.fields_c ex _ (HS.call b5)) ?_)));rintro _ H4 ⟨w4,o4,F4,an,b7,rfl,rfl,rfl⟩;replace b7:=HS.G8 b5 V b7;have⟨a7,bt⟩:=M2 an a7 bt;refine cu 3 3 13 14 [9] [(13,(aG [_,_,_,_,_,_,_,_])),(14,(fdO s.j))] Hn_ V V λ_=>zn b7 V λb6 H7 c5=>sgo 2 7 1 0 [6] [(6,(fdO s.j))] (Hr_ 7 1 Hn_) c5 V V λe6 H8 O=>ai 3 V (sj 1 15 48 [] [(48,(((((!(fdO s.j))||(!(nmF _ _)))||(!(nmF _ _)))||(!(exF _ _)))||(!(exF _ _))))] (dx 4 (λ_=>(jl9 O 9 1 0 V V V)) (dx 6 (λ_=>(jl9 O 4 0 1 V V V)) (hP 7 (λg1=>(jc O λ_ _ _ q=>da.namef_c ex _ _ q (by(try simp only[BS]at g1);(first|omega|(dsimp only;omega))))) (dx 12 (λ_=>(jl9 O 9 2 0 V V V)) (dx 14 (λ_=>(jl9 O 4 1 1 V V V)) (hP 15 (λg1=>(jc O λ_ _ _ q=>da.namef_c ex _ _ q (by(try simp only[BS]at g1);(first|omega|(dsimp only;omega))))) (dx 20 (λ_=>(jn9 O 46 4 5 0 V V V V V)) (dx 22 (λ_=>(jl9 O 4 3 1 V V V)) (hP 23 (λg1=>(jc O λ_ _ j q=>exprf_c ex _ _ q (by(try simp only[BS]at g1);(first|omega|(dsimp only;omega))) (by(try simp only[BS]at g1);(first|omega|(dsimp only;omega))) (by(try simp only[BS]at g1);(first|omega|(dsimp only;omega))) (bt.ac j) M M)) (dx 28 (λ_=>(jn9 O 46 9 5 0 V V V V V)) (dx 30 (λ_=>(jl9 O 4 4 1 V V V)) (hP 31 (λg1=>(jc O λ_ _ j q=>exprf_c ex _ _ q (by(try simp only[BS]at g1);(first|omega|(dsimp only;omega))) (by(try simp only[BS]at g1);(first|omega|(dsimp only;omega))) (by(try simp only[BS]at g1);(first|omega|(dsimp only;omega))) (a7.ac j) M M)) Hn_)))))))))))) O V V λe7 H9 F9 bf E=>?_)
 replace T:=(T.ac an).ac bf;refine zi 1 3 (λa2=>?_) λa2=>?_
 ·have c0:=a2;try simp only[BS]at c0
  have bb:ws1 s=true:=a2;refine wT 1 [] 4 4 [] [(4,false)] V λ_=>ag ⟨.inr V,_,V,false,_,(fT (an) bf),(HS.G3 E),V,(by(unfold wsK;rw[bb];rfl))⟩
 have bb:ws1 s=false:=a2;refine bQ 1 49 99 [] [(99,((((((decide (s.n<0))||(decide ((1000000:Int)<s.n)))||((!(fdK s.j).n)&&(s.n !=0)))||((!(fdK s.j).y)&&(decide ((0:Int)<(Q s.y:Int)))))||((!(fdK s.j).G4)&&(decide ((0:Int)<(Q s.G4:Int)))))||((!(fdK s.j).G7)&&(decide ((0:Int)<(Q s.G7:Int))))))] (Hr_ 1 0 (dj 5 (λ_=>(ql 3 3 (h_ E V) V V)) (dj 10 (λ_=>(ql 4 2 (i_ E V) V V)) (Hl2_ 14 (λ_ _=>(ql 3 3 (h_ E V) V V)) (dj 20 (λ_=>(ql 4 5 (i_ E V) V V)) (Hl2_ 24 (λ_ _=>(ql 44 14 (h_ E V) V V)) (dj 31 (λ_=>(ql 4 6 (i_ E V) V V)) (Hl2_ 35 (λ_ _=>(ql 51 15 (h_ E V) V V)) (dj 42 (λ_=>(ql 4 7 (i_ E V) V V)) (Hl2_ 46 (λ_ _=>(ql 51 16 (h_ E V) V V)) Hn_)))))))))) E V V λ_=>zi 1 3 (λa3=>?_) λa3=>?_
 ·have c3:=a3;try simp only[BS]at c3
  have bF:ws2 s=true:=a3;refine wT 1 [] 4 4 [] [(4,false)] V λ_=>ag ⟨.inr V,_,V,false,_,(fT (an) bf),(HS.G3 E),V,(by(unfold wsK;rw[bb,bF];rfl))⟩
 have bF:ws2 s=false:=a3;refine bQ 2 100 103 [] [(101,(S_ U s.y Z)),(102,(Q s.y:Int)),(103,(iI 0))] (Hr_ 1 0 Hn_) E V V λ_=>ak (λ(mm:Nat) f H'=> ∃(i:Nat),∃F',F9.le F'/\Hb H F' H' [(fP b1 [s.j,(tX s.pp.b),(tX s.K.b),s.n,s.G2.j,s.G2.n,(tX s.G2.pp.b),s.G2.op,(S_ bl s.G2.I bw),s.val.j,s.val.n,(tX s.val.pp.b),s.val.op,(S_ ax s.val.I a8),(S_ U s.y Z),(S_ aA s.G4 a9),(S_ a1 s.G7 ba)]),(fP b6 [(.bool (fdK s.j).pp),(.bool (fdK s.j).K),(.bool (fdK s.j).n),(.bool (fdK s.j).G2),(.bool (fdK s.j).val),(.bool (fdK s.j).y),(.bool (fdK s.j).G4),(.bool (fdK s.j).G7)])] R/\aI f [(101,(S_ U s.y Z)),(102,(Q s.y:Int)),(103,(i:Int))]/\mm=Q s.y-i/\(s.y.all wfX=(s.y.drop i).all wfX)/\(i<=Q s.y)) _ ⟨0,_,fR,E,f_,V,k_,M⟩ ?_
 rintro em e5 e0 ⟨i,et,a4,a5,b4,rfl,h1,hi⟩ cL;refine aw _ b4 (λ_=>?_);clear b4;have T:=T.ac a4;refine aj 1 V (wT 2 [] 104 104 [] [(104,(decide ((i:Int)<(Q s.y:Int))))] V λ_=>zd 4 5 (λc4=>?_) λc4=>?_)
 ·have qa:=nda5 (l:=s.y) (i:=i) M;refine ab ?_;have⟨b2,b8⟩:=Sv.Gg (SR.sv T a5);have⟨c7,c8,c9,b9⟩:=ExpT.fx (b8 i);let ch:Value:=(aG [(Y s.y i n_).j,(Y s.y i n_).n,(tX (Y s.y i n_).pp.b),(Y s.y i n_).op,(sL (cA (b2 i) 4) (Q (Y s.y i n_).I) (cK (b2 i) 4))])
  refine cu 2 0 105 106 [] [(106,ch)] (Ha_ (Sv.ix (j:=(i:Int)) (SR.sv T a5)) (Hl_ 1 (qn 46 0 5 (ExpT.vw (b8 i)) V V V V) Hn_)) K_ V λ_=>zn a5 V λe4 e1 co=>sgo 1 3 1 0 [] [] (Hr_ 3 2 Hn_) co V V λd5 e2 bn=>ai 2 V (ab (cS 1 0 107 107 [] [(107,ch)] (Hr_ 0 2 Hn_) bn V V λ_=>?_))
  refine zc (db.eE ex (Y s.y i n_) (0) (⟨93,[],[]⟩:FnV) (λx _=>wxE x) (HS.call bn) M M M b9 (fne_wf ex) (nm_at c6 M) M) ?_;rintro _ e3 ⟨e8,ez,b3,a6,rfl,rfl⟩;replace a6:=HS.G8 bn V a6;refine cu 1 2 109 109 [] [(109,(!(wkE (λx _=>wxE x) (Y s.y i n_) (0:Int))))] Hn_ K_ V λ_=>ai 1 V (zI 1 2 (λb0=>?_) λb0=>?_)
  ·have gs:=lu (p:=wfX) (l:=s.y) (i:=i) M (by simpa[wfX] using b0);refine wT 1 [] 4 4 [] [(4,false)] V λ_=>ag ⟨.inr V,_,V,false,_,(fT (fT (fT (an) bf) a4) b3),(HS.G3 a6),V,(by(unfold wsK;rw[bb,bF,h1,gs];rfl))⟩
  have g3:=m8 (p:=wfX) (l:=s.y) (i:=i) M (by simpa[wfX] using b0);refine wU 1 [] 103 103 [110] [(103,(iI ((i:Int)+1)))] (vi (n:=(i:Int)+1)) V λ_=>?_
  refine cL _ _ _ ?_ ⟨i+1,_,(fT (a4) b3),(HS.sub a6 (a06 _ _)),f_,V,(h1.trans g3),M⟩;omega
 refine wT 1 [] 4 4 [] [(4,true)] V λ_=>ag ⟨.inr V,_,V,true,_,(fT (fT (an) bf) a4),(HS.G3 a5),V,(by(unfold wsK;rw[bb,bF,h1,dre5 M];rfl))⟩
theorem fns_wf{F}:FnP ex (⟨94,[],[]⟩:FnV) (λs _=>wsK s) F:=FnS.pure ⟨_,V,V⟩ λ_ _ _ _ _ _ _ _ _ _ s d _ _ _ _ hs E O T U Z g5 g6 g7 g8 g9 k0 k1 k2 _ k4 k5=>wfstmt5_c ex s d hs E O T U Z g5 g6 g7 g8 g9 k0 k1 k2 k4 k5
theorem wf5_c{a4 bf a3 bb}(p:PrgT)(hs:Hb H F H [] R)(al:Sr F a3 p.d bb)(O:Sr F a4 p.U bf)(hn:NmP p):kKt ex 50 [(aG [(S_ a3 p.d bb),(S_ a4 p.U bf)])] H λv H'=> ∃(o:Bool),∃F',F.le F'/\Hb H F' H' [] R/\v= .bool o/\o=wfPr p:=by
 have⟨fk,fq,co,cL⟩:=hn;refine ay Tryz.func50 V V (aj 1 V (ab (bd (aW hs V V) V V ?_)));rintro _ H2 _ ⟨b1,rfl,b0,_⟩;refine za _ (ai 3 V (bQ 2 7 10 [] [(8,(sL _ _ _)),(9,(.int _ _)),(10,(.int _ 0))] (Hr_ 1 0 Hn_) b0 V V λ_=>ak (λ(mm:Nat) f H'=> ∃(i:Nat),∃F',F.le F'/\HS _ F' H' [[(b1,.cells [_,_] _ _)]] R/\aI f [(1,(pT b1 0)),(8,(sL _ _ _)),(9,(.int _ _)),(10,(.int _ (i:Int)))]/\mm=Q p.d-i/\(p.d.all (λa=>vnK a.pp.b)=(p.d.drop i).all (λa=>vnK a.pp.b))/\(i<=Q p.d)) _ ⟨0,_,fR,b0,f_,V,k_,M⟩ ?_));rintro e1 f4 H4 ⟨i,F4,T,aA,bF,rfl,h1,hi⟩ ci;refine aw _ bF (λ_=>?_);clear bF;have⟨al,O⟩:=M2 T al O;refine aj 1 V (wr 2 [] 11 11 [] [(11,(decide ((i:Int)<(Q p.d:Int))))] trivial V V λ_=>zd 4 6 (λc6=>?_) λc6=>?_)
 ·refine ab ?_;have⟨ez,b2⟩:=Sv.Gg (SR.sv al aA);have c9:=ArrT.fx (b2 i);refine cu 2 0 12 13 [] [(13,(aG [_,_]))] (Ha_ (Sv.ix (SR.sv al aA)) (Hl_ 1 (qn 49 0 2 (ArrT.vw (b2 i)) V V V V) Hn_)) V V λ_=>zn aA V λem d5 b4=>sgo 1 3 1 0 [] [] (Hr_ 3 1 Hn_) b4 V V λdk d6 a2=>ai 2 V (ab (cS 2 0 14 15 [] [(15,(tX (Y p.d i _).pp.b))] (Hr_ 1 1 Hn_) a2 V V λ_=>?_))
  refine zc (da.iH ex _ (HS.call a2) (co i M)) ?_;rintro _ d7 ⟨e2,d2,a6,an,rfl,rfl⟩;replace an:=HS.G8 a2 V an;refine cu 1 3 17 17 [] [(17,(!(vnK (Y p.d i _).pp.b)))] Hn_ V V λ_=>ai 1 V (zI 1 2 (λa5=>?_) λa5=>?_)
  ·have ar:=lu (p:=λa:ArrT=>vnK a.pp.b) (l:=p.d) (i:=i) M (by simpa using a5);refine wr 1 [] 2 2 [] [(2,false)] trivial V V λ_=>ag ⟨.inr V,_,V,_,_,(fT (T) a6),(HS.G3 an),V,(by(unfold wfPr;rw[h1,ar];rfl))⟩
  have b3:=m8 (p:=λa:ArrT=>vnK a.pp.b) (l:=p.d) (i:=i) M (by simpa using a5);refine wr 1 [] 10 10 [18] [(10,(.int _ _))] (vA (vi) trivial) V V λ_=>?_
  refine ci _ _ _ ?_ ⟨i+1,_,(fT (T) a6),(HS.sub an (a06 _ _)),f_,V,(h1.trans b3),M⟩;omega
 have h2:p.d.all (λa=>vnK a.pp.b)=true:=h1.trans (by rw[dre5 M];rfl);refine bQ 2 19 22 [] [(20,(sL _ _ _)),(21,(.int _ _)),(22,(.int _ 0))] (Hr_ 1 0 Hn_) aA V V λ_=>ak (λ(mm:Nat) f H'=> ∃(i:Nat),∃F',F4.le F'/\HS _ F' H' _ R/\aI f [(20,(sL _ _ _)),(21,(.int _ _)),(22,(.int _ (i:Int)))]/\mm=Q p.U-i/\(p.U.all wfF5=(p.U.drop i).all wfF5)/\(i<=Q p.U)) _ ⟨0,_,fR,aA,f_,V,k_,M⟩ ?_
 rintro d1 e0 d8 ⟨i,d3,Z,ax,a8,rfl,g1,hk⟩ b6;refine aw _ a8 (λ_=>?_);clear a8;have O:=O.ac Z;refine aj 1 V (wr 2 [] 23 23 [] [(23,(decide ((i:Int)<(Q p.U:Int))))] trivial V V λ_=>zd 4 5 (λb8=>?_) λb8=>?_)
 ·have⟨e3,e4,e5,e6,e7,e8,fb,fd,fi⟩:=cL i M;refine ab ?_;have⟨c8,ba⟩:=Sv.Gg (SR.sv O ax);have⟨c0,c3,c4,bl,bn,bt,bw⟩:=FunT.fx (ba i);refine cu 2 0 24 25 [] [(25,(aG [_,_,_,_,_,_,_,_,_]))] (Ha_ (Sv.ix (SR.sv O ax)) (Hl_ 1 (qn 53 0 9 (FunT.vw (ba i)) V V V V) Hn_)) V V λ_=>zn ax V λet d9 b5=>sgo 1 3 1 0 [] [] (Hr_ 3 1 Hn_) b5 V V λdn ea E=>ai 2 V (sj 1 26 53 [] [(53,(((((!(vnK (Y p.U i _).pp.b))||(!((Y p.U i _).A.all (λs=>vnK s.b))))||(!((Y p.U i _).B.all (λs=>vnK s.b))))||(!(wkE _ _ _)))||(!(wpL _ _ _))))] (Hr_ 1 1 (Hk_ 2 (jc E λ_ _ _ q=>da.iH ex _ q M) (dx 6 (λ_=>(jl9 E 50 1 1 V V V)) (hP 7 (λ_=>(jc E λ_ _ j q=>da.vnames5_c ex _ q (bl.ac j) M M)) (dx 12 (λ_=>(jl9 E 50 2 1 V V V)) (hP 13 (λ_=>(jc E λ_ _ j q=>da.vnames5_c ex _ q (bn.ac j) M M)) (dx 18 (λ_=>(jn9 E 46 4 5 1 V V V V V)) (hP 19 (λg1=>(jc E λ_ _ j q=>db.eE ex _ (0) _ _ q (by(try simp only[BS]at g1);(first|omega|(dsimp only;omega))) (by(try simp only[BS]at g1);(first|omega|(dsimp only;omega))) (by(try simp only[BS]at g1);(first|omega|(dsimp only;omega))) (bw.ac j) ((fne_wf ex).ac j) M M)) (dx 24 (λ_=>(jl9 E 51 3 1 V V V)) (hP 25 (λ_=>(jc E λ_ _ j q=>lY ex _ (0) _ _ q (bt.ac j) ((fns_wf ex).ac j) M M)) Hn_)))))))))) E V V λdt ee d4 a7 a9=>?_)
  refine zi 1 2 (λU=>?_) λU=>?_
  ·have b9:=U;try simp only[BS]at b9
   have ar:=lu (p:=wfF5) (l:=p.U) (i:=i) M (by unfold wfF5;exact congrArg _ U);refine wT 1 [] 2 2 [] [(2,false)] V λ_=>ag ⟨.inr V,_,V,false,_,(fT (fT (T) Z) a7),(HS.G3 a9),V,(by(unfold wfPr;rw[h2,g1,ar];rfl))⟩
  have b3:=m8 (p:=wfF5) (l:=p.U) (i:=i) M (by unfold wfF5;exact congrArg _ U);refine wU 1 [] 22 22 [54] [(22,(iI ((i:Int)+1)))] (vi (n:=(i:Int)+1)) V λ_=>?_
  refine b6 _ _ _ ?_ ⟨i+1,_,(fT (Z) a7),(HS.sub a9 (a06 _ _)),f_,V,(g1.trans b3),M⟩;omega
 refine wT 1 [] 2 2 [] [(2,true)] V λ_=>ag ⟨.inr V,_,V,true,_,(fT (T) Z),(HS.G3 ax),V,(by(unfold wfPr;rw[h2,g1,dre5 M];rfl))⟩
def we1(m:ExpT->Int->Bool)(s:StmT):Bool:= !wkE m s.G2 0|| !wkE m s.val 0
def weS(m:ExpT->Int->Bool)(s:StmT):Bool:= !we1 m s&&s.y.all λx=>wkE m x 0
theorem jf{B:Base}{F}{L R:List Fp}{H:Heap}(hs:HS B F H L R){b:Nat}{cs:List Value}{w:Value}(t:TypeId)(i:Nat)(hb:FzC F b cs)(ha:ff Tryz.prog t=some false)(E:cs[i]?=some w): ∀H,JJ B F L R H->LDv Tryz.prog H t (pT b i) w:=jf0 hs t i hb ha E
theorem wexs_c{a1 a8 aA a7 ax a6 an a5 a9 bt}(s:StmT)(d:Int){bf}(fu:FnV)(m:ExpT->Int->Bool)(hs:Hb H F H [] R)(dn:in64 s.j)(dt:in64 s.n)(d1:in64 s.G2.j)(d2:in64 s.G2.n)(d3:in64 s.G2.op)(b5:Sr F a9 s.G2.I bt)(d4:in64 s.val.j)(ci:in64 s.val.n)(co:in64 s.val.op)(bw:Sr F an s.val.I a5)(E:Sr F ax s.y a6)(cL:Sr F aA s.G4 a7)(c0:Sr F a1 s.G7 a8)(ar:FzC F bf [fu.v])(b2:FnE ex fu m F)(hx:nmS s)(hn:nS5 s<4611686018427387904):kKt ex 121 [(aG [s.j,(tX s.pp.b),(tX s.K.b),s.n,s.G2.j,s.G2.n,(tX s.G2.pp.b),s.G2.op,(S_ a9 s.G2.I bt),s.val.j,s.val.n,(tX s.val.pp.b),s.val.op,(S_ an s.val.I a5),(S_ ax s.y a6),(S_ aA s.G4 a7),(S_ a1 s.G7 a8)]),d,(pT bf 0)] H λv H'=> ∃(o:Bool),∃F',F.le F'/\Hb H F' H' [] R/\v= .bool o/\o=weS m s:=by
 have⟨et,ez,e0,e1,b7,e2,e3⟩:=nm_s hx;have e4:=nd_s s;have e5:=ndl5 s.y;refine ay Tryz.func121 V V (aj 1 V (ab (bd (aW hs V V) V V ?_)));rintro _ H2 _ ⟨b1,rfl,U,_⟩;refine za (.bool false) (ai 3 V (sj 1 8 19 [] [(19,((!(wkE m _ _))||(!(wkE m _ _))))] (Hr_ 1 0 (Hj_ 2 (jf U 125 0 ar V V) (Hk_ 3 (jc U λ_ _ j q=>db.eE ex _ (0) fu m q M M M (b5.ac j) (b2.ac j) M M) (dx 7 (λ_=>(jn9 U 46 9 5 0 V V V V V)) (dx 8 (λ_=>(jf U 125 0 ar V V)) (hP 9 (λg1=>(jc U λ_ _ j q=>db.eE ex _ (0) fu m q (by(try simp only[BS]at g1);(first|omega|(dsimp only;omega))) (by(try simp only[BS]at g1);(first|omega|(dsimp only;omega))) (by(try simp only[BS]at g1);(first|omega|(dsimp only;omega))) (bw.ac j) (b2.ac j) M M)) Hn_)))))) U V V λea H3 F3 O bl=>?_));have⟨ar,b2,E⟩:=M3 O ar b2 E;refine zi 1 3 (λa2=>?_) λa2=>?_
 ·have c4:=a2;try simp only[BS]at c4
  have a3:we1 m s=true:=a2;refine wr 1 [] 5 5 [] [(5,false)] trivial V V λ_=>ag ⟨.inr V,_,V,_,_,(O),(HS.G3 bl),V,(by(unfold weS;rw[a3];rfl))⟩
 have a3:we1 m s=false:=a2;refine bQ 2 20 23 [] [(21,(sL _ _ _)),(22,(.int _ _)),(23,(.int _ 0))] (Hr_ 1 0 Hn_) bl V V λ_=>ak (λ(mm:Nat) f H'=> ∃(i:Nat),∃F',F3.le F'/\HS _ F' H' [[(b1,.cells [_,_,_,_,_,_,_,_,_,_,_,_,_,_,_,_,_] _ _)]] R/\aI f [(2,(pT bf 0)),(21,(sL _ _ _)),(22,(.int _ _)),(23,(.int _ (i:Int)))]/\mm=Q s.y-i/\(s.y.all (λx=>wkE m x 0)=(s.y.drop i).all (λx=>wkE m x 0))/\(i<=Q s.y)) _ ⟨0,_,fR,bl,f_,V,k_,M⟩ ?_
 rintro ee f7 H7 ⟨i,F7,T,a4,b0,rfl,h1,hi⟩ b6;refine aw _ b0 (λ_=>?_);clear b0;have⟨ar,b2,E⟩:=M3 T ar b2 E;refine aj 1 V (wr 2 [] 24 24 [] [(24,(decide ((i:Int)<(Q s.y:Int))))] trivial V V λ_=>zd 4 5 (λc9=>?_) λc9=>?_)
 ·have qa:=nda5 (l:=s.y) (i:=i) M;refine ab ?_;have⟨c8,bn⟩:=Sv.Gg (SR.sv E a4);have⟨b8,b9,ch,bF⟩:=ExpT.fx (bn i);refine cu 2 0 25 26 [] [(26,(aG [_,_,_,_,_]))] (Ha_ (Sv.ix (SR.sv E a4)) (Hl_ 1 (qn 46 0 5 (ExpT.vw (bn i)) V V V V) Hn_)) V V λ_=>zn a4 V λd9 d6 b4=>sgo 1 3 1 0 [] [] (Hr_ 3 1 Hn_) b4 V V λdk d7 Z=>ai 2 V (ab (cS 2 0 27 28 [] [(27,(aG [_,_,_,_,_])),(28,fu.v)] (Hr_ 0 1 (Hl_ 1 (ql 125 0 (ar.hc Z) V V) Hn_)) Z V V λ_=>?_))
  refine zc (db.eE ex _ (0) fu m (HS.call Z) M M M bF b2 (nm_at b7 M) M) ?_;rintro _ d8 ⟨em,d5,bb,al,rfl,rfl⟩;replace al:=HS.G8 Z V al;refine cu 1 3 30 30 [] [(30,(!(wkE m _ _)))] Hn_ V V λ_=>ai 1 V (zI 1 2 (λba=>?_) λba=>?_)
  ·have c7:=lu (p:=λx=>wkE m x 0) (l:=s.y) (i:=i) M (by simpa using ba);refine wr 1 [] 5 5 [] [(5,false)] trivial V V λ_=>ag ⟨.inr V,_,V,_,_,(fT (fT (O) T) bb),(HS.G3 al),V,(by(unfold weS;rw[a3,h1,c7];rfl))⟩
  have f3:=m8 (p:=λx=>wkE m x 0) (l:=s.y) (i:=i) M (by simpa using ba);refine wr 1 [] 23 23 [31] [(23,(.int _ _))] (vA (vi) trivial) V V λ_=>?_
  refine b6 _ _ _ ?_ ⟨i+1,_,(fT (T) bb),(HS.sub al (a06 _ _)),f_,V,(h1.trans f3),M⟩;omega
 refine wr 1 [] 5 5 [] [(5,true)] trivial V V λ_=>ag ⟨.inr V,_,V,_,_,(fT (O) T),(HS.G3 a4),V,(by(unfold weS;rw[a3,h1,dre5 M];rfl))⟩
theorem fns_we{F}{b:Nat}{fu:FnV}{m:ExpT->Int->Bool}(ar:FnE ex fu m F)(hb:FzC F b [fu.v]):FnP ex (⟨121,[],[(pT b 0)]⟩:FnV) (λs _=>weS m s) F:=FnS.pure ⟨_,V,V⟩ λ_ _ _ _ _ _ _ _ _ _ s d _ _ _ hF hs E O T U Z g5 g6 g7 g8 g9 k0 k1 k2 _ k4 k5=>wexs_c ex s d fu m hs E O T U Z g5 g6 g7 g8 g9 k0 k1 k2 (hb.ac hF) (ar.ac hF) k4 k5
def wxF(m:ExpT->Int->Bool)(g:FunT):Bool:=wkE m g.val 0&&wpL (λs _=>weS m s) g.G6 0
theorem ow{T Z O U an a2 al a1}(g:FunT)(fu:FnV)(m:ExpT->Int->Bool)(hs:Hb H F H [] R)(bf:Sr F al g.A a1)(bl:Sr F an g.B a2)(ax:Sr F O g.G6 U)(bn:in64 g.val.j)(bt:in64 g.val.n)(bw:in64 g.val.op)(aA:Sr F T g.val.I Z)(ar:FnE ex fu m F)(hn:NmF g):kKt ex 88 [(aG [(tX g.pp.b),(S_ al g.A a1),(S_ an g.B a2),(S_ O g.G6 U),g.val.j,g.val.n,(tX g.val.pp.b),g.val.op,(S_ T g.val.I Z)]),fu.v] H λv H'=> ∃(o:Bool),∃F',F.le F'/\Hb H F' H' [] R/\v= .bool o/\o=wxF m g:=by
 have⟨b0,b2,b4,b5,b6,b7,b8,b9,ch⟩:=hn;refine ay Tryz.func88 V V (aj 1 V (ab (bd (aW hs V V) V V ?_)));rintro _ H2 _ ⟨b1,rfl,(a7:HS _ _ _ [(fP b1 [(tX g.pp.b),(S_ al g.A a1),(S_ an g.B a2),(S_ O g.G6 U),g.val.j,g.val.n,(tX g.val.pp.b),g.val.op,(S_ T g.val.I Z)])] _),_⟩;refine bd (aW a7 V V) V V ?_;rintro _ H4 _ ⟨b3,rfl,(a8:HS _ _ _ [_,(fP b3 [fu.v])] _),_⟩;refine za (.bool false) (ai 2 V ?_);have⟨F5,a3,E,a4⟩:=HS.frc a8 (i:=1) V;have E:HS _ _ _ [_,[]] _:=E;have⟨ar,ax,aA⟩:=M3 a3 ar ax aA;refine wj 1 E [(1,.o (aG [g.val.j,g.val.n,(tX g.val.pp.b),g.val.op,(S_ T g.val.I Z)])),(2,.o fu.v),(3,.o (.bool (wkE m g.val (0:Int)))),(6,.o (S_ O g.G6 U)),(8,.o (.bool (wpL (λs _=>weS m s) g.G6 (0:Int))))] 4 14 [] [(4,(wkE m g.val (0:Int)&&wpL (λs _=>weS m s) g.G6 (0:Int)))] (vA (jn9 E 46 4 5 0 V V V V V) (vA (jf E 125 0 a4 V V) (vA (jc E λ_ _ j q=>db.eE ex g.val (0) fu m q M M M (aA.ac j) (ar.ac j) M M) (vA (λ(g1:(wkE m g.val (0:Int))=true)=>(jl9 E 51 3 0 V V V)) (vA (λ(g1:(wkE m g.val (0:Int))=true)=>(jc E λ_ _ j q=>lY ex g.G6 (0) (⟨121,[],[(pT b3 0)]⟩:FnV) (λs _=>weS m s) q (ax.ac j) ((fns_we ex ar a4).ac j) M M)) trivial))))) K_ λbF H6 F6 a6 a9=>?_
 refine ag ⟨.inr V,_,V,(wkE m g.val (0:Int)&&wpL (λs _=>weS m s) g.G6 (0:Int)),_,(fT (a3) a6),(HS.G3 a9),V,k_⟩
end dc
open dc
namespace dd
variable (ex:FuncId) {F:Fz} {H:Heap} {R:List Fp}
theorem lim2_c{E O}(x:ExpT)(d:Int)(hs:Hb H F H [] R)(U:in64 x.j)(Z:in64 x.n)(al:in64 x.op)(an:Sr F E x.I O):kKt ex 89 [(aG [x.j,x.n,(tX x.pp.b),x.op,(S_ E x.I O)]),d] H λv H'=> ∃(o:Bool),∃F',F.le F'/\Hb H F' H' [] R/\v= .bool o/\o=decide (d<=20):=by refine ay Tryz.func89 V V (aj 1 V (ab (bd (aW hs V V) V V ?_)));rintro _ H2 _ ⟨b1,rfl,T,_⟩;refine za (.bool false) (ai 2 V (wT 1 [] 4 6 [] [(4,(decide (d<=20)))] V λ_=>ag ⟨.inr V,_,V,(decide (d<=20)),_,fR,(HS.G3 T),V,k_⟩))
theorem fne_lim{F}:FnE ex (⟨89,[],[]⟩:FnV) (λ_ d=>decide (d<=20)) F:=
 ⟨⟨_,V,V⟩,λa k x d Z H R _ hs E O T U _ hx=>lim2_c ex x d hs E O T U⟩
def psL(O E:Nat)(w:Int×Int):Fp:=[(O,.cells [(iI w.1)] none false),(E,.cells [(iI w.2)] none false)]
def lmN(w:Int×Int)(s:StmT):Int×Int:=(IntKind.i64.wrap (w.1+1),if s.j=4 then IntKind.i64.wrap (w.2+1) else w.2)
def lmS(w:Int×Int)(s:StmT)(d:Int):(Int×Int)×Bool:=(lmN w s,((decide (d<=20))&&(decide ((lmN w s).1<=200)))&&(decide ((lmN w s).2<=16)))
theorem lim1_c{Z aA U ax T an O al a1 a3}(s:StmT)(d:Int){bn bl}(w:Int×Int)(hs:HS (.of H ((psL bn bl w).map Prod.fst)) F H [(psL bn bl w)] R)(bf:in64 s.j)(bt:in64 s.n)(bw:in64 s.G2.j)(bF:in64 s.G2.n)(b0:in64 s.G2.op)(b2:Sr F a1 s.G2.I a3)(b3:in64 s.val.j)(a5:in64 s.val.n)(a6:in64 s.val.op)(a7:Sr F O s.val.I al)(a8:Sr F T s.y an)(a9:Sr F U s.G4 ax)(ba:Sr F Z s.G7 aA):kKt ex 87 [(aG [s.j,(tX s.pp.b),(tX s.K.b),s.n,s.G2.j,s.G2.n,(tX s.G2.pp.b),s.G2.op,(S_ a1 s.G2.I a3),s.val.j,s.val.n,(tX s.val.pp.b),s.val.op,(S_ O s.val.I al),(S_ T s.y an),(S_ U s.G4 ax),(S_ Z s.G7 aA)]),d,(pT bn 0),(pT bl 0)] H λv H'=> ∃(o:Bool) (w':Int×Int),∃F',F.le F'/\HS (.of H ((psL bn bl w).map Prod.fst)) F' H' [(psL bn bl w')] R/\v= .bool o/\w'=(lmS w s d).1/\o=(lmS w s d).2:=by
 replace hs:HS _ _ _ [(fP bn [w.1]),(fP bl [w.2])] _:=hs.reflat V;refine ay Tryz.func87 V V (aj 1 V (ab (bd (aW hs V V) V V ?_)));rintro _ H2 _ ⟨b1,rfl,a4,_⟩;refine za (.bool false) (ai 2 V (sgr 3 7 8 [] [] (Hr_ 0 0 (Hw_ 1 (.w) (Hr_ 2 0 Hn_))) a4 V V λb4 H3 E=>bQ 1 9 11 [] [(11,(s.j==4))] (Hr_ 1 2 Hn_) E V V λ_=>zI 0 2 (λc5=>?_) λc5=>?_))
 ·refine sgr 2 12 13 [] [] (Hr_ 0 1 (Hw_ 1 (.w) (Hr_ 2 1 Hn_))) E V V λb5 H6 a2=>wrp 1 14 23 [6] [(6,(((decide (d<=20))&&(decide (IntKind.i64.wrap (w.1+1)<=200)))&&(decide (IntKind.i64.wrap (w.2+1)<=16))))] (dj 3 (λ_=>(ql 3 0 (h_ a2 V) V V)) (dj 7 (λ_=>(ql 3 0 (i_ a2 V) V V)) Hn_)) V V λ_=>ag ⟨.inr V,_,V,(((decide (d<=20))&&(decide (IntKind.i64.wrap (w.1+1)<=200)))&&(decide (IntKind.i64.wrap (w.2+1)<=16))),(IntKind.i64.wrap (w.1+1),IntKind.i64.wrap (w.2+1)),_,fR,(HS.own2 a2),V,(by simp_all[lmS,lmN]),(by simp_all[lmS,lmN])⟩
 refine wrp 1 14 23 [6] [(6,(((decide (d<=20))&&(decide (IntKind.i64.wrap (w.1+1)<=200)))&&(decide (w.2<=16))))] (dj 3 (λ_=>(ql 3 0 (h_ E V) V V)) (dj 7 (λ_=>(ql 3 0 (i_ E V) V V)) Hn_)) V V λ_=>ag ⟨.inr V,_,V,(((decide (d<=20))&&(decide (IntKind.i64.wrap (w.1+1)<=200)))&&(decide (w.2<=16))),(IntKind.i64.wrap (w.1+1),w.2),_,fR,(HS.own2 E),V,(by simp_all[lmS,lmN]),(by simp_all[lmS,lmN])⟩
theorem fns_lim(bn bl:Nat){F}:FnS ex (⟨87,[],[(pT bn 0),(pT bl 0)]⟩:FnV) lmS (psL bn bl) F:=⟨⟨_,V,V⟩,λ_ _ _ _ _ _ _ _ _ _ s d w _ _ _ _ hs E O T U Z g5 g6 g7 g8 g9 k0 k1 k2 _ _ _=>lim1_c ex s d w hs E O T U Z g5 g6 g7 g8 g9 k0 k1 k2⟩
def lm0(p:PrgT):Bool:=(decide ((4:Int)<(Q p.d:Int)))||(decide ((8:Int)<(Q p.U:Int)))
def lmA(a:ArrT):Bool:= !((decide (a.len<1))||(decide ((16:Int)<a.len)))
def lmF(g:FunT):Bool:=(((decide ((Q g.A:Int)<=6))&&(decide ((Q g.B:Int)<=8)))&&(wsL lmS g.G6 (0,0) 0).2)&&wxF (λ_ d=>decide (d<=20)) g
def lmP(p:PrgT):Bool:= !lm0 p&&p.d.all lmA&&p.U.all lmF
theorem lm_g{g:FunT}(a:((decide ((Q g.A:Int)<=6))&&(decide ((Q g.B:Int)<=8)))=true)(b:((!(wsL lmS g.G6 (0,0) 0).2)||(!wxF (λ_ d=>decide (d<=20)) g))=false):lmF g=true:=by unfold lmF;rw[a];revert b;cases (wsL lmS g.G6 (0,0) 0).2<;>cases wxF (λ_ d=>decide (d<=20)) g<;>decide
theorem lm_n1{g:FunT}(a:((decide ((Q g.A:Int)<=6))&&(decide ((Q g.B:Int)<=8)))=false):lmF g=false:=by unfold lmF;rw[a];rfl
theorem lm_n2{g:FunT}(a:((decide ((Q g.A:Int)<=6))&&(decide ((Q g.B:Int)<=8)))=true)(b:((!(wsL lmS g.G6 (0,0) 0).2)||(!wxF (λ_ d=>decide (d<=20)) g))=true):lmF g=false:=by unfold lmF;rw[a];revert b;cases (wsL lmS g.G6 (0,0) 0).2<;>cases wxF (λ_ d=>decide (d<=20)) g<;>decide
theorem limits_c{a4 a8 a3 a7}(p:PrgT)(hs:Hb H F H [] R)(bl:Sr F a3 p.d a7)(al:Sr F a4 p.U a8)(hn:NmP p):kKt ex 49 [(aG [(S_ a3 p.d a7),(S_ a4 p.U a8)])] H λv H'=> ∃(o:Bool),∃F',F.le F'/\Hb H F' H' [] R/\v= .bool o/\o=lmP p:=by
 have⟨hl,hm,ho,c3⟩:=hn;refine ay Tryz.func49 V V (aj 1 V (ab (bd (aW hs V V) V V ?_)));rintro _ H2 _ ⟨b1,rfl,bw,_⟩;refine za (.bool false) (ai 3 V (bQ 1 10 19 [] [(19,((decide ((4:Int)<(Q p.d:Int)))||(decide ((8:Int)<(Q p.U:Int)))))] (Hr_ 1 0 (dj 6 (λ_=>(ql 23 1 (h_ bw V) V V)) Hn_)) bw V V λ_=>zi 1 3 (λb5=>?_) λb5=>?_))
 ·have c4:=b5;try simp only[BS]at c4
  have a9:lm0 p=true:=b5;refine wT 1 [] 2 2 [] [(2,false)] V λ_=>ag ⟨.inr V,_,V,false,_,fR,(HS.G3 bw),V,(by(unfold lmP;rw[a9];rfl))⟩
 have a9:lm0 p=false:=b5;let c5:Fp:=(fP b1 [(S_ a3 p.d a7),(S_ a4 p.U a8)])
 refine bQ 2 20 23 [] [(21,(S_ a3 p.d a7)),(22,(Q p.d:Int)),(23,(iI 0))] (Hr_ 1 0 Hn_) bw V V λ_=>ak (λ(mm:Nat) f H'=> ∃(i:Nat),∃F',F.le F'/\Hb H F' H' [c5] R/\aI f [(1,(pT b1 0)),(21,(S_ a3 p.d a7)),(22,(Q p.d:Int)),(23,(i:Int))]/\mm=Q p.d-i/\(p.d.all lmA=(p.d.drop i).all lmA)/\(i<=Q p.d)) _ ⟨0,_,fR,bw,f_,V,k_,M⟩ ?_
 rintro g4 f7 H7 ⟨i,F7,a5,bF,c0,rfl,h1,hi⟩ d8;refine aw _ c0 (λ_=>?_);clear c0;have⟨bl,al⟩:=M2 a5 bl al;refine aj 1 V (wT 2 [] 24 24 [] [(24,(decide ((i:Int)<(Q p.d:Int))))] V λ_=>zd 4 6 (λc9=>?_) λc9=>?_)
 ·refine ab ?_;have⟨e1,ci⟩:=Sv.Gg (SR.sv bl bF);have d9:=ArrT.fx (ci i);refine cu 2 0 25 26 [] [(26,(aG [(tX (Y p.d i n_).pp.b),(Y p.d i n_).len]))] (Ha_ (Sv.ix (j:=(i:Int)) (SR.sv bl bF)) (Hl_ 1 (qn 49 0 2 (ArrT.vw (ci i)) V V V V) Hn_)) K_ V λ_=>zn bF V λg2 fu c8=>sgo 1 3 1 0 [] [] (Hr_ 3 1 Hn_) c8 V V λe2 f1 bn=>ai 2 V (bQ 1 27 34 [] [(34,((decide ((Y p.d i n_).len<1))||(decide ((16:Int)<(Y p.d i n_).len))))] (Hr_ 1 1 (dj 5 (λ_=>(ql 3 1 (i_ bn V) V V)) Hn_)) bn V V λ_=>zi 1 2 (λba=>?_) λba=>?_)
  ·have d4:=ba;try simp only[BS]at d4
   have hA:=lu (p:=lmA) (l:=p.d) (i:=i) M (by unfold lmA;exact congrArg _ ba);refine wT 1 [] 2 2 [] [(2,false)] V λ_=>ag ⟨.inr V,_,V,false,_,(a5),(HS.G3 bn),V,(by(unfold lmP;rw[a9,h1,hA];rfl))⟩
  have hQ:=m8 (p:=lmA) (l:=p.d) (i:=i) M (by unfold lmA;exact congrArg _ ba);refine wU 1 [] 23 23 [35] [(23,(iI ((i:Int)+1)))] (vi (n:=(i:Int)+1)) V λ_=>?_
  refine d8 _ _ _ ?_ ⟨i+1,_,(a5),(HS.sub bn (a06 _ _)),f_,V,(h1.trans hQ),M⟩;omega
 have h2:p.d.all lmA=true:=h1.trans (by rw[dre5 M];rfl);refine bQ 2 36 39 [] [(37,(S_ a4 p.U a8)),(38,(Q p.U:Int)),(39,(iI 0))] (Hr_ 1 0 Hn_) bF V V λ_=>ak (λ(mm:Nat) f H'=> ∃(i:Nat),∃F',F7.le F'/\Hb H F' H' [c5] R/\aI f [(37,(S_ a4 p.U a8)),(38,(Q p.U:Int)),(39,(i:Int))]/\mm=Q p.U-i/\(p.U.all lmF=(p.U.drop i).all lmF)/\(i<=Q p.U)) _ ⟨0,_,fR,bF,f_,V,k_,M⟩ ?_
 rintro e7 g3 f2 ⟨i,fb,U,bt,b8,rfl,g1,hk⟩ cL;refine aw _ b8 (λ_=>?_);clear b8;have al:=al.ac U;refine aj 1 V (wT 2 [] 40 40 [] [(40,(decide ((i:Int)<(Q p.U:Int))))] V λ_=>zd 4 5 (λd5=>?_) λd5=>?_)
 ·have hw:=c3 i M;have⟨g6,g7,g8,g9,he,hf,hg,hh,hj⟩:=c3 i M;refine ab ?_;have⟨E,co⟩:=Sv.Gg (SR.sv al bt);have⟨ea,ee,em,aA,a1,T,a2⟩:=FunT.fx (co i);refine cu 2 0 41 42 [] [(42,(aG [(tX (Y p.U i n_).pp.b),(sL (cA (E i) 1) (Q (Y p.U i n_).A) (cK (E i) 1)),(sL (cA (E i) 2) (Q (Y p.U i n_).B) (cK (E i) 2)),(sL (cA (E i) 3) (Q (Y p.U i n_).G6) (cK (E i) 3)),(Y p.U i n_).val.j,(Y p.U i n_).val.n,(tX (Y p.U i n_).val.pp.b),(Y p.U i n_).val.op,(sL (cA (E i) 8) (Q (Y p.U i n_).val.I) (cK (E i) 8))]))] (Ha_ (Sv.ix (j:=(i:Int)) (SR.sv al bt)) (Hl_ 1 (qn 53 0 9 (FunT.vw (co i)) V V V V) Hn_)) K_ V λ_=>zn bt V λd3 f3 dk=>sgo 1 3 1 0 [] [] (Hr_ 3 1 Hn_) dk V V λe3 f4 dn=>ai 2 V (ab (zn dn V λb3 f5 dt=>?_))
  refine zn dt V λb4 f6 d1=>sgo 2 2 1 0 [] [] (Hr_ 2 2 (Hr_ 3 3 Hn_)) d1 V V λe4 f9 b0=>ai 2 V (bQ 2 43 52 [9] [(9,((decide ((Q (Y p.U i n_).A:Int)<=6))&&(decide ((Q (Y p.U i n_).B:Int)<=8))))] (Hr_ 1 1 (dj 6 (λ_=>(ql 50 2 (i_ b0 V) V V)) Hn_)) b0 V V λ_=>?_)
  have an:HS _ _ _ [_,_,((psL b3 b4) (0,0)),[]] _:=b0.reflat V;refine ab (zm (.bool ((decide ((Q (Y p.U i n_).A:Int)<=6))&&(decide ((Q (Y p.U i n_).B:Int)<=8)))) (zm (.bool ((decide ((Q (Y p.U i n_).A:Int)<=6))&&(decide ((Q (Y p.U i n_).B:Int)<=8)))) (fg (v:=((decide ((Q (Y p.U i n_).A:Int)<=6))&&(decide ((Q (Y p.U i n_).B:Int)<=8)))) V V (λO=>?_) (λO=>?_))))
  ·have b2:=O;try simp only[BS]at b2
   refine ad (v:=(pT d3 3)) (bI V V) V V (aC V O (ad (v:=(sL (cA (E i) 3) (Q (Y p.U i n_).G6) (cK (E i) 3))) (aU (i:=3) V V (i_ an V) V V) V V (aC V O (ad (v:=(.func (.func 87) #[] #[(pT b3 0),(pT b4 0)])) (ap_mkf K_) V V (aC V O ?_)))));refine zc (db.jh ex (Y p.U i n_).G6 (0) (⟨87,[],[(pT b3 0),(pT b4 0)]⟩:FnV) lmS (0,0) (HS.Gh an (i:=2) V) T (fns_lim ex b3 b4) M M) ?_;rintro _ gm ⟨g5,e8,fd,Z,a6,rfl,rfl,rfl⟩;replace a6:=an.bO a6;have⟨aA,a1,T,a2⟩:=M4 Z aA a1 T a2;refine ad (v:=(.bool ((wsL lmS (Y p.U i n_).G6 (0,0) (0:Int)).2))) (aq V O V) V V (za (.bool ((wsL lmS (Y p.U i n_).G6 (0,0) (0:Int)).2)) (aB (aj 2 V (sj 1 60 66 [] [(66,((!((wsL lmS (Y p.U i n_).G6 (0,0) (0:Int)).2))||(!(wxF (λ_ d=>decide (d<=20)) (Y p.U i n_)))))] (dx 3 (λ_=>(jn9 a6 53 0 9 1 V V V V V)) (hP 4 (λg1=>(jc a6 λ_ _ j q=>dc.ow ex (Y p.U i n_) (⟨89,[],[]⟩:FnV) (λ_ d=>decide (d<=20)) q (aA.ac j) (a1.ac j) (T.ac j) (by(try simp only[BS]at g1);(first|omega|(dsimp only;omega))) (by(try simp only[BS]at g1);(first|omega|(dsimp only;omega))) (by(try simp only[BS]at g1);(first|omega|(dsimp only;omega))) (a2.ac j) ((fne_lim ex).ac j) (hw))) Hn_)) a6 V V λe5 go fi b6 b9=>?_))));refine zi 1 2 (λbb=>?_) λbb=>?_
   ·have d6:=bb;try simp only[BS]at d6
    have fq:=bb;refine wT 1 [] 2 2 [] [(2,false)] V λ_=>ag ⟨.inr V,_,V,false,_,(fT (fT (fT (a5) U) Z) b6),(HS.G3 b9),V,(by(unfold lmP;rw[a9,h2,g1,lu (p:=lmF) (l:=p.U) (i:=i) M (by first|exact lm_n1 X|exact lm_n2 X X)];rfl))⟩
   have fq:=bb;refine wU 1 [] 39 39 [67] [(39,(iI ((i:Int)+1)))] (vi (n:=(i:Int)+1)) V λ_=>?_
   refine cL _ _ _ ?_ ⟨i+1,_,(fT (fT (U) Z) b6),(HS.sub b9 (a06 _ _)),f_,V,(g1.trans (m8 (p:=lmF) (l:=p.U) (i:=i) M (lm_g X X))),M⟩;omega
  have b2:=O;try simp only[BS]at b2
  refine aK V O V (aK V O V (aK V O V (ad (v:=(.bool false)) (aH V O V) V V (za (.bool false) (aB ?_)))));refine aj 2 V (sj 1 60 66 [] [(66,(true||(!(wxF (λ_ d=>decide (d<=20)) (Y p.U i n_)))))] (dx 3 (λ_=>(jn9 an 53 0 9 1 V V V V V)) (hP 4 (λg1=>(jc an λ_ _ j q=>dc.ow ex (Y p.U i n_) (⟨89,[],[]⟩:FnV) (λ_ d=>decide (d<=20)) q (aA.ac j) (a1.ac j) (T.ac j) (by(try simp only[BS]at g1);(first|omega|(dsimp only;omega))) (by(try simp only[BS]at g1);(first|omega|(dsimp only;omega))) (by(try simp only[BS]at g1);(first|omega|(dsimp only;omega))) (a2.ac j) ((fne_lim ex).ac j) (hw))) Hn_)) an V V λe6 g0 fk b7 ch=>?_);refine zi 1 2 (λbf=>?_) λbf=>?_
  ·have d7:=bf;try simp only[BS]at d7
   have fq:=bf;refine wT 1 [] 2 2 [] [(2,false)] V λ_=>ag ⟨.inr V,_,V,false,_,(fT (fT (a5) U) b7),(HS.G3 ch),V,(by(unfold lmP;rw[a9,h2,g1,lu (p:=lmF) (l:=p.U) (i:=i) M (by first|exact lm_n1 X|exact lm_n2 X X)];rfl))⟩
  have fq:=bf;refine wU 1 [] 39 39 [67] [(39,(iI ((i:Int)+1)))] (vi (n:=(i:Int)+1)) V λ_=>?_
  refine cL _ _ _ ?_ ⟨i+1,_,(fT (U) b7),(HS.sub ch (a06 _ _)),f_,V,(absurd (show(true||(!(wxF (λ_ d=>decide (d<=20)) (Y p.U i n_))))=false by assumption) m_),M⟩;omega
 refine wT 1 [] 2 2 [] [(2,true)] V λ_=>ag ⟨.inr V,_,V,true,_,(fT (a5) U),(HS.G3 bt),V,(by(unfold lmP;rw[a9,h2,g1,dre5 M];rfl))⟩
end dd
end Go.Proofs.YtkpgbdkkgcdhmaaGreat
