/-
 Justified allocations without spills, the program and the reference, by symbolic runs. No condition but bounds on lengths.
-/
import Derived.Test.YtknafdcgpaejlaaDoorZKNV
noncomputable section
namespace Go.Proofs.YtknafdcgpaejlaaDoor.nw
open Go.R
set_option maxRecDepth 10000
set_option linter.unusedVariables false
set_option linter.unusedSimpArgs false
variable (ex:FuncId) {F:Fz} {H:Heap} {R:List Fp}
open m1 m2 m3 m4 m5 m6 ma ml mb mc md mf mg mh mi mj na nb nc ni nv
theorem rs_map{P:Program}{ρ:Operand->Value}{H:Heap}{B:Base}{F:Fz}{L R:List Fp}{d ty pos af gd t}(hs:HS B F H L R): ∃r:Rs,AP P ρ ⟨d,.makeMap t none,ty,pos,af,gd⟩ H (.val r.v,r.H)/\(∃b,r.v= .map (some b)/\HS B F r.H (L++[[(b,.tab [])]]) R/\Wr H r.H []):=
 ⟨⟨_,_,[]⟩,⟨rfl⟩,_,rfl,hs.push _,.nil fun b hb=>by simpa using hb⟩
def AllF(a:AllT)(r s:Nat):Prop:=s<=r/\(s=0↔ ∀q,q<r->(cJ a q).inS=false)
theorem af_zero{a:AllT}:AllF a 0 0:=⟨a09 _,fun _ q h=>absurd h (a0D _),fun _=>rfl⟩
theorem af_yes{a:AllT}{r s:Nat}(h:AllF a r s)(hi:(cJ a r).inS=true):AllF a (r+1) (s+1):=⟨a1j h.1,fun e=>absurd e (Nat.succ_ne_zero _),fun k=>by
 have:=k r (a1l _);rw[hi]at this;cases this⟩
theorem af_no{a:AllT}{r s:Nat}(h:AllF a r s)(hi:(cJ a r).inS=false):AllF a (r+1) s:=⟨a1d h.1,fun e=>cz (h.2.1 e) hi,fun k=>h.2.2 fun q hq=>k q (Nat.lt_succ_of_lt hq)⟩
theorem rep_f{n r:Nat}:(List.replicate n false).getD r false=false:=by rw[a02,a1o];split<;>rfl
structure JstP(c:VFnT)(a:AllT):Prop where
 val:bK c=true
 len:(a.locs.length:Int)=c.regs
 all: ∀q,q<a.locs.length->(cJ a q).inS=false
theorem jst_no0{c:VFnT}{a:AllT}(h:((!(bK c))||((a.locs.length:Int) !=c.regs))=true): ¬JstP c a:=fun s=>by rw[s.val,s.len]at h;simp at h
theorem jst_yes0{c:VFnT}{a:AllT}(h:((!(bK c))||((a.locs.length:Int) !=c.regs))=false):bK c=true/\(a.locs.length:Int)=c.regs:=by simp only[a17,a1Q,bne_eq_false_iff_eq]at h;exact h
set_option maxHeartbeats 2000000 in
theorem just_c{E:Option Addr}{N:Nat}(c:VFnT){T:Option Addr}{V:Nat}{A:Option Addr}{J:Nat}(a:AllT)(hs:HS (.of H []) F H [] R)(d3:in64 c.params)(d4:in64 c.regs)(aw:SR F (.slice E c.blocks.length N) c.blocks)(U:SR F (.slice A a.locs.length J) a.locs)(d1:SR F (.slice T a.spi.length V) a.spi)(d2:in64 a.slots)(hT:TB 37 tabC F)(hins: ∀j,(c.blocks.getD j default).ins.length<=1073741822)(hsp:a.spi=[]):kKt ex 37 [(.agg ⟨[(iI c.params),(iI c.regs),(.slice E c.blocks.length N)]⟩),(.agg ⟨[(.slice A a.locs.length J),(.slice T a.spi.length V),(iI a.slots)]⟩)] H fun v H'=> ∃(o:Bool) (F':Fz),Fz.le F F'/\HS (.of H []) F' H' [] R/\v= .bool o/\(o=true↔JstP c a):=by
 have hslr:(List.replicate c.regs.toNat false).length=c.regs.toNat:=a0Q;refine aH Tryd.func37 rfl rfl ?_;refine aj 1 rfl ?_;refine aa ?_;refine aE (aZ hs rfl rfl) rfl rfl ?_;rintro _ H2 _ ⟨b1,rfl,(dd:HS _ _ _ [[(b1,.cells [(iI c.params),(iI c.regs),(.slice E c.blocks.length N)] none false)]] _),_⟩;refine aE (aZ dd rfl rfl) rfl rfl ?_;rintro _ H4 _ ⟨b3,rfl,(bl:HS _ _ _ [_,[(b3,.cells [(.slice A a.locs.length J),(.slice T a.spi.length V),(iI a.slots)] none false)]] _),_⟩;refine wa (.bool false) rfl rfl rfl ?_;refine ae 3 rfl ?_;refine aa ?_;let ar:Value:=(.agg ⟨[(iI c.params),(iI c.regs),(.slice E c.blocks.length N)]⟩)
 refine wUo 1 0 [(0,.o ar)] 13 13 [] [(13,ar)] (qn 24 0 3 (HS.hc bl (i:=0) rfl) rfl rfl rfl rfl) rfl fun _=>?_
 refine az (aq rfl rfl rfl) rfl rfl (m3.iX ex c (HS.call bl) (by first|(dsimp only;omega)|omega) (by first|(dsimp only;omega)|omega) aw hT (by exact fun j=>a0c (hins j) (by omega))) ?_;rintro _ H6 ⟨r6,F6,an,al,rfl,rfl⟩;replace al:HS _ _ _ [_,_] _:=HS.back bl rfl al;replace hT:=hT.mono an;replace U:=U.mono an;replace aw:=aw.mono an;refine wRo 9 2 [(5,.o (.slice A a.locs.length J)),(8,.o (iI c.regs))] 15 23 [] [(23,(.bool ((!(bK c))||((a.locs.length:Int) !=c.regs))))] (vA (fun(g1:(!(bK c))=false)=>(ql 37 0 (HS.hc al (i:=1) rfl) rfl rfl)) (vA (fun(g1:(!(bK c))=false)=>(ql 3 1 (HS.hc al (i:=0) rfl) rfl rfl)) trivial)) rfl fun _=>?_
 refine ae 1 rfl ?_;refine ap 1 2 (v:=((!(bK c))||((a.locs.length:Int) !=c.regs))) rfl rfl rfl rfl (fun a2=>?_) (fun a2=>?_)
 ·have c8:=a2;try simp only[BS]at c8
  have hbad: ¬JstP c a:=jst_no0 a2;refine wT 1 [] 4 4 [] [(4,(.bool false))] rfl fun _=>?_
  refine am ⟨.inr rfl,_,rfl,false,_,(an),(HS.forget al),rfl,(by first|exact⟨fun h=>(by cases h),fun h=>absurd h hbad⟩|exact⟨fun _=>hfin,fun _=>rfl⟩)⟩
 have c8:=a2;try simp only[BS]at c8
 have hyy:=jst_yes0 a2;have hv:=hyy.1;have hlen:=hyy.2;have vF:=gF hv;have hrg:=vF.regs;refine aa ?_;refine wUo 2 0 [(1,.o (iI c.regs))] 24 25 [] [(25,(iI c.regs))] (ql 3 1 (HS.hc al (i:=0) rfl) rfl rfl) rfl fun _=>?_
 refine aE (di false al rfl rfl rfl rfl rfl rfl rfl rfl rfl rfl (by first|(dsimp only;omega)|omega) (by first|(dsimp only;omega)|omega)) rfl rfl ?_;rintro _ es b5 ⟨b0,b4,rfl,ax,(a4:HS _ _ _ [_,_,b5] _),_⟩;refine wa (.slice b0 (List.replicate c.regs.toNat false).length b4) rfl rfl rfl ?_;refine ae 2 rfl ?_;refine aa ?_;refine wUo 1 0 [(0,.o ar)] 27 27 [] [(27,ar)] (qn 24 0 3 (HS.hc a4 (i:=0) rfl) rfl rfl rfl rfl) rfl fun _=>?_
 refine az (aq rfl rfl rfl) rfl rfl (nb.inter_c ex c (HS.call a4) (by first|(dsimp only;omega)|omega) (by first|(dsimp only;omega)|omega) aw hT (by assumption)) ?_;rintro _ et ⟨b7,c3,c7,c4,av,ay,rfl,dl,dv,dt⟩;replace ay:HS _ _ _ [_,_,_] _:=HS.back a4 rfl ay;refine wa (.slice b7 c7.length c3) rfl rfl rfl ?_;refine ae 2 rfl ?_;refine aa ?_;refine wUo 1 0 [(0,.o ar)] 29 29 [] [(29,ar)] (qn 24 0 3 (HS.hc ay (i:=0) rfl) rfl rfl rfl rfl) rfl fun _=>?_
 refine aE (rs_map ay) rfl rfl ?_;rintro _ ez _ ⟨a1,rfl,(cc:HS _ _ _ [_,_,_,[(a1,.tab [])]] _),_⟩;refine wTo 1 2 [] 31 31 [] [(31,(.agg ⟨[(iI c.params),(iI c.regs),(.slice E c.blocks.length N),(.map (some a1))]⟩))] rfl fun _=>?_
 refine aE (bd cc rfl) rfl rfl ?_;rintro _ e0 _ ⟨a7,rfl,(ch:HS _ _ _ [_,_,_,_,[(a7,.cells [(iI 0),(iI 0),(.slice none 0 0),(.map none)] none false)]] _),_⟩;refine aJ (aF (q:=4) ch rfl rfl rfl rfl rfl rfl rfl rfl rfl) rfl ?_;rintro _ e1 _ ⟨(a5:HS _ _ _ [_,_,_,_,[(a7,.cells [(iI c.params),(iI c.regs),(.slice E c.blocks.length N),(.map (some a1))] none false)]] _),_⟩;refine ae 3 rfl ?_;refine wU 2 [(1,.o (.slice T a.spi.length V))] 32 35 [] [(33,(.slice T a.spi.length V)),(34,(iI (a.spi.length:Int))),(35,(iI 0))] (ql 38 1 (HS.hc a5 (i:=1) rfl) rfl rfl) rfl fun _=>?_
 refine kD ?_;refine aj 1 rfl ?_;refine wT 2 [] 36 36 [] [(36,(.bool (decide ((0:Int)<(a.spi.length:Int)))))] rfl fun _=>?_
 refine wk_iff 6 (v:=(decide ((0:Int)<(a.spi.length:Int)))) rfl (by rw[hsp];rfl) rfl rfl ?_;refine wU 2 [(1,.o (.slice A a.locs.length J))] 97 100 [] [(98,(.slice A a.locs.length J)),(99,(iI (a.locs.length:Int))),(100,(iI 0))] (ql 37 0 (HS.hc a5 (i:=1) rfl) rfl rfl) rfl fun _=>?_
 refine ak (fun(mm:Nat) f H'=> ∃(r:Nat) (F':Fz),Fz.le c4 F'/\HS (Base.of H []) F' H' [[(b1,.cells [(iI c.params),(iI c.regs),(.slice E c.blocks.length N)] none false)],[(b3,.cells [(.slice A a.locs.length J),(.slice T a.spi.length V),(iI a.slots)] none false)],b5,[(a1,.tab [])],[(a7,.cells [(iI c.params),(iI c.regs),(.slice E c.blocks.length N),(.map (some a1))] none false)]] R/\aD f [(5,(.slice b0 (List.replicate c.regs.toNat false).length b4)),(98,(.slice A a.locs.length J)),(99,(iI (a.locs.length:Int))),(100,(iI (r:Int)))]/\mm=a.locs.length-r/\(r<=a.locs.length)/\(∀q,q<r->(cJ a q).inS=false)) _ ⟨0,_,fR,a5,(agC rfl (agC rfl (agC rfl (agC rfl agN)))),rfl,(by first|assumption|omega|(simp at*;omega)),(by exact fun q h=>absurd h (a0D _))⟩ ?_;rintro ea e5 e2 ⟨r,em,ad,a0,bk,rfl,hr,hal⟩ c0;refine au _ bk (fun _=>?_);clear bk;replace U:=(U.mono av).mono ad;replace ax:=(ax.mono av).mono ad;refine aj 1 rfl ?_;refine wT 2 [] 101 101 [] [(101,(.bool (decide ((r:Int)<(a.locs.length:Int)))))] rfl fun _=>?_
 refine ap 4 5 (v:=(decide ((r:Int)<(a.locs.length:Int)))) rfl rfl rfl rfl (fun a3=>?_) (fun a3=>?_)
 ·have a8:=a3;try simp only[BS]at a8
  refine aa ?_;obtain⟨dn,bz⟩:=Sv.view (SR.sv U a0);have dk:=LocT.fx (bz r);let b6:Value:=(.agg ⟨[(.bool (a.locs.getD r default).inS),(iI (a.locs.getD r default).idx)]⟩)
  refine wRo 3 0 [(2,.o b6)] 102 104 [] [(102,(iI (r:Int))),(104,b6)] (vA (Sv.ix (j:=(r:Int)) (SR.sv U a0) (by first|(dsimp only;omega)|omega) (by first|(dsimp only;omega)|omega)) (vA (qn 57 0 2 (LocT.vw (bz r) (by first|(dsimp only;omega)|omega)) rfl rfl rfl rfl) trivial)) rfl fun _=>?_
  refine aE (bd a0 rfl) rfl rfl ?_;rintro _ e3 _ ⟨b2,rfl,(ci:HS _ _ _ [_,_,_,_,_,[(b2,.cells [(.bool false),(iI 0)] none false)]] _),_⟩;refine wa (iI (r:Int)) rfl rfl rfl ?_;refine aJ (aF (q:=5) ci rfl rfl rfl rfl rfl rfl rfl rfl rfl) rfl ?_;rintro _ e4 _ ⟨(ag:HS _ _ _ [_,_,_,_,_,[(b2,.cells [(.bool (a.locs.getD r default).inS),(iI (a.locs.getD r default).idx)] none false)]] _),_⟩;refine ae 2 rfl ?_;obtain⟨ds,co⟩:=Sv.view (OS.sv ax ag (i:=2) rfl);refine wR 1 [(1,.o (.bool (a.locs.getD r default).inS)),(6,.o (.bool ((List.replicate c.regs.toNat false).getD r false)))] 105 113 [] [(113,(.bool ((a.locs.getD r default).inS&&(!((List.replicate c.regs.toNat false).getD r false)))))] (vA (ql 4 0 (HS.hc ag (i:=5) rfl) rfl rfl) (vA (fun(g1:(a.locs.getD r default).inS=true)=>(Sv.ix (j:=(r:Int)) (OS.sv ax ag (i:=2) rfl) (by(try simp only[BS]at g1);(first|(dsimp only;omega)|omega)) (by(try simp only[BS]at g1);(first|(dsimp only;omega)|omega)))) (vA (fun(g1:(a.locs.getD r default).inS=true)=>(ql 4 0 (vB (co r) (by(try simp only[BS]at g1);(first|(dsimp only;omega)|omega))) rfl rfl)) trivial))) rfl fun _=>?_
  refine ap 1 2 (v:=((a.locs.getD r default).inS&&(!((List.replicate c.regs.toNat false).getD r false)))) rfl rfl rfl rfl (fun Z=>?_) (fun Z=>?_)
  ·have a9:=Z;try simp only[BS]at a9
   have hbad: ¬JstP c a:=fun h=>by have h1:=h.all r (by omega);have h2:=Z;(unfold cJ at h1;rw[h1]at h2;cases h2)
   refine wT 1 [] 4 4 [] [(4,(.bool false))] rfl fun _=>?_
   refine am ⟨.inr rfl,_,rfl,false,_,(fT (fT (an) av) ad),(HS.forget ag),rfl,(by first|exact⟨fun h=>(by cases h),fun h=>absurd h hbad⟩|exact⟨fun _=>hfin,fun _=>rfl⟩)⟩
  have a9:=Z;try simp only[BS]at a9
  have hno:(cJ a r).inS=false:=by have h2:=Z;(rw[rep_f]at h2;unfold cJ;simpa using h2)
  refine wU 1 [] 100 100 [114] [(100,(iI ((r:Int)+1)))] (vi (n:=(r:Int)+1) (by first|(dsimp only;omega)|omega)) rfl fun _=>?_
  refine c0 _ _ _ ?_ ⟨r+1,_,(ad),(HS.sub ag (a03 _ _)),(agC rfl (agC rfl (agC rfl (agC rfl agN)))),rfl,(by first|assumption|omega|(simp at*;omega)),(by exact cz hal hno)⟩;omega
 have a8:=a3;try simp only[BS]at a8
 have hfin:JstP c a:=⟨hv,hlen,fun q hq=>hal q (by omega)⟩
 refine wT 1 [] 4 4 [] [(4,(.bool true))] rfl fun _=>?_
 refine am ⟨.inr rfl,_,rfl,true,_,(fT (fT (an) av) ad),(HS.forget a0),rfl,(by first|exact⟨fun h=>(by cases h),fun h=>absurd h hbad⟩|exact⟨fun _=>hfin,fun _=>rfl⟩)⟩
set_option maxHeartbeats 2000000 in
theorem rjust_c{ad:Option Addr}{ag:Nat}(c:VFnT){N:Option Addr}{Z:Nat}{J:Option Addr}{V:Nat}(a:AllT)(hs:HS (.of H []) F H [] R)(c3:in64 c.params)(c4:in64 c.regs)(U:SR F (.slice ad c.blocks.length ag) c.blocks)(T:SR F (.slice J a.locs.length V) a.locs)(co:SR F (.slice N a.spi.length Z) a.spi)(c0:in64 a.slots)(hT:TB 37 tabC F)(hins: ∀j,(c.blocks.getD j default).ins.length<=1073741822)(hsp:a.spi=[]):kKt ex 38 [(.agg ⟨[(iI c.params),(iI c.regs),(.slice ad c.blocks.length ag)]⟩),(.agg ⟨[(.slice J a.locs.length V),(.slice N a.spi.length Z),(iI a.slots)]⟩)] H fun v H'=> ∃(o:Bool) (F':Fz),Fz.le F F'/\HS (.of H []) F' H' [] R/\v= .bool o/\(o=true↔JstP c a):=by
 refine aH Tryd.func38 rfl rfl ?_;refine aj 1 rfl ?_;refine aa ?_;refine aE (aZ hs rfl rfl) rfl rfl ?_;rintro _ H2 _ ⟨b1,rfl,(b4:HS _ _ _ [[(b1,.cells [(iI c.params),(iI c.regs),(.slice ad c.blocks.length ag)] none false)]] _),_⟩;refine aE (aZ b4 rfl rfl) rfl rfl ?_;rintro _ H4 _ ⟨b3,rfl,(a6:HS _ _ _ [_,[(b3,.cells [(.slice J a.locs.length V),(.slice N a.spi.length Z),(iI a.slots)] none false)]] _),_⟩;refine wa (.bool false) rfl rfl rfl ?_;refine ae 3 rfl ?_;refine aa ?_;let a3:Value:=(.agg ⟨[(iI c.params),(iI c.regs),(.slice ad c.blocks.length ag)]⟩)
 refine wUo 1 0 [(0,.o a3)] 11 11 [] [(11,a3)] (qn 24 0 3 (HS.hc a6 (i:=0) rfl) rfl rfl rfl rfl) rfl fun _=>?_
 refine az (aq rfl rfl rfl) rfl rfl (m3.fk ex c (HS.call a6) (by first|(dsimp only;omega)|omega) (by first|(dsimp only;omega)|omega) U hT (by exact fun j=>a0c (hins j) (by omega))) ?_;rintro _ H6 ⟨r6,F6,al,an,rfl,rfl⟩;replace an:HS _ _ _ [_,_] _:=HS.back a6 rfl an;replace hT:=hT.mono al;replace T:=T.mono al;replace U:=U.mono al;refine wRo 9 2 [(5,.o (.slice J a.locs.length V)),(8,.o (iI c.regs))] 13 21 [] [(21,(.bool ((!(bK c))||((a.locs.length:Int) !=c.regs))))] (vA (fun(g1:(!(bK c))=false)=>(ql 37 0 (HS.hc an (i:=1) rfl) rfl rfl)) (vA (fun(g1:(!(bK c))=false)=>(ql 3 1 (HS.hc an (i:=0) rfl) rfl rfl)) trivial)) rfl fun _=>?_
 refine ae 1 rfl ?_;refine ap 1 2 (v:=((!(bK c))||((a.locs.length:Int) !=c.regs))) rfl rfl rfl rfl (fun ax=>?_) (fun ax=>?_)
 ·have c8:=ax;try simp only[BS]at c8
  have hbad: ¬JstP c a:=jst_no0 ax;refine wT 1 [] 4 4 [] [(4,(.bool false))] rfl fun _=>?_
  refine am ⟨.inr rfl,_,rfl,false,_,(al),(HS.forget an),rfl,(by first|exact⟨fun h=>(by cases h),fun h=>absurd h hbad⟩|exact⟨fun _=>hfin,fun _=>rfl⟩)⟩
 have c8:=ax;try simp only[BS]at c8
 have hyy:=jst_yes0 ax;have hv:=hyy.1;have hlen:=hyy.2;have vF:=gF hv;have hrg:=vF.regs;refine wT 3 [] 1 0 [5] [(5,(iI 0))] rfl fun _=>?_
 refine wT 2 [] 1 0 [6] [(6,(iI 0))] rfl fun _=>?_
 refine ak (fun(mm:Nat) f H'=> ∃(s:Nat) (r:Nat) (F':Fz),Fz.le F6 F'/\HS (Base.of H []) F' H' [[(b1,.cells [(iI c.params),(iI c.regs),(.slice ad c.blocks.length ag)] none false)],[(b3,.cells [(.slice J a.locs.length V),(.slice N a.spi.length Z),(iI a.slots)] none false)]] R/\aD f [(2,(.pointer (some ⟨b1,0,none⟩))),(3,(.pointer (some ⟨b3,0,none⟩))),(5,(iI (s:Int))),(6,(iI (r:Int)))]/\mm=a.locs.length-r/\(r<=a.locs.length)/\(AllF a r s)) _ ⟨0,0,_,fR,an,(agC rfl (agC rfl (agC rfl (agC rfl agN)))),rfl,(by first|assumption|omega|(simp at*;omega)),(by exact af_zero)⟩ ?_;rintro c5 dk c9 ⟨s,r,c6,E,A,a5,rfl,hr,haf⟩ a8;refine au _ a5 (fun _=>?_);clear a5;replace hT:=hT.mono E;replace T:=T.mono E;replace U:=U.mono E;have hsr:=haf.1;refine aj 2 rfl ?_;refine wU 1 [(2,.o (iI c.regs))] 22 25 [] [(25,(.bool (decide ((r:Int)<c.regs))))] (ql 3 1 (HS.hc A (i:=0) rfl) rfl rfl) rfl fun _=>?_
 refine ap 4 6 (v:=(decide ((r:Int)<c.regs))) rfl rfl rfl rfl (fun ay=>?_) (fun ay=>?_)
 ·have a4:=ay;try simp only[BS]at a4
  obtain⟨b9,a7⟩:=Sv.view (SR.sv T A);have b5:=LocT.fx (a7 r);refine wR 1 [(1,.o (.slice J a.locs.length V)),(5,.o (.bool (a.locs.getD r default).inS))] 28 33 [] [(33,(.bool (a.locs.getD r default).inS))] (vA (ql 37 0 (HS.hc A (i:=1) rfl) rfl rfl) (vA (Sv.ix (j:=(r:Int)) (SR.sv T A) (by first|(dsimp only;omega)|omega) (by first|(dsimp only;omega)|omega)) (vA (ql 4 0 (LocT.vw (a7 r) (by first|(dsimp only;omega)|omega)) rfl rfl) trivial))) rfl fun _=>?_
  refine ap 0 2 (v:=(a.locs.getD r default).inS) rfl rfl rfl rfl (fun ar=>?_) (fun ar=>?_)
  ·have a2:=ar;try simp only[BS]at a2
   have hin:(cJ a r).inS=true:=a2;refine wU 2 [] 34 35 [5] [(5,(iI ((s:Int)+1)))] (vi (n:=(s:Int)+1) (by first|(dsimp only;omega)|omega)) rfl fun _=>?_
   refine wU 1 [] 26 27 [6] [(6,(iI ((r:Int)+1)))] (vi (n:=(r:Int)+1) (by first|(dsimp only;omega)|omega)) rfl fun _=>?_
   refine a8 _ _ _ ?_ ⟨s+1,r+1,_,(E),A,(agC rfl (agC rfl (agC rfl (agC rfl agN)))),rfl,(by first|assumption|omega|(simp at*;omega)),(by first|exact af_yes haf hin|exact af_no haf hin)⟩;omega
  have a2:=ar;try simp only[BS]at a2
  have hin:(cJ a r).inS=false:=by have h2:=ar;exact h2
  refine wU 1 [] 26 27 [6] [(6,(iI ((r:Int)+1)))] (vi (n:=(r:Int)+1) (by first|(dsimp only;omega)|omega)) rfl fun _=>?_
  refine a8 _ _ _ ?_ ⟨s,r+1,_,(E),A,(agC rfl (agC rfl (agC rfl (agC rfl agN)))),rfl,(by first|assumption|omega|(simp at*;omega)),(by first|exact af_yes haf hin|exact af_no haf hin)⟩;omega
 have a4:=ay;try simp only[BS]at a4
 refine wU 1 [(2,.o (.slice N a.spi.length Z))] 36 40 [] [(40,(.bool ((s:Int) !=(a.spi.length:Int))))] (ql 38 1 (HS.hc A (i:=1) rfl) rfl rfl) rfl fun _=>?_
 refine ap 1 2 (v:=((s:Int) !=(a.spi.length:Int))) rfl rfl rfl rfl (fun a0=>?_) (fun a0=>?_)
 ·have aw:=a0;try simp only[BS]at aw
  have hbad: ¬JstP c a:=fun h=>by have h0:=haf.2.2 (fun q hq=>h.all q (by omega));have h2:=aw;rw[hsp]at h2;(simp only[a0e]at h2;omega)
  refine wT 1 [] 4 4 [] [(4,(.bool false))] rfl fun _=>?_
  refine am ⟨.inr rfl,_,rfl,false,_,(fT (al) E),(HS.forget A),rfl,(by first|exact⟨fun h=>(by cases h),fun h=>absurd h hbad⟩|exact⟨fun _=>hfin,fun _=>rfl⟩)⟩
 have aw:=a0;try simp only[BS]at aw
 have hfin:JstP c a:=⟨hv,hlen,fun q hq=>haf.2.1 (by have h2:=aw;rw[hsp]at h2;(simp only[a0e]at h2;omega)) q (by omega)⟩
 refine wT 2 [] 1 0 [7] [(7,(.slice none 0 0))] rfl fun _=>?_
 refine aa ?_;refine wUo 1 0 [(0,.o a3)] 41 41 [] [(41,a3)] (qn 24 0 3 (HS.hc A (i:=0) rfl) rfl rfl rfl rfl) rfl fun _=>?_
 refine az (aq rfl rfl rfl) rfl rfl (ni.rinter_c ex c (HS.call A) (by first|(dsimp only;omega)|omega) (by first|(dsimp only;omega)|omega) U hT (by assumption)) ?_;rintro _ dd ⟨a9,b0,b2,c7,bz,av,rfl,b6,ci,ch⟩;replace av:HS _ _ _ [_,_] _:=HS.back A rfl av;refine wa (.slice a9 b2.length b0) rfl rfl rfl ?_;refine ae 3 rfl ?_;refine wT 2 [] 1 0 [9] [(9,(iI 0))] rfl fun _=>?_
 refine kD ?_;refine aj 2 rfl ?_;refine wU 1 [(2,.o (.slice N a.spi.length Z))] 43 47 [] [(47,(.bool (decide ((0:Int)<(a.spi.length:Int)))))] (ql 38 1 (HS.hc av (i:=1) rfl) rfl rfl) rfl fun _=>?_
 refine wk_iff 5 (v:=(decide ((0:Int)<(a.spi.length:Int)))) rfl (by rw[hsp];rfl) rfl rfl ?_;refine wT 1 [] 4 4 [] [(4,(.bool true))] rfl fun _=>?_
 refine am ⟨.inr rfl,_,rfl,true,_,(fT (fT (al) E) bz),(HS.forget av),rfl,(by first|exact⟨fun h=>(by cases h),fun h=>absurd h hbad⟩|exact⟨fun _=>hfin,fun _=>rfl⟩)⟩
end Go.Proofs.YtknafdcgpaejlaaDoor.nw
