/-
 Live registers: the reference points and calls, by a symbolic run. No condition but bounds on lengths.
-/
import Derived.Test.YtknafdcgpaejlaaDoorZJMI
noncomputable section
namespace Go.Proofs.YtknafdcgpaejlaaDoor.mj
open Go.R
set_option maxRecDepth 10000
set_option linter.unusedVariables false
set_option linter.unusedSimpArgs false
variable (ex:FuncId) {F:Fz} {H:Heap} {R:List Fp}
open m1 m2 m3 m4 m5 m6 ma ml mb mc md mf mg mh mi
theorem reads6{v:VInT}(ho:v.i.op=6)(x:Int):x∈aA v↔x∈v.args:=by
 have A:alV v.i.op=true:=by rw[ho];rfl
 have E:(aK v.i.op).ra=false:=by rw[ho];rfl
 have J:(aK v.i.op).rb=false:=by rw[ho];rfl
 unfold aA;rw[if_pos A,uni_mem];unfold gM;rw[E,J,if_neg (by simp),if_neg (by simp),if_neg (by omega),if_pos ho];simp
def acJ(c:VFnT)(b k r:Nat):Prop:=acK c b r\/∃j,j<k/\acI c b j r
theorem aci_lt{c:VFnT}(v:VF c){b i r:Nat}(hb:b<c.blocks.length)(hi:i<(bo c b).ins.length)(h:acI c b i r):(r:Int)<c.regs:=by
 rcases h with⟨ho,⟨A,_⟩|A⟩
 ·exact fv v hb A
 exact((bN (v.ins b hb i hi)).1 _ ((reads6 ho _).2 A)).2
theorem ack_lt{c:VFnT}(v:VF c){k r:Nat}(hk:k<=c.blocks.length)(h:acK c k r):(r:Int)<c.regs:=by obtain⟨b,i,J,A,E⟩:=h;exact aci_lt v (by omega) A E
set_option maxHeartbeats 1000000 in
theorem rlp_c{A:Option Addr}{J:Nat}(c:VFnT)(block:Int)(hs:HS (.of H []) F H [] R)(dd:in64 c.params)(dk:in64 c.regs)(N:SR F (.slice A c.blocks.length J) c.blocks)(hblock:in64 block)(hT:TB 37 tabC F)(hins: ∀j,(c.blocks.getD j default).ins.length<=1073741824):kKt ex 30 [(.agg ⟨[(iI c.params),(iI c.regs),(.slice A c.blocks.length J)]⟩),(iI block)] H fun v H'=> ∃(al:Option Addr) (kl:Nat) (l:List (List Int)) (F':Fz),Fz.le F F'/\HS (.of H []) F' H' [] R/\v= .slice al l.length kl/\SR F' (.slice al l.length kl) l/\(dH c=true->0<=block->block<(c.blocks.length:Int)->PtF c block.toNat l)/\((dH c=false\/block<0\/(c.blocks.length:Int)<=block)->l=[]):=by
 refine aF Tryd.func30 rfl rfl (aj 1 rfl (aa (aG (bA hs rfl rfl) rfl rfl ?_)));rintro _ H2 _ ⟨b1,rfl,(a1:HS _ _ _ [[(b1,.cells [(iI c.params),(iI c.regs),(.slice A c.blocks.length J)] none false)]] _),_⟩;let ar:Value:=(.agg ⟨[(iI c.params),(iI c.regs),(.slice A c.blocks.length J)]⟩)
 refine wa (.slice none 0 0) rfl rfl rfl (ae 3 rfl (aa (wUo 1 0 [(0,.o ar)] 7 7 [] [(7,ar)] (qn 24 0 3 (HS.hc a1 (i:=0) rfl) rfl rfl rfl rfl) rfl fun _=>az (aq rfl rfl rfl) rfl rfl (m3.rvalid_c ex c (HS.call a1) (by omega) (by omega) N hT (fun j=>a0d (hins j) (by omega))) ?_)));rintro _ H4 ⟨r4,F4,an,U,rfl,rfl⟩;replace U:HS _ _ _ [_] _:=HS.back a1 rfl U;replace hT:=hT.mono an;replace N:=N.mono an;refine wUo 12 2 [(10,.o (.slice A c.blocks.length J))] 9 20 [] [(20,(.bool (((!(dH c))||(decide (block<0)))||(decide ((c.blocks.length:Int)<=block)))))] (fun(g1:((!(dH c))||(decide (block<0)))=false)=>(ql 22 2 (HS.hc U (i:=0) rfl) rfl rfl)) rfl fun _=>ae 1 rfl (ap 1 2 (v:=(((!(dH c))||(decide (block<0)))||(decide ((c.blocks.length:Int)<=block)))) rfl rfl rfl rfl (fun ax=>?_) (fun ax=>?_))
 ·have c6:=ax;try simp only[BS]at c6
  have hb:=c6;refine wT 1 [] 4 4 [] [(4,(.slice none 0 0))] rfl fun _=>am ⟨.inr rfl,_,rfl,none,0,([]:List (List Int)),_,(an),(HS.forget U),rfl,(SR.nil:SR F4 (.slice none 0 0) ([]:List (List Int))),(by first|exact fun h h2 h3=>absurd hb (by simp[h];omega)|exact fun _ _ _=>ptf_of (bk.hy _ hbn) (by assumption)),(by first|exact fun _=>rfl|exact fun h=>by rw[hv]at h;simp at h;omega)⟩
 have c6:=ax;try simp only[BS]at c6
 have hb:=c6;have hv:dH c=true:=hb.1.1;have vF:=g0 hv;have hnb:=vF.nb;have hbn:block.toNat<c.blocks.length:=by omega
 have hbl:=hins block.toNat;refine aa (wUo 1 0 [(0,.o ar)] 22 22 [] [(22,ar)] (qn 24 0 3 (HS.hc U (i:=0) rfl) rfl rfl rfl rfl) rfl fun _=>az (aq rfl rfl rfl) rfl rfl (mi.rblocks_c ex c (HS.call U) (by omega) (by omega) N hT (by assumption)) ?_);rintro _ H9 ⟨dv,ea,x9,Z,ad,V,F9,ay,T,rfl,dn,a0,d2,d1⟩;replace T:HS _ _ _ [_] _:=HS.back U rfl T;replace hT:=hT.mono ay;replace N:=N.mono ay;refine wTo 5 2 [] 24 25 [5,6,21] [(6,(.slice Z V.length ad))] rfl fun _=>ae 2 rfl ?_
 have bk:=(by assumption:dH c=true->BkF c _ V) hv;have hlx:=bk.lx;have hly:=bk.ly;have hyl:=Lst.len (bk.hy block.toNat hbn) vF.regs.1 (fun r h=>gy vF h);refine aT rfl (wfv (v:=(.pointer (some ⟨b1,2,none⟩))) (bu rfl rfl) (aH (v:=(.slice A c.blocks.length J)) (id:= .l b1) (aV (i:=2) rfl rfl (HS.hc T.log0 (i:=0) rfl) rfl rfl) rfl rfl (bx rfl) (kb rfl) (fm (iI block) rfl rfl rfl (wfv (v:=(.pointer (some ⟨sB (.slice A c.blocks.length J),sO (.slice A c.blocks.length J)+block.toNat*Rp.sz BlkT,none⟩))) (bj (α:=BlkT) (j:=block) rfl rfl rfl rfl (SR.sv N T.log0) (by omega) (by omega)) ?_))));obtain⟨c7,b5,b3⟩:=Sv.at (SR.sv N T.log0) (aN (x:=default) (show block.toNat<c.blocks.length from by omega));obtain⟨a3,a7,rfl,ci,co,c0,c3,a9⟩:=b5;refine aH (v:=(.agg ⟨[(.slice a3 (c.blocks.getD block.toNat default).ins.length a7),(iI (c.blocks.getD block.toNat default).fin),(iI (c.blocks.getD block.toNat default).reg),(iI (c.blocks.getD block.toNat default).tgt),(iI (c.blocks.getD block.toNat default).els)]⟩)) (id:= .l (sB (.slice A c.blocks.length J))) (er (i:=0) rfl rfl rfl b3 rfl rfl rfl) rfl rfl (bx rfl) (kb rfl) (fm (.slice Z V.length ad) rfl rfl rfl (fm (iI block) rfl rfl rfl (wfv (v:=(.pointer (some ⟨sB (.slice Z V.length ad),sO (.slice Z V.length ad)+block.toNat*Rp.sz (List Int),none⟩))) (bj (α:=(List Int)) (j:=block) rfl rfl rfl rfl (SR.sv a0 T.log0) (by omega) (by omega)) ?_)));obtain⟨c8,b6,b4⟩:=Sv.at (SR.sv a0 T.log0) (aN (x:=default) (show block.toNat<V.length from by omega));obtain⟨a4,a8,rfl,bb⟩:=b6;refine aH (v:=(.slice a4 (V.getD block.toNat default).length a8)) (id:= .l (sB (.slice Z V.length ad))) (aV (i:=0) rfl rfl b4 rfl rfl) rfl rfl (bx rfl) (kb rfl) (bT (W:=[]) (aq rfl rfl rfl) rfl rfl rfl (mh.rpoints_c ex (c.blocks.getD block.toNat default) (V.getD block.toNat default) (HS.call T.log0) a9 (by omega) (by omega) (by omega) (by omega) bb hT (⟨_,rpo_out vF hbn hbl (bk.hy _ hbn)⟩)) (kb rfl) ?_);rintro _ cc ⟨av,a2,bl,ch,ds,b0,E,rfl,a6,c9⟩;refine⟨Wr.did E.log,fun b9 a5=>?_⟩;replace E:=HS.back T.log0 rfl E;replace E:=HS.lg E T a5;generalize ({cc with log:=b9}:Heap)=c5 at E⊢;have E:HS _ _ _ [_,ch] _:=E;refine fa (.slice av bl.length a2) rfl rfl rfl (bR (aj 1 rfl ?_));obtain⟨dt,b2,ag,b7,dl⟩:=OS.frz a6 E (i:=1) rfl;have ag:HS _ _ _ [_,[]] _:=ag;refine am ⟨.inr rfl,_,rfl,av,a2,bl,_,(fT (fT (fT (an) ay) b0) b2),(HS.forget ag),rfl,b7,(fun _ _ _=>ptf_of (bk.hy _ hbn) (by assumption)),(by exact fun h=>by rw[hv]at h;simp at h;omega)⟩
end Go.Proofs.YtknafdcgpaejlaaDoor.mj
