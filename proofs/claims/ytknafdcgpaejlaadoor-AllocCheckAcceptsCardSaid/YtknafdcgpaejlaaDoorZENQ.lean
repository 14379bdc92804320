/-
 Plain laws: what the functions compute answers as the statement says. No condition beyond those that each statement names.
-/
import Derived.Test.YtknafdcgpaejlaaDoorZENV
noncomputable section
namespace Go.Proofs.YtknafdcgpaejlaaDoor.nq
open Go.R m1 m2 m3 m4 m5 m6 ma ml mb mc md mf mg mh mi mj na nb nc ni nv
set_option linter.unusedVariables false
set_option linter.unusedSimpArgs false
def conV2(sp:List Bool)(x:Int):Bool:= !(sp.getD x.toNat false)
def uns(sp:List Bool)(l:List Int):List Int:=l.filter (conV2 sp)
theorem i6{sp:List Bool}{l o:List Int}{i:Nat}(h:i<l.length)(ho:o=uns sp (l.take i)):(sp.getD (l.getD i 0).toNat false=false->o++[l.getD i 0]=uns sp (l.take (i+1)))/\(sp.getD (l.getD i 0).toNat false=true->o=uns sp (l.take (i+1))):=by
 unfold uns at ho⊢;rw[bt h (d:=0),List.filter_append,←ho];constructor
 ·intro hc;unfold conV2;rw[a1e,hc];rfl
 intro hc;unfold conV2;rw[a1e,hc];simp
theorem jv{sp:List Bool}{l:List Int}:(uns sp l).length<=l.length:=a13 _ _
theorem ld{sp:List Bool}{l:List Int}{x:Int}(h:x∈uns sp l):x∈l/\sp.getD x.toNat false=false:=by unfold uns conV2 at h;rw[a1G]at h;exact⟨h.1,by simpa using h.2⟩
theorem fK{sp:List Bool}{i j:Nat}:(sp.set i true).getD j false=true↔(i=j/\i<sp.length)\/sp.getD j false=true:=by
 rw[cd];by_cases h:i=j/\j<sp.length
 ·obtain⟨rfl,E⟩:=h;rw[if_pos ⟨rfl,E⟩];exact⟨fun _=> .inl ⟨rfl,E⟩,fun _=>rfl⟩
 rw[if_neg h];exact⟨.inr,fun N=>N.elim (fun A=>absurd ⟨A.1,A.1▸A.2⟩ h) id⟩
theorem set_false{sp:List Bool}{i j:Nat}(h:(sp.set i true).getD j false=false):sp.getD j false=false:=by
 rcases hb:sp.getD j false with _|_
 ·rfl
 rw[fK.2 (.inr hb)]at h;exact h
theorem uns_lt{sp:List Bool}{l:List Int}{x:Int}(hx:x∈l)(hl:x.toNat<sp.length):(uns (sp.set x.toNat true) l).length<l.length:=by
 unfold uns;rcases a0j (l.filter (conV2 (sp.set x.toNat true))).length l.length with h|h
 ·exact h
 exfalso;have E:=a13 (conV2 (sp.set x.toNat true)) l;have A:=(List.length_filter_eq_length_iff.1 (Nat.le_antisymm E h)) x hx;unfold conV2 at A;rw[fK.2 (.inl ⟨rfl,hl⟩)]at A;cases A
structure SpF(c:VFnT)(sp:List Bool)(sl:List SpiT):Prop where
 len:sp.length=c.regs.toNat
 cnt:sl.length<=3000+sp.count true
theorem lG{l:List Bool}: ∀{i:Nat},i<l.length->l.getD i false=false->(l.set i true).count true=l.count true+1:=by
 induction l with
 |nil=>intro i h;exact absurd h (a0t _)
 |cons b l ih=>
  intro i h A
  cases i with
  |zero=>
   have A:b=false:=A
   subst A
   rw[List.set_cons_zero,List.count_cons_self,List.count_cons_of_ne (by decide)]
  |succ i=>
   rw[a1U,List.count_cons,List.count_cons,ih (Nat.lt_of_succ_lt_succ h) A];omega
theorem SpF.set{c:VFnT}{sp:List Bool}{sl sl':List SpiT}{r:Nat}(h:SpF c sp sl)(hr:r<c.regs.toNat)(hs:sp.getD r false=false)(hl:sl'.length=sl.length+1):SpF c (sp.set r true) sl':=by have A:=h.len;have E:=h.cnt;exact⟨a0f.trans A,by rw[lG (by omega) hs];omega⟩
theorem SpF.small{c:VFnT}{sp:List Bool}{sl:List SpiT}(h:SpF c sp sl)(v:VF c):sl.length<=6000:=by have A:=h.len;have E:=h.cnt;have N:=v.regs;have T:=a2b (a:=true) (l:=sp);omega
theorem spf_0{c:VFnT}{sp:List Bool}{sl:List SpiT}{q:Nat}(A:sp.length=c.regs.toNat)(E:sl.length<=q)(N:q<=3000):SpF c sp sl:=⟨A,by omega⟩
theorem mem_mono{l m:List Int}{lo hi:Int}(h: ∀x∈l,lo<=x/\x<hi)(hm: ∀x∈m,x∈l): ∀x∈m,lo<=x/\x<hi:=fun x hx=>h x (hm x hx)
theorem uns_uns{sp:List Bool}{l:List Int}{i:Nat}:uns (sp.set i true) (uns sp l)=uns (sp.set i true) l:=by
 unfold uns;rw[List.filter_filter];refine List.filter_congr fun x _=>?_
 unfold conV2;rcases h:(sp.set i true).getD x.toNat false with _|_
 ·rw[set_false h];rfl
 rfl
theorem uns_lt2{sp:List Bool}{l:List Int}{x:Int}(hx:x∈uns sp l)(hl:x.toNat<sp.length):(uns (sp.set x.toNat true) l).length<(uns sp l).length:=by rw[←uns_uns];exact uns_lt hx hl
open Classical in
noncomputable def iX (S : Nat -> Prop) : List Int := if h : ∃ l, Lst l S then h.choose else []
theorem lstN_eq{S:Nat->Prop}{l:List Int}(h:Lst l S):l=iX S:=by
 have e: ∃l,Lst l S:=⟨l,h⟩
 unfold iX;rw[dif_pos e];exact Lst.uniq h e.choose_spec fun _=>Iff.rfl
open Classical in
noncomputable def wN (c : VFnT) : List Int := if h : ∃ o, CntF c (usedC c) o then h.choose else []
theorem wN_eq{c:VFnT}{o:List Int}(h:CntF c (usedC c) o):o=wN c:=by
 have e: ∃o,CntF c (usedC c) o:=⟨o,h⟩
 unfold wN;rw[dif_pos e];have k:=e.choose_spec;generalize e.choose=y at k;have E:=h.len;have N:=k.len;refine List.ext_getElem (by omega) fun j hj A=>?_
 have:=(h.at_ j (by omega)).trans (k.at_ j (by omega)).symm;rwa [a01,a01,a04 hj,a04 A]at this
def FirstC(c:VFnT)(r b k:Nat):Prop:=b<c.blocks.length/\k<(aU c b).ins.length/\acI c b k r/\∀b' k',(b'<b\/b'=b/\k'<k)->k'<(aU c b').ins.length->¬acI c b' k' r
open Classical in
noncomputable def fcN (c : VFnT) (r : Nat) : Nat × Nat := if h : ∃ p : Nat × Nat, FirstC c r p.1 p.2 then h.choose else (0, 0)
theorem fc_uniq{c:VFnT}{r b k:Nat}(h:FirstC c r b k):fcN c r=(b,k):=by
 have e: ∃p:Nat×Nat,FirstC c r p.1 p.2:=⟨(b,k),h⟩
 unfold fcN;rw[dif_pos e];have A:=e.choose_spec;generalize e.choose=p at A;obtain⟨b',k'⟩:=p;simp only at A;rcases a1u b b' with E|E|E
 ·exact absurd h.2.2.1 (A.2.2.2 b k (.inl E) h.2.1)
 ·subst E;rcases a1u k k' with N|N|N
  ·exact absurd h.2.2.1 (A.2.2.2 b k (.inr ⟨rfl,N⟩) h.2.1)
  ·subst N;rfl
  exact absurd A.2.2.1 (h.2.2.2 b k' (.inr ⟨rfl,N⟩) A.2.1)
 exact absurd A.2.2.1 (h.2.2.2 b' k' (.inl E) A.2.1)
noncomputable def acX (c : VFnT) (x : Int) : SpiT := ⟨x, 1, (fcN c x.toNat).1, (fcN c x.toNat).2, []⟩
noncomputable def acP (c : VFnT) : List Int -> List Bool × List SpiT -> List Bool × List SpiT
 | [],s=>s
 |x::l,s=>acP c l (s.1.set x.toNat true,s.2++[acX c x])
theorem acP_step{c:VFnT}{l:List Int}{q:Nat}{sp:List Bool}{sl:List SpiT}(h:q<l.length):acP c (l.drop q) (sp,sl)=acP c (l.drop (q+1)) (sp.set (l.getD q 0).toNat true,sl++[acX c (l.getD q 0)]):=by rw[a0T h,a01,a04 h];rfl
theorem acP_end{c:VFnT}{l:List Int}{q:Nat}{s:List Bool×List SpiT}(h:l.length<=q):acP c (l.drop q) s=s:=by rw[a1D h];rfl
noncomputable def acR (c : VFnT) : List Bool × List SpiT := acP c (iX (acS c)) (List.replicate c.regs.toNat false, [])
def ga(w:List Int)(b n:Int):Int:=if w.getD n.toNat 0<=w.getD b.toNat 0 then n else b
def eO(w h:List Int):Int:=h.foldl (ga w) (h.getD 0 0)
theorem j0{w h:List Int}{r:Int}{p:Nat}(hp:p<h.length)(e:r=(h.take p).foldl (ga w) (h.getD 0 0)):ga w r (h.getD p 0)=(h.take (p+1)).foldl (ga w) (h.getD 0 0):=by rw[bt hp (d:=0),List.foldl_append,←e];rfl
theorem best_yes{w h:List Int}{r:Int}{p:Nat}(hp:p<h.length)(e:r=(h.take p).foldl (ga w) (h.getD 0 0))(hc:w.getD (h.getD p 0).toNat 0<=w.getD r.toNat 0):h.getD p 0=(h.take (p+1)).foldl (ga w) (h.getD 0 0):=by rw[←j0 hp e];unfold ga;rw[if_pos hc]
theorem best_no{w h:List Int}{r:Int}{p:Nat}(hp:p<h.length)(e:r=(h.take p).foldl (ga w) (h.getD 0 0))(hc: ¬w.getD (h.getD p 0).toNat 0<=w.getD r.toNat 0):r=(h.take (p+1)).foldl (ga w) (h.getD 0 0):=by rw[←j0 hp e];unfold ga;rw[if_neg hc]
theorem best_one{w h:List Int}(hp:0<h.length):h.getD 0 0=(h.take 1).foldl (ga w) (h.getD 0 0):=by rw[←j0 (p:=0) hp rfl];unfold ga;split<;>rfl
theorem best_end{w h:List Int}{r:Int}{p:Nat}(hp:h.length<=p)(e:r=(h.take p).foldl (ga w) (h.getD 0 0)):r=eO w h:=by rw[e,a0h hp];rfl
def prX(w h:List Int)(b k:Int):SpiT:=⟨eO w h,2,b,k,dV h [eO w h]⟩
def prW(w row:List Int)(b k:Int):Nat->List Bool×List SpiT->List Bool×List SpiT
 |0,s=>s
 |n+1,s=>if(uns s.1 row).length<=5 then s else prW w row b k n (s.1.set (eO w (uns s.1 row)).toNat true,s.2++[prX w (uns s.1 row) b k])
theorem prW_end{w row:List Int}{b k:Int}{s:List Bool×List SpiT}(h:(uns s.1 row).length<=5): ∀n,prW w row b k n s=s
 |0=>rfl
 |n+1=>if_pos h
theorem prW_step{w row:List Int}{b k:Int}{sp:List Bool}{sl:List SpiT}{n:Nat}(h:5<(uns sp row).length):prW w row b k (n+1) (sp,sl)=prW w row b k n (sp.set (eO w (uns sp row)).toNat true,sl++[prX w (uns sp row) b k]):=if_neg (by simp only;omega)
def fuN:Nat:=3001
noncomputable def prK (c : VFnT) (w : List Int) (b : Nat) : Nat -> List Bool × List SpiT -> List Bool × List SpiT
 |0,s=>s
 |m+1,s=>prK c w b m (prW w (iX (ptS c b ((aU c b).ins.length-m))) (b:Int) (((aU c b).ins.length-m:Nat):Int) fuN s)
theorem prK_at{c:VFnT}{w:List Int}{b k:Nat}{s:List Bool×List SpiT}(h:k<=(aU c b).ins.length):prK c w b ((aU c b).ins.length+1-k) s=prK c w b ((aU c b).ins.length+1-(k+1)) (prW w (iX (ptS c b k)) (b:Int) (k:Int) fuN s):=by rw[show(aU c b).ins.length+1-k=((aU c b).ins.length+1-(k+1))+1 by omega];generalize hm:(aU c b).ins.length+1-(k+1)=m;show prK c w b m (prW w (iX (ptS c b ((aU c b).ins.length-m))) (b:Int) (((aU c b).ins.length-m:Nat):Int) fuN s)=_;rw[show(aU c b).ins.length-m=k by omega]
theorem prK_end{c:VFnT}{w:List Int}{b k:Nat}{s:List Bool×List SpiT}(h:(aU c b).ins.length+1<=k):prK c w b ((aU c b).ins.length+1-k) s=s:=by rw[show(aU c b).ins.length+1-k=0 by omega];rfl
noncomputable def prB (c : VFnT) (w : List Int) : Nat -> List Bool × List SpiT -> List Bool × List SpiT
 |0,s=>s
 |m+1,s=>prB c w m (prK c w (c.blocks.length-(m+1)) ((aU c (c.blocks.length-(m+1))).ins.length+1) s)
theorem prB_at{c:VFnT}{w:List Int}{b:Nat}{s:List Bool×List SpiT}(h:b<c.blocks.length):prB c w (c.blocks.length-b) s=prB c w (c.blocks.length-(b+1)) (prK c w b ((aU c b).ins.length+1-0) s):=by rw[show c.blocks.length-b=(c.blocks.length-(b+1))+1 by omega];show prB c w (c.blocks.length-(b+1)) (prK c w (c.blocks.length-(c.blocks.length-(b+1)+1)) ((aU c (c.blocks.length-(c.blocks.length-(b+1)+1))).ins.length+1) s)=_;rw[show c.blocks.length-(c.blocks.length-(b+1)+1)=b by omega];rfl
theorem prB_end{c:VFnT}{w:List Int}{b:Nat}{s:List Bool×List SpiT}(h:c.blocks.length<=b):prB c w (c.blocks.length-b) s=s:=by rw[show c.blocks.length-b=0 by omega];rfl
noncomputable def prR (c : VFnT) : List Bool × List SpiT := prB c (wN c) (c.blocks.length - 0) (acR c)
def hasP(sp:List Bool)(ll:List LocT)(r:Nat)(m:Int)(y:Int):Bool:=decide (y<(r:Int))&&(!(sp.getD y.toNat false)&&decide ((ll.getD y.toNat default).idx=m))
def ownV(sp:List Bool)(ll:List LocT)(r:Nat)(row:List Int)(m:Int):Int:=(row.find? (hasP sp ll r m)).getD (-1)
def frM(f:Nat->Int):Nat->Nat->Nat
 |0,m=>m
 |n+1,m=>if f m<0 then m else frM f n (m+1)
theorem fr_spec{f:Nat->Int}{k:Nat}: ∀(n m:Nat),m<=k->k<=m+n->(∀j,m<=j->j<k->¬f j<0)->(k<m+n->f k<0)->frM f n m=k
 |0,m,A,U,_,_=>by unfold frM;omega
 |n+1,m,A,U,E,N=>by
  unfold frM;rcases a1X A with T|rfl
  ·rw[if_neg (E m (a09 _) T)];exact fr_spec n (m+1) T (by omega) (fun j hj=>E j (by omega)) (fun h=>N (by omega))
  rw[if_pos (N (by omega))]
noncomputable def owF (c : VFnT) (sp : List Bool) (ll : List LocT) (r m : Nat) : Int := ownV sp ll r (iX (Sy (eR c) r)) (m : Int)
noncomputable def coX (c : VFnT) (sp : List Bool) (ll : List LocT) (r : Nat) : SpiT := ⟨r, 3, 0, 0, (List.range 5).map (owF c sp ll r)⟩
noncomputable def coS (c : VFnT) (r : Nat) (s : List Bool × List LocT × List SpiT) : List Bool × List LocT × List SpiT :=
 if s.1.getD r false=true then s else
 if frM (owF c s.1 s.2.1 r) 5 0<5 then(s.1,s.2.1.set r ⟨false,((frM (owF c s.1 s.2.1 r) 5 0:Nat):Int)⟩,s.2.2)
 else(s.1.set r true,s.2.1,s.2.2++[coX c s.1 s.2.1 r])
noncomputable def coV (c : VFnT) : Nat -> List Bool × List LocT × List SpiT -> List Bool × List LocT × List SpiT
 |0,s=>s
 |n+1,s=>coV c n (coS c (c.regs.toNat-(n+1)) s)
theorem coV_at{c:VFnT}{r:Nat}{s:List Bool×List LocT×List SpiT}(h:r<c.regs.toNat):coV c (c.regs.toNat-r) s=coV c (c.regs.toNat-(r+1)) (coS c r s):=by rw[show c.regs.toNat-r=(c.regs.toNat-(r+1))+1 by omega];show coV c (c.regs.toNat-(r+1)) (coS c (c.regs.toNat-(c.regs.toNat-(r+1)+1)) s)=_;rw[show c.regs.toNat-(c.regs.toNat-(r+1)+1)=r by omega]
theorem coV_end{c:VFnT}{r:Nat}{s:List Bool×List LocT×List SpiT}(h:c.regs.toNat<=r):coV c (c.regs.toNat-r) s=s:=by rw[show c.regs.toNat-r=0 by omega];rfl
theorem co_skip{c:VFnT}{r:Nat}{sp:List Bool}{ll:List LocT}{sl:List SpiT}(h:sp.getD r false=true):coS c r (sp,ll,sl)=(sp,ll,sl):=if_pos h
theorem co_set{c:VFnT}{r k:Nat}{sp:List Bool}{ll:List LocT}{sl:List SpiT}(h:sp.getD r false=false)(hk:k<5)(A: ∀j,j<k->¬owF c sp ll r j<0)(E:owF c sp ll r k<0):coS c r (sp,ll,sl)=(sp,ll.set r ⟨false,(k:Int)⟩,sl):=by
 have e:frM (owF c sp ll r) 5 0=k:=fr_spec 5 0 (a0C _) (by omega) (fun j _=>A j) fun _=>E
 unfold coS;simp only;rw[h,e,if_neg (by decide),if_pos hk]
theorem co_spill{c:VFnT}{r:Nat}{sp:List Bool}{ll:List LocT}{sl:List SpiT}(h:sp.getD r false=false)(A: ∀j,j<5->¬owF c sp ll r j<0):coS c r (sp,ll,sl)=(sp.set r true,ll,sl++[coX c sp ll r]):=by
 have e:frM (owF c sp ll r) 5 0=5:=fr_spec 5 0 (a0C _) (by omega) (fun j _=>A j) fun h=>absurd h (by omega)
 unfold coS;simp only;rw[h,e,if_neg (by decide),if_neg (by decide)]
noncomputable def coR (c : VFnT) : List Bool × List LocT × List SpiT := coV c (c.regs.toNat - 0) ((prR c).1, List.replicate c.regs.toNat default, (prR c).2)
def fiS(sp:List Bool)(r:Nat)(s:List LocT×Int):List LocT×Int:=if sp.getD r false=true then(s.1.set r ⟨true,s.2⟩,s.2+1) else s
def fiV(c:VFnT)(sp:List Bool):Nat->List LocT×Int->List LocT×Int
 |0,s=>s
 |n+1,s=>fiV c sp n (fiS sp (c.regs.toNat-(n+1)) s)
theorem fiV_at{c:VFnT}{sp:List Bool}{r:Nat}{s:List LocT×Int}(h:r<c.regs.toNat):fiV c sp (c.regs.toNat-r) s=fiV c sp (c.regs.toNat-(r+1)) (fiS sp r s):=by rw[show c.regs.toNat-r=(c.regs.toNat-(r+1))+1 by omega];show fiV c sp (c.regs.toNat-(r+1)) (fiS sp (c.regs.toNat-(c.regs.toNat-(r+1)+1)) s)=_;rw[show c.regs.toNat-(c.regs.toNat-(r+1)+1)=r by omega]
theorem fiV_end{c:VFnT}{sp:List Bool}{r:Nat}{s:List LocT×Int}(h:c.regs.toNat<=r):fiV c sp (c.regs.toNat-r) s=s:=by rw[show c.regs.toNat-r=0 by omega];rfl
noncomputable def fiR (c : VFnT) : List LocT × Int := fiV c (coR c).1 (c.regs.toNat - 0) ((coR c).2.1, c.params)
open Classical in
noncomputable def allV (c : VFnT) : AllT × Int :=
 if bJ c=true then
  if ∃r,ptS c 0 0 r then(⟨[],[],0⟩,205)
  else if 3000<(fiR c).2 then(⟨[],[],0⟩,6) else(⟨(fiR c).1,(coR c).2.2,(fiR c).2⟩,0)
 else(⟨[],[],0⟩,1)
theorem all_arg{c:VFnT}(h:bJ c=false):allV c=(⟨[],[],0⟩,1):=if_neg (by rw[h];decide)
theorem all_un{c:VFnT}(h:bJ c=true)(k: ∃r,ptS c 0 0 r):allV c=(⟨[],[],0⟩,205):=(if_pos h).trans (if_pos k)
theorem all_lim{c:VFnT}{l:List LocT}{n:Int}(h:bJ c=true)(k: ∀r,¬ptS c 0 0 r)(e:(l,n)=fiR c)(hn:3000<n):allV c=(⟨[],[],0⟩,6):=by refine(if_pos h).trans ((if_neg fun⟨r,hr⟩=>k r hr).trans ?_);rw[←e];exact if_pos hn
theorem all_ok{c:VFnT}{sp:List Bool}{E l:List LocT}{sl:List SpiT}{n:Int}(h:bJ c=true)(k: ∀r,¬ptS c 0 0 r)(e:(l,n)=fiR c)(A:(sp,E,sl)=coR c)(hn: ¬3000<n):allV c=(⟨l,sl,n⟩,0):=by refine(if_pos h).trans ((if_neg fun⟨r,hr⟩=>k r hr).trans ?_);rw[←e,←A];exact if_neg hn
end Go.Proofs.YtknafdcgpaejlaaDoor.nq
