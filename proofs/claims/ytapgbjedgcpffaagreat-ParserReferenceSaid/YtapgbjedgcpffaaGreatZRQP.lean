/-
Plain laws: what the functions compute answers as the statement says. No condition beyond those that each statement names.
-/
import Derived.Test.YtapgbjedgcpffaaGreatZRQC
noncomputable section
namespace Go.Proofs.YtapgbjedgcpffaaGreat.qp
open Go.R w1 w3 l1 pt pa pb pc pd pe pf pg ph pi_ qa qb qc
set_option linter.unusedVariables false
set_option linter.unusedSimpArgs false
theorem aE{α β:Type}{m:Rs α}{f:α->Nat->Rs β}{y:β}{j:Nat}(h:bnd m f= .ok (y,j)): ∃x i,m= .ok (x,i)/\f x i= .ok (y,j):=by
 unfold bnd at h;split at h
 ·cases h
 exact⟨_,_,V,h⟩
theorem ce{ts:List Token}{w:List UInt8}{i j:Nat}{u:Unit}(h:eS ts w i= .ok (u,j)):j=i+1:=by
 unfold eS at h;split at h
 ·injection h with h;injection h with _ h;exact h.symm
 cases h
theorem ej{ts:List Token}{i j:Nat}{u:Str}(h:eb ts i= .ok (u,j)):j=i+1:=by
 unfold eb at h;split at h
 ·injection h with h;injection h with _ h;exact h.symm
 cases h
theorem bu{α:Type}{x y:α}{i j:Nat}(h:(.ok (x,i):Rs α)= .ok (y,j)):i=j:=by injection h with h;injection h
theorem adv(ts:List Token): ∀n,(∀i x j,cH ts n i= .ok (x,j)->i<j)/\(∀k i x j,nO ts n k i= .ok (x,j)->i<j)/\(∀k a i x j,gY ts n k a i= .ok (x,j)->i<=j)/\(∀i x j,kA ts n i= .ok (x,j)->i<j)/\(∀i x j,priM ts n i= .ok (x,j)->i<j)
 |0=>⟨fun _ _ _ h=>(by rw[cH.eq_1]at h;cases h),fun _ _ _ _ h=>(by rw[nO.eq_1]at h;cases h),fun _ _ _ _ _ h=>(by rw[gY.eq_1]at h;cases h),fun _ _ _ h=>(by rw[kA.eq_1]at h;cases h),fun _ _ _ h=>(by rw[priM.eq_1]at h;cases h)⟩
 |n+1=>by
  obtain⟨e,b,l,u,p⟩:=adv ts n;refine⟨fun i x j h=>?_,fun k i x j h=>?_,fun k a i x j h=>?_,fun i x j h=>?_,fun i x j h=>?_⟩
  ·rw[cH.eq_2]at h;obtain⟨c,T,O,E⟩:=aE h;have U:=b _ _ _ _ O;split at E
   ·obtain⟨a,i2,Y,Z⟩:=aE E;obtain⟨_,i3,h5,h6⟩:=aE Z;obtain⟨_,i4,h7,h8⟩:=aE h6;have q2:=e _ _ _ Y;have q3:=ce h5;have q4:=e _ _ _ h7;have q5:=bu h8;omega
   have:=bu E;omega
  ·rw[nO.eq_2]at h;split at h
   ·exact u _ _ _ h
   obtain⟨a,T,O,E⟩:=aE h;have U:=b _ _ _ _ O;have q2:=l _ _ _ _ _ E;omega
  ·rw[gY.eq_2]at h;split at h
   ·have:=bu h;omega
   obtain⟨c,T,O,E⟩:=aE h;have U:=b _ _ _ _ O;have q2:=l _ _ _ _ _ E;omega
  ·rw[kA.eq_2]at h;split at h
   ·split at h
    ·have:=bu h;omega
    obtain⟨c,T,O,E⟩:=aE h;have U:=u _ _ _ O;have:=bu E;omega
   split at h
   ·obtain⟨c,T,O,E⟩:=aE h;have U:=u _ _ _ O;have:=bu E;omega
   split at h
   ·obtain⟨c,T,O,E⟩:=aE h;have U:=u _ _ _ O;have:=bu E;omega
   split at h
   ·obtain⟨c,T,O,E⟩:=aE h;obtain⟨_,i2,Y,Z⟩:=aE E;have U:=e _ _ _ O;have q2:=ce Y;have:=bu Z;omega
   exact p _ _ _ h
  rw[priM.eq_2]at h;split at h
  ·split at h
   ·have:=bu h;omega
   cases h
  obtain⟨c,T,O,E⟩:=aE h;have U:=ej O;split at E
  ·obtain⟨_,i2,Y,Z⟩:=aE E;obtain⟨_,i3,h5,h6⟩:=aE Z;have q2:=e _ _ _ Y;have q3:=ce h5;have:=bu h6;omega
  have:=bu E;omega
theorem Oc.adv{ts:List Token}{i j:Int}{b Y:Bool}{x:ExpT}(T:0<=i)(h:Oc (fun n=>cH ts n i.toNat) b i x j Y)(hb:Y=false):i<j:=by
 rcases h.2 (Oc.back h hb) with⟨_,k,U,Z,O⟩|⟨E,_⟩
 ·have:=(qp.adv ts Z).1 _ _ _ (O Z (a07 _));omega
 rw[hb]at E;cases E
def argG(ts:List Token)(n:Nat)(l:List ExpT)(i:Nat):Rs (List ExpT):=match l with
 | []=>if isS ts i [41] then .ok ([],i+1) else bnd (cH ts n i) fun a i=>argL ts n [a] i
 |l=>argL ts n l i
theorem isS_ne{ts:List Token}{i:Nat}{w v:List UInt8}(h:isS ts i w=true)(E:v≠w): ¬isS ts i v=true:=fun k=>by unfold isS at h k;rw[a03,decide_eq_true_eq,decide_eq_true_eq]at h k;exact E (k.2.symm.trans h.2)
theorem jQ{ts:List Token}{w:List UInt8}{i:Int}(E:0<=i)(hs:isS ts i.toNat w=true):Outc (fun _=>eS ts w i.toNat) () (i+1) false:=by unfold eS;rw[if_pos hs];exact .val M
theorem nF{ts:List Token}{w:List UInt8}{i:Int}(E:0<=i)(hs: ¬isS ts i.toNat w=true):Outc (fun _=>eS ts w i.toNat) () i true:=by unfold eS;rw[if_neg hs];exact .fail M
theorem argX{ts:List Token}{r:PrsT}{l:List ExpT}{j:Int}{b:Bool}(Y:du ts)(T:0<=r.i)(U:bE r.e=true\/atB ts r 0 [41]=true)(f:Oc (fun _=>eS ts [41] r.i.toNat) (bE r.e) r.i () j b):Oc (fun n=>argG ts n l r.i.toNat) (bE r.e) r.i l j b:=by
 refine⟨f.1,fun hb=>?_⟩;have hs:=(at_S Y V (U.resolve_left (by rw[hb];decide))).2.1;have k2:=jQ (w:=[41]) T hs;obtain⟨E,O,_⟩:=(f.2 hb).uniq k2;rw[E,O];cases l with
 |nil=>exact Outc.iteT (f:=fun _=> .ok ([],r.i.toNat+1)) hs (.val M)
 |cons a l=>exact Outc.succ (Outc.iteF (isS_ne hs e_) (Outc.seq k2 (fun _=> .val M) (fun h=>by cases h))) (fun n=>argL.eq_2 ..)
theorem argS0{ts:List Token}{r:PrsT}{x:ExpT}{y:List ExpT}{j O:Int}{b E:Bool}(T:du ts)(hc:bE r.e=false/\atB ts r 0 [41]=false)(f:Oc (fun n=>cH ts n r.i.toNat) (bE r.e) r.i x j b)(h:Oc (fun n=>argG ts n ([]++[x]) j.toNat) b j y O E):Oc (fun n=>argG ts n [] r.i.toNat) (bE r.e) r.i y O E:=
 Oc.iteF (p:=isS ts r.i.toNat [41]=true) (f:=fun _=> .ok ([],r.i.toNat+1)) (fun hb=>jv T V hc.2 hb) (Oc.seq f h)
theorem argS{ts:List Token}{r:PrsT}{l:List ExpT}{x:ExpT}{y:List ExpT}{j k U:Int}{b c Y:Bool}(hk:du ts)(T:0<=r.i)(hl:0<l.length)(hc:bE r.e=false/\atB ts r 0 [41]=false)(g:Oc (fun _=>eS ts [44] r.i.toNat) (bE r.e) r.i () k c)(f:Oc (fun n=>cH ts n k.toNat) c k x j b)(h:Oc (fun n=>argG ts n (l++[x]) j.toNat) b j y U Y):Oc (fun n=>argG ts n l r.i.toNat) (bE r.e) r.i y U Y:=by
 cases l with
 |nil=>exact absurd hl e_
 |cons a l=>
  refine⟨fun hb=>(by rw[hc.1]at hb;cases hb),fun hb=>?_⟩
  by_cases hs:isS ts r.i.toNat [44]=true
  ·obtain⟨E,O,_⟩:=(g.2 hb).uniq (jQ T hs);subst O;refine Outc.succ (Outc.iteT hs ?_) (fun n=>argL.eq_2 ..);rw[show r.i.toNat+1=(r.i+1).toNat by omega];exact(Oc.seq f h).out E
  obtain⟨E,O,_⟩:=(g.2 hb).uniq (nF T hs)
  obtain⟨Z,f2⟩:=f.1 E
  obtain⟨g1,g2⟩:=h.1 Z
  refine Outc.succ (Outc.iteF hs ?_) (fun n=>argL.eq_2 ..)
  rw[g1,show U=r.i by rw[g2,f2,O]]
  have hn: ¬isS ts r.i.toNat [41]=true:=jv hk V hc.2 hc.1
  exact Outc.seq (x:=()) (nF T hn) (fun q=>by cases q) (fun _=>⟨V,V⟩)
theorem argI{ts:List Token}{i j:Int}{b O:Bool}{l:List ExpT}(E:0<=i)(hs:isS ts i.toNat [40]=true)(hb:b=false)(f:Oc (fun n=>argG ts n [] (i+1).toNat) b (i+1) l j O):Oc (fun n=>argM ts n i.toNat) b i l j O:=by refine Oc.of hb ?_;have e:(i+1).toNat=(i+1).toNat:=rfl;exact Outc.seq (jQ E hs) (fun _=>f.out hb) (fun q=>by cases q)
theorem nm_ok{ts:List Token}{r:PrsT}{x:Str}{j:Int}{b:Bool}(T:0<=r.i)(h:anQ ts r 0=true)(f:Oc (fun _=>eb ts r.i.toNat) (bE r.e) r.i x j b):j=r.i+1/\b=false:=by
 have hb:=an_b h;unfold anQ at h;rw[a03]at h;have k:Outc (fun _=>eb ts r.i.toNat) (ts.getD r.i.toNat default).text (r.i+1) false:=by unfold eb;rw[if_pos (show isN ts r.i.toNat=true from h.2)];exact .val M
 obtain⟨E,O,_⟩:=(f.2 hb).uniq k;exact⟨O,E⟩
end Go.Proofs.YtapgbjedgcpffaaGreat.qp
