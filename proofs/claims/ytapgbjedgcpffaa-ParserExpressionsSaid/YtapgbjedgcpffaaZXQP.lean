/-
Plain laws: what the functions compute answers as the statement says. No condition beyond those that each statement names.
-/
import Derived.Test.YtapgbjedgcpffaaZXQC
noncomputable section
namespace Go.Proofs.Ytapgbjedgcpffaa.qp
open Go.R w1 w3 l1 pt pa pb pc pd pe pf pg ph pi_ qa qb qc
set_option linter.unusedVariables false
set_option linter.unusedSimpArgs false
theorem aB{α β:Type}{m:Rs α}{f:α->Nat->Rs β}{y:β}{j:Nat}(h:bnd m f= .ok (y,j)): ∃x i,m= .ok (x,i)/\f x i= .ok (y,j):=by
 unfold bnd at h;split at h
 ·cases h
 exact⟨_,_,rfl,h⟩
theorem bD{ts:List Token}{w:List UInt8}{i j:Nat}{u:Unit}(h:dW ts w i= .ok (u,j)):j=i+1:=by
 unfold dW at h;split at h
 ·injection h with h;injection h with _ h;exact h.symm
 cases h
theorem dw{ts:List Token}{i j:Nat}{u:Str}(h:dl ts i= .ok (u,j)):j=i+1:=by
 unfold dl at h;split at h
 ·injection h with h;injection h with _ h;exact h.symm
 cases h
theorem bc{α:Type}{x y:α}{i j:Nat}(h:(.ok (x,i):Rs α)= .ok (y,j)):i=j:=by injection h with h;injection h
theorem adv(ts:List Token): ∀n,(∀i x j,bN ts n i= .ok (x,j)->i<j)/\(∀k i x j,kF ts n k i= .ok (x,j)->i<j)/\(∀k a i x j,eY ts n k a i= .ok (x,j)->i<=j)/\(∀i x j,hU ts n i= .ok (x,j)->i<j)/\(∀i x j,priM ts n i= .ok (x,j)->i<j)
 |0=>⟨fun _ _ _ h=>(by rw[bN.eq_1]at h;cases h),fun _ _ _ _ h=>(by rw[kF.eq_1]at h;cases h),fun _ _ _ _ _ h=>(by rw[eY.eq_1]at h;cases h),fun _ _ _ h=>(by rw[hU.eq_1]at h;cases h),fun _ _ _ h=>(by rw[priM.eq_1]at h;cases h)⟩
 |n+1=>by
  obtain⟨e,b,l,u,p⟩:=adv ts n;refine⟨fun i x j h=>?_,fun k i x j h=>?_,fun k a i x j h=>?_,fun i x j h=>?_,fun i x j h=>?_⟩
  ·rw[bN.eq_2]at h;obtain⟨c,E,A,z⟩:=aB h;have O:=b _ _ _ _ A;split at z
   ·obtain⟨a,i2,T,U⟩:=aB z;obtain⟨_,i3,Y,Z⟩:=aB U;obtain⟨_,i4,h7,h8⟩:=aB Z;have V:=e _ _ _ T;have q3:=bD Y;have q4:=e _ _ _ h7;have q5:=bc h8;omega
   have:=bc z;omega
  ·rw[kF.eq_2]at h;split at h
   ·exact u _ _ _ h
   obtain⟨a,E,A,z⟩:=aB h;have O:=b _ _ _ _ A;have V:=l _ _ _ _ _ z;omega
  ·rw[eY.eq_2]at h;split at h
   ·have:=bc h;omega
   obtain⟨c,E,A,z⟩:=aB h;have O:=b _ _ _ _ A;have V:=l _ _ _ _ _ z;omega
  ·rw[hU.eq_2]at h;split at h
   ·split at h
    ·have:=bc h;omega
    obtain⟨c,E,A,z⟩:=aB h;have O:=u _ _ _ A;have:=bc z;omega
   split at h
   ·obtain⟨c,E,A,z⟩:=aB h;have O:=u _ _ _ A;have:=bc z;omega
   split at h
   ·obtain⟨c,E,A,z⟩:=aB h;have O:=u _ _ _ A;have:=bc z;omega
   split at h
   ·obtain⟨c,E,A,z⟩:=aB h;obtain⟨_,i2,T,U⟩:=aB z;have O:=e _ _ _ A;have V:=bD T;have:=bc U;omega
   exact p _ _ _ h
  rw[priM.eq_2]at h;split at h
  ·split at h
   ·have:=bc h;omega
   cases h
  obtain⟨c,E,A,z⟩:=aB h;have O:=dw A;split at z
  ·obtain⟨_,i2,T,U⟩:=aB z;obtain⟨_,i3,Y,Z⟩:=aB U;have V:=e _ _ _ T;have q3:=bD Y;have:=bc Z;omega
  have:=bc z;omega
theorem Oc.adv{ts:List Token}{i j:Int}{b T:Bool}{x:ExpT}(E:0<=i)(h:Oc (fun n=>bN ts n i.toNat) b i x j T)(U:T=false):i<j:=by
 rcases h.2 (Oc.back h U) with⟨_,k,O,V,A⟩|⟨z,_⟩
 ·have:=(qp.adv ts V).1 _ _ _ (A V (a05 _));omega
 rw[U]at z;cases z
def argG(ts:List Token)(n:Nat)(l:List ExpT)(i:Nat):Rs (List ExpT):=match l with
 | []=>if isS ts i [41] then .ok ([],i+1) else bnd (bN ts n i) fun a i=>argL ts n [a] i
 |l=>argL ts n l i
theorem isS_ne{ts:List Token}{i:Nat}{w v:List UInt8}(h:isS ts i w=true)(z:v≠w): ¬isS ts i v=true:=fun k=>by unfold isS at h k;rw[a03,decide_eq_true_eq,decide_eq_true_eq]at h k;exact z (k.2.symm.trans h.2)
theorem gN{ts:List Token}{w:List UInt8}{i:Int}(z:0<=i)(hs:isS ts i.toNat w=true):Outc (fun _=>dW ts w i.toNat) () (i+1) false:=by unfold dW;rw[if_pos hs];exact .val (by omega)
theorem kt{ts:List Token}{w:List UInt8}{i:Int}(z:0<=i)(hs: ¬isS ts i.toNat w=true):Outc (fun _=>dW ts w i.toNat) () i true:=by unfold dW;rw[if_neg hs];exact .fail (by omega)
theorem argX{ts:List Token}{r:PrsT}{l:List ExpT}{j:Int}{b:Bool}(U:bt ts)(E:0<=r.i)(T:bE r.e=true\/atB ts r 0 [41]=true)(f:Oc (fun _=>dW ts [41] r.i.toNat) (bE r.e) r.i () j b):Oc (fun n=>argG ts n l r.i.toNat) (bE r.e) r.i l j b:=by
 refine⟨f.1,fun O=>?_⟩;have hs:=(at_S U rfl (T.resolve_left (by rw[O];decide))).2.1;have k2:=gN (w:=[41]) E hs;obtain⟨z,A,_⟩:=(f.2 O).uniq k2;rw[z,A];cases l with
 |nil=>exact Outc.iteT (f:=fun _=> .ok ([],r.i.toNat+1)) hs (.val (by omega))
 |cons a l=>exact Outc.succ (Outc.iteF (isS_ne hs (by decide)) (Outc.seq k2 (fun _=> .val (by omega)) (fun h=>by cases h))) (fun n=>argL.eq_2 ..)
theorem argS0{ts:List Token}{r:PrsT}{x:ExpT}{y:List ExpT}{j A:Int}{b z:Bool}(O:bt ts)(hc:bE r.e=false/\atB ts r 0 [41]=false)(f:Oc (fun n=>bN ts n r.i.toNat) (bE r.e) r.i x j b)(h:Oc (fun n=>argG ts n ([]++[x]) j.toNat) b j y A z):Oc (fun n=>argG ts n [] r.i.toNat) (bE r.e) r.i y A z:=
 Oc.iteF (p:=isS ts r.i.toNat [41]=true) (f:=fun _=> .ok ([],r.i.toNat+1)) (fun E=>gz O rfl hc.2 E) (Oc.seq f h)
theorem argS{ts:List Token}{r:PrsT}{l:List ExpT}{x:ExpT}{y:List ExpT}{j k O:Int}{b c T:Bool}(hk:bt ts)(E:0<=r.i)(hl:0<l.length)(hc:bE r.e=false/\atB ts r 0 [41]=false)(g:Oc (fun _=>dW ts [44] r.i.toNat) (bE r.e) r.i () k c)(f:Oc (fun n=>bN ts n k.toNat) c k x j b)(h:Oc (fun n=>argG ts n (l++[x]) j.toNat) b j y O T):Oc (fun n=>argG ts n l r.i.toNat) (bE r.e) r.i y O T:=by
 cases l with
 |nil=>exact absurd hl (by decide)
 |cons a l=>
  refine⟨fun hb=>(by rw[hc.1]at hb;cases hb),fun hb=>?_⟩
  by_cases hs:isS ts r.i.toNat [44]=true
  ·obtain⟨z,A,_⟩:=(g.2 hb).uniq (gN E hs);subst A;refine Outc.succ (Outc.iteT hs ?_) (fun n=>argL.eq_2 ..);rw[show r.i.toNat+1=(r.i+1).toNat by omega];exact(Oc.seq f h).out z
  obtain⟨z,A,_⟩:=(g.2 hb).uniq (kt E hs)
  obtain⟨U,V⟩:=f.1 z
  obtain⟨Y,Z⟩:=h.1 U
  refine Outc.succ (Outc.iteF hs ?_) (fun n=>argL.eq_2 ..)
  rw[Y,show O=r.i by rw[Z,V,A]]
  have hn: ¬isS ts r.i.toNat [41]=true:=gz hk rfl hc.2 hc.1
  exact Outc.seq (x:=()) (kt E hn) (fun q=>by cases q) (fun _=>⟨rfl,rfl⟩)
theorem argI{ts:List Token}{i j:Int}{b h:Bool}{l:List ExpT}(z:0<=i)(hs:isS ts i.toNat [40]=true)(A:b=false)(f:Oc (fun n=>argG ts n [] (i+1).toNat) b (i+1) l j h):Oc (fun n=>argM ts n i.toNat) b i l j h:=by refine Oc.of A ?_;have e:(i+1).toNat=(i+1).toNat:=rfl;exact Outc.seq (gN z hs) (fun _=>f.out A) (fun q=>by cases q)
theorem nm_ok{ts:List Token}{r:PrsT}{x:Str}{j:Int}{b:Bool}(E:0<=r.i)(h:anQ ts r 0=true)(f:Oc (fun _=>dl ts r.i.toNat) (bE r.e) r.i x j b):j=r.i+1/\b=false:=by
 have O:=an_b h;unfold anQ at h;rw[a03]at h;have k:Outc (fun _=>dl ts r.i.toNat) (ts.getD r.i.toNat default).text (r.i+1) false:=by unfold dl;rw[if_pos (show isN ts r.i.toNat=true from h.2)];exact .val (by omega)
 obtain⟨z,A,_⟩:=(f.2 O).uniq k;exact⟨A,z⟩
end Go.Proofs.Ytapgbjedgcpffaa.qp
