/-
Plain laws: what the functions compute answers as the statement says. No condition beyond those that each statement names.
-/
import Derived.Test.YtapgbjedgcpffaaZXQE
noncomputable section
namespace Go.Proofs.Ytapgbjedgcpffaa.qr
open Go.R w1 w3 l1 pt pa pb pc pd pe pf pg ph pi_ qa qb qc qp qd qe
set_option linter.unusedVariables false
set_option linter.unusedSimpArgs false
theorem gy{α β γ:Type}(m:Rs α)(f:α->Nat->Rs β)(g:β->Nat->Rs γ):bnd (bnd m f) g=bnd m fun x i=>bnd (f x i) g:=by
 cases m with
 |error p=>rfl
 |ok q=>rfl
theorem Oc.par{α β:Type}{A:Nat->Rs α}{B:Nat->Rs Unit}{K:Nat->α->Nat->Rs β}{b O z:Bool}{i j E:Int}{p:α}{y:β}(h:Oc (fun n=>bnd (A n) fun p i=>bnd (B i) fun _ i=> .ok (p,i)) b i p j O)(k:Oc (fun n=>K n p j.toNat) O j y E z):Oc (fun n=>bnd (A n) fun p i=>bnd (B i) fun _ i=>K n p i) b i y E z:=
 (Oc.seq h k).eqf fun _=>funext fun n=>by rw[gy];congr 1;funext p i;rw[gy];rfl
def parG(ts:List Token)(n:Nat)(l:List Str)(i:Nat):Rs (List Str):=match l with
 | []=>bnd (if isS ts i [41] then .ok (([]:List Str),i) else namM ts n i) fun p i=>bnd (dW ts [41] i) fun _ i=> .ok (p,i)
 |l=>bnd (namL ts n l i) fun p i=>bnd (dW ts [41] i) fun _ i=> .ok (p,i)
theorem parG_s(ts:List Token)(n:Nat)(a:Str)(l:List Str)(i:Nat):parG ts (n+1) (a::l) i=if isS ts i [44]=true then bnd (dl ts (i+1)) (fun b i=>parG ts n (a::l++[b]) i) else bnd (dW ts [41] i) fun _ i=> .ok (a::l,i):=by
 show bnd (namL ts (n+1) (a::l) i) _=_;rw[namL.eq_2];split
 ·rw[gy];rfl
 rfl
theorem parX{ts:List Token}{r:PrsT}{l:List Str}{j:Int}{b:Bool}(U:bt ts)(E:0<=r.i)(T:bE r.e=true\/atB ts r 0 [41]=true)(f:Oc (fun _=>dW ts [41] r.i.toNat) (bE r.e) r.i () j b):Oc (fun n=>parG ts n l r.i.toNat) (bE r.e) r.i l j b:=by
 refine⟨f.1,fun O=>?_⟩;have hs:=(at_S U rfl (T.resolve_left (by rw[O];decide))).2.1;have k2:=gN (w:=[41]) E hs;obtain⟨z,A,_⟩:=(f.2 O).uniq k2;rw[z,A];cases l with
 |nil=>exact Outc.seq (f:=fun n=>if isS ts r.i.toNat [41]=true then .ok (([]:List Str),r.i.toNat) else namM ts n r.i.toNat) (i:=r.i) (Outc.iteT hs (.val (by omega))) (fun _=>Outc.seq k2 (fun _=> .val (by omega)) (fun h=>by cases h)) (fun h=>by cases h)
 |cons a l=>exact Outc.succ (Outc.iteF (isS_ne hs (by decide)) (Outc.seq k2 (fun _=> .val (by omega)) (fun h=>by cases h))) (fun n=>parG_s ..)
theorem parS0{ts:List Token}{r:PrsT}{l:List Str}{x:Str}{y:List Str}{j A:Int}{b z:Bool}(O:bt ts)(T:l.length=0)(hc:bE r.e=false/\atB ts r 0 [41]=false)(f:Oc (fun _=>dl ts r.i.toNat) (bE r.e) r.i x j b)(h:Oc (fun n=>parG ts n (l++[x]) j.toNat) b j y A z):Oc (fun n=>parG ts n l r.i.toNat) (bE r.e) r.i y A z:=by
 obtain rfl:=a0i T;refine(Oc.seq (g:=fun n x i=>parG ts n [x] i) f h).eqf fun E=>funext fun n=>?_
 show bnd (if isS ts r.i.toNat [41]=true then .ok (([]:List Str),r.i.toNat) else namM ts n r.i.toNat) _=_;rw[if_neg (gz O rfl hc.2 E)];unfold namM;rw[gy];rfl
theorem parS{ts:List Token}{r:PrsT}{l:List Str}{x:Str}{y:List Str}{j k O:Int}{b c T:Bool}(hk:bt ts)(E:0<=r.i)(hl:0<l.length)(hc:bE r.e=false/\atB ts r 0 [41]=false)(g:Oc (fun _=>dW ts [44] r.i.toNat) (bE r.e) r.i () k c)(f:Oc (fun _=>dl ts k.toNat) c k x j b)(h:Oc (fun n=>parG ts n (l++[x]) j.toNat) b j y O T):Oc (fun n=>parG ts n l r.i.toNat) (bE r.e) r.i y O T:=by
 cases l with
 |nil=>exact absurd hl (by decide)
 |cons a l=>
  refine⟨fun hb=>(by rw[hc.1]at hb;cases hb),fun hb=>?_⟩
  by_cases hs:isS ts r.i.toNat [44]=true
  ·obtain⟨z,A,_⟩:=(g.2 hb).uniq (gN E hs);subst A;refine Outc.succ (Outc.iteT hs ?_) (fun n=>parG_s ..);rw[show r.i.toNat+1=(r.i+1).toNat by omega];exact(Oc.seq f h).out z
  obtain⟨z,A,_⟩:=(g.2 hb).uniq (kt E hs)
  obtain⟨U,V⟩:=f.1 z
  obtain⟨Y,Z⟩:=h.1 U
  refine Outc.succ (Outc.iteF hs ?_) (fun n=>parG_s ..)
  rw[Y,show O=r.i by rw[Z,V,A]]
  exact Outc.seq (x:=()) (kt E (gz hk rfl hc.2 hc.1)) (fun q=>by cases q) (fun _=>⟨rfl,rfl⟩)
theorem bodX{ts:List Token}{r:PrsT}{l:List StmT}{j:Int}{b:Bool}(T:bt ts)(E:0<=r.i)(O:bE r.e=true\/atB ts r 0 [114,101,116,117,114,110]=true)(f:Oc (fun _=>keyM ts [114,101,116,117,114,110] r.i.toNat) (bE r.e) r.i () j b):Oc (fun n=>fF ts n l r.i.toNat) (bE r.e) r.i l j b:=by
 refine⟨f.1,fun h=>?_⟩;have hs:=(at_K T rfl (O.resolve_left (by rw[h];decide))).2.1;have k2:Outc (fun _=>keyM ts [114,101,116,117,114,110] r.i.toNat) () (r.i+1) false:=by unfold keyM;rw[if_pos hs];exact .val (by omega)
 obtain⟨z,A,_⟩:=(f.2 h).uniq k2;rw[z,A];exact Outc.succ (Outc.iteT (f:=fun _=> .ok (l,r.i.toNat+1)) hs (.val (by omega))) (fun n=>fF.eq_2 ..)
end Go.Proofs.Ytapgbjedgcpffaa.qr
