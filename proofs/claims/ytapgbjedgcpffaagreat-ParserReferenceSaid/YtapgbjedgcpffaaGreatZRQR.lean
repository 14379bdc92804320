/-
Plain laws: what the functions compute answers as the statement says. No condition beyond those that each statement names.
-/
import Derived.Test.YtapgbjedgcpffaaGreatZRQE
noncomputable section
namespace Go.Proofs.YtapgbjedgcpffaaGreat.qr
open Go.R w1 w3 l1 pt pa pb pc pd pe pf pg ph pi_ qa qb qc qp qd qe
set_option linter.unusedVariables false
set_option linter.unusedSimpArgs false
theorem ju{α β γ:Type}(m:Rs α)(f:α->Nat->Rs β)(g:β->Nat->Rs γ):bnd (bnd m f) g=bnd m fun x i=>bnd (f x i) g:=by
 cases m with
 |error p=>rfl
 |ok q=>rfl
theorem Oc.par{α β:Type}{A:Nat->Rs α}{B:Nat->Rs Unit}{K:Nat->α->Nat->Rs β}{b T E:Bool}{i j O:Int}{p:α}{y:β}(h:Oc (fun n=>bnd (A n) fun p i=>bnd (B i) fun _ i=> .ok (p,i)) b i p j T)(k:Oc (fun n=>K n p j.toNat) T j y O E):Oc (fun n=>bnd (A n) fun p i=>bnd (B i) fun _ i=>K n p i) b i y O E:=
 (Oc.seq h k).eqf fun _=>funext fun n=>by rw[ju];congr 1;funext p i;rw[ju];rfl
def parG(ts:List Token)(n:Nat)(l:List Str)(i:Nat):Rs (List Str):=match l with
 | []=>bnd (if isS ts i [41] then .ok (([]:List Str),i) else namM ts n i) fun p i=>bnd (eS ts [41] i) fun _ i=> .ok (p,i)
 |l=>bnd (namL ts n l i) fun p i=>bnd (eS ts [41] i) fun _ i=> .ok (p,i)
theorem parG_s(ts:List Token)(n:Nat)(a:Str)(l:List Str)(i:Nat):parG ts (n+1) (a::l) i=if isS ts i [44]=true then bnd (eb ts (i+1)) (fun b i=>parG ts n (a::l++[b]) i) else bnd (eS ts [41] i) fun _ i=> .ok (a::l,i):=by
 show bnd (namL ts (n+1) (a::l) i) _=_;rw[namL.eq_2];split
 ·rw[ju];rfl
 rfl
theorem parX{ts:List Token}{r:PrsT}{l:List Str}{j:Int}{b:Bool}(Y:du ts)(T:0<=r.i)(U:bE r.e=true\/atB ts r 0 [41]=true)(f:Oc (fun _=>eS ts [41] r.i.toNat) (bE r.e) r.i () j b):Oc (fun n=>parG ts n l r.i.toNat) (bE r.e) r.i l j b:=by
 refine⟨f.1,fun hb=>?_⟩;have hs:=(at_S Y V (U.resolve_left (by rw[hb];decide))).2.1;have k2:=jQ (w:=[41]) T hs;obtain⟨E,O,_⟩:=(f.2 hb).uniq k2;rw[E,O];cases l with
 |nil=>exact Outc.seq (f:=fun n=>if isS ts r.i.toNat [41]=true then .ok (([]:List Str),r.i.toNat) else namM ts n r.i.toNat) (i:=r.i) (Outc.iteT hs (.val M)) (fun _=>Outc.seq k2 (fun _=> .val M) (fun h=>by cases h)) (fun h=>by cases h)
 |cons a l=>exact Outc.succ (Outc.iteF (isS_ne hs e_) (Outc.seq k2 (fun _=> .val M) (fun h=>by cases h))) (fun n=>parG_s ..)
theorem parS0{ts:List Token}{r:PrsT}{l:List Str}{x:Str}{y:List Str}{j O:Int}{b E:Bool}(T:du ts)(U:l.length=0)(hc:bE r.e=false/\atB ts r 0 [41]=false)(f:Oc (fun _=>eb ts r.i.toNat) (bE r.e) r.i x j b)(h:Oc (fun n=>parG ts n (l++[x]) j.toNat) b j y O E):Oc (fun n=>parG ts n l r.i.toNat) (bE r.e) r.i y O E:=by
 obtain rfl:=a0i U;refine(Oc.seq (g:=fun n x i=>parG ts n [x] i) f h).eqf fun hb=>funext fun n=>?_
 show bnd (if isS ts r.i.toNat [41]=true then .ok (([]:List Str),r.i.toNat) else namM ts n r.i.toNat) _=_;rw[if_neg (jv T V hc.2 hb)];unfold namM;rw[ju];rfl
theorem parS{ts:List Token}{r:PrsT}{l:List Str}{x:Str}{y:List Str}{j k U:Int}{b c Y:Bool}(hk:du ts)(T:0<=r.i)(hl:0<l.length)(hc:bE r.e=false/\atB ts r 0 [41]=false)(g:Oc (fun _=>eS ts [44] r.i.toNat) (bE r.e) r.i () k c)(f:Oc (fun _=>eb ts k.toNat) c k x j b)(h:Oc (fun n=>parG ts n (l++[x]) j.toNat) b j y U Y):Oc (fun n=>parG ts n l r.i.toNat) (bE r.e) r.i y U Y:=by
 cases l with
 |nil=>exact absurd hl e_
 |cons a l=>
  refine⟨fun hb=>(by rw[hc.1]at hb;cases hb),fun hb=>?_⟩
  by_cases hs:isS ts r.i.toNat [44]=true
  ·obtain⟨E,O,_⟩:=(g.2 hb).uniq (jQ T hs);subst O;refine Outc.succ (Outc.iteT hs ?_) (fun n=>parG_s ..);rw[show r.i.toNat+1=(r.i+1).toNat by omega];exact(Oc.seq f h).out E
  obtain⟨E,O,_⟩:=(g.2 hb).uniq (nF T hs)
  obtain⟨Z,f2⟩:=f.1 E
  obtain⟨g1,g2⟩:=h.1 Z
  refine Outc.succ (Outc.iteF hs ?_) (fun n=>parG_s ..)
  rw[g1,show U=r.i by rw[g2,f2,O]]
  exact Outc.seq (x:=()) (nF T (jv hk V hc.2 hc.1)) (fun q=>by cases q) (fun _=>⟨V,V⟩)
theorem bodX{ts:List Token}{r:PrsT}{l:List StmT}{j:Int}{b:Bool}(Y:du ts)(T:0<=r.i)(U:bE r.e=true\/atB ts r 0 [114,101,116,117,114,110]=true)(f:Oc (fun _=>keyM ts [114,101,116,117,114,110] r.i.toNat) (bE r.e) r.i () j b):Oc (fun n=>iy ts n l r.i.toNat) (bE r.e) r.i l j b:=by
 refine⟨f.1,fun hb=>?_⟩;have hs:=(at_K Y V (U.resolve_left (by rw[hb];decide))).2.1;have k2:Outc (fun _=>keyM ts [114,101,116,117,114,110] r.i.toNat) () (r.i+1) false:=by unfold keyM;rw[if_pos hs];exact .val M
 obtain⟨E,O,_⟩:=(f.2 hb).uniq k2;rw[E,O];exact Outc.succ (Outc.iteT (f:=fun _=> .ok (l,r.i.toNat+1)) hs (.val M)) (fun n=>iy.eq_2 ..)
end Go.Proofs.YtapgbjedgcpffaaGreat.qr
