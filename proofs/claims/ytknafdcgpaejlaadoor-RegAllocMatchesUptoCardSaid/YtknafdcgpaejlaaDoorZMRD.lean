/-
Symbolic runs by computation, data, the laid table.
-/
import Derived.Test.YtknafdcgpaejlaaDoorZMRC
import Derived.Laws.Bits128
import Derived.OpenShut
import Derived.ReadAgain
import Derived.Test.YtknafdcgpaejlaaDoorZMRB
import Derived.Deep.Slices
import Derived.JoinedCond
import Derived.LaidLaws
import Derived.KernelRfl
noncomputable section
namespace Go.R
section
variable {P:Program} {f:Fn} {H:Heap} {rs:List ResultVar} {l:List Value}
theorem rN:cd P f H []=some []:=rfl
theorem rT{t:Tmp}{v:Value}(A:f t=v)(h:cd P f H rs=some l):cd P f H (.tmp t::rs)=some (v::l):=by unfold cd;rw[h,A]
theorem rC{a:Tmp}{t:TypeId}{p:Addr}{v:Value}(A:f a= .pointer (some p))(E:H.loadV P t p=some v)(h:cd P f H rs=some l):cd P f H (.cell a t::rs)=some (v::l):=by unfold cd;rw[A];simp only[E,h]
theorem ldVN{t:TypeId}{b n:Nat}{cs:List Value}(N:aggOf P t=some true)(hs:cM P t=some n)(hc:HC H.get b 0 cs)(T:cs.length=n):H.loadV P t ⟨b,0,none⟩=some (.agg ⟨cs⟩):=by obtain⟨all,U,V,E,A⟩:=hc;unfold Heap.loadV;rw[N];simp only[hs];unfold Heap.loadN;rw[a0O]at A;subst T;simp only[E,cb,cr,bO,a0O,A,a13,cond_true]
end
section
variable {α:Type} [Rp α] {P:Program} {ρ:Operand->Value} {d:Option Tmp} {ty:TypeId} {pos:String} {af:Array Edge} {gd:Option (Nat×Bool)} {B:Base} {F:Fz} {H:Heap} {L R:List Fp} {v:Value} {l:List α} {p:Fp}
theorem ap_boolNe{t yt:TypeId}{x y:Operand}{a b:Bool}(E:ρ x= .bool a)(N:ρ y= .bool b)(A: ∀a b:Bool,aE P (dH .neq t x y a b)=some (.value (.bool (a !=b)))):AP P ρ ⟨d,.binOp .neq t x y yt,ty,pos,af,gd⟩ H (.val (.bool (a !=b)),H):=by
 refine⟨?_⟩;show aBin P ρ _ .neq t (ρ x) y H=_;rw[E];show bD P ρ _ H=_;unfold bD;have T:((Op.binOp .neq t x y yt).operands.toList.all fun x=>iB (ρ x))=true:=by simp[Op.operands,E,N,iB,noA0]
 simp only[T,cond_true];have U:aE P (execOp ρ ⟨d,.binOp .neq t x y yt,ty,pos,af,gd⟩)=some (.value (.bool (a !=b))):=by rw[←A a b];unfold execOp dH;simp only[E,N]
 rw[U];rfl
theorem OS.len'{F:Fz}{a:Option Addr}{n k:Nat}{l:List α}{p:Fp}(h:OS F (.slice a n k) l p):l.length=n:=by obtain⟨A,E,e⟩:=h.shape;injection e with _ e _;exact e.symm
theorem OS.norm{F:Fz}{a:Option Addr}{n k:Nat}{l:List α}{p:Fp}(h:OS F (.slice a n k) l p):OS F (.slice a l.length k) l p:=by rw[h.len'];exact h
theorem rs_arr{e:TypeId}{z:List Value}(A:List α){n:Nat}(hs:HS B F H L R)(U:cX P e=some z)(E:RL F z A)(T:A.length=n):
  ∃r:Rs,AP P ρ ⟨d,.alloc e,ty,pos,af,gd⟩ H (.val r.v,r.H)/\(∃b,r.v= .pointer (some ⟨b,0,none⟩)/\OS F (.slice (some ⟨b,0,none⟩) n n) A r.p/\HS B F r.H (L++[r.p]) R/\Wr H r.H []/\∃cs,r.p=[(b,.cells cs none false)]):=by
 subst T
 refine⟨⟨_,_,[(H.next,.cells z none false)]⟩,ap_alloc U,_,rfl,?_,hs.push _,.nil fun b N=>(by simpa using N),z,rfl⟩
 have:=E.length
 exact .inr ⟨H.next,0,_,z,none,rfl,rfl,_,_,_,rfl,fun _=>(by omega),a0a _,by rw[a0O,←this,a18];exact E,.inl rfl⟩
theorem lw{x i:Operand}{t e:TypeId}{U:IntKind}{j:Int}{b n:Nat}(N:ρ x= .pointer (some ⟨b,0,none⟩))(hi:ρ i= .int U j)(E:P.underlying t=some (.array n e))(T:cM P e=some (Rp.sz α))(h0:0<=j)(V:j<n):
  AP P ρ ⟨d,.indexAddr t x i,ty,pos,af,gd⟩ H (.val (.pointer (some ⟨sB (.slice (some ⟨b,0,none⟩) n n),sO (.slice (some ⟨b,0,none⟩) n n)+j.toNat*Rp.sz α,none⟩)),H):=by
 refine⟨?_⟩
 obtain⟨m,rfl⟩:=a0Z h0
 show ovl (cm P t (ρ x) (ρ i)) H=_
 rw[N,hi]
 unfold cm
 rw[E]
 show ovl (match cM P e with|some sz=>bif Nat.ble (m+1) n then some (.pointer (some ⟨b,0+m*sz,none⟩)) else none|none=>none) H=_
 rw[T]
 have A:Nat.ble (m+1) n=true:=a0u (by omega)
 simp only[A,cond_true]
 rfl
theorem rs_cutA{x:Operand}{lo hi:Option Operand}{t e:TypeId}{i j q b n:Nat}(h:OS F (.slice (some ⟨b,0,none⟩) n n) l p)(hs:HS B F H L R)(hq:L[q]?=some p)(hx:ρ x= .pointer (some ⟨b,0,none⟩))(ht:P.underlying t=some (.array n e))(hz:cM P e=some (Rp.sz α))
  (h1:bH n (hi.map ρ)=some j) (h2:bH 0 (lo.map ρ)=some i) (T:i<=j) (hj:j<=l.length) (Z: ∃cs,p=[(b,.cells cs none false)]):
  ∃r:Rs,AP P ρ ⟨d,.slice t x lo hi none,ty,pos,af,gd⟩ H (.val r.v,r.H)/\(∃a k,r.v= .slice a ((l.take j).drop i).length k/\r.H=H/\OS F (.slice a ((l.take j).drop i).length k) ((l.take j).drop i) p):=by
 have hn:=h.len'
 subst hn
 rcases h with⟨h0,_⟩|⟨b',off,k,cs,a3,h0,rfl,h5⟩
 ·cases h0
 injection h0 with e1 e2 e3
 injection e1 with e1
 injection e1 with e4 e5
 subst e4 e5 e3
 obtain⟨a2,N⟩:=Z
 simp only[a2b,a04,AObj.cells.injEq,true_and,and_true]at N
 obtain⟨rfl,rfl⟩:=N
 have hg:=hs.get hq (a0h.2 rfl)
 have A:((l.take j).drop i).length=j-i:=by simp;omega
 have E:=hN (n:=l.length) (k:=l.length) h1 h2 T hj
 have U: ∀w,bj P t (.pointer (some ⟨b,0,none⟩)) (lo.map ρ) (hi.map ρ) none H=some w->AP P ρ ⟨d,.slice t x lo hi none,ty,pos,af,gd⟩ H (.val w,H):=by intro w hw;refine⟨?_⟩;show ovl (bj P t (ρ x) (lo.map ρ) (hi.map ρ) (Option.map ρ none) H) H=_;rw[hx,a1G,hw];rfl
 cases V:Nat.beq l.length i with
 |true=>
  have al:=a08 V
  refine⟨⟨_,H,[]⟩,U (.slice (some ⟨b,0,none⟩) (j-i) (l.length-i)) ?_,_,_,by rw[A],rfl,.inr ⟨b,0,l.length-i,cs,none,rfl,rfl,?_⟩⟩
  ·unfold bj;simp only[ht,E,hz,hg,V,cond_true]
  have e0:(l.take j).drop i=[]:=a0t (by rw[A];omega)
  rw[e0,←al,a1D]
  exact Sl_at0 h5
 |false=>
  refine⟨⟨_,H,[]⟩,U (.slice (some ⟨b,0+i*Rp.sz α,none⟩) (j-i) (l.length-i)) ?_,_,_,by rw[A],rfl,.inr ⟨b,0+i*Rp.sz α,l.length-i,cs,none,rfl,rfl,Sl_cut h5 T hj⟩⟩
  unfold bj
  simp only[ht,E,hz,hg,V,cond_false]
theorem rs_stA{t:TypeId}{U x0:Operand}{j q off n b o:Nat}{w:Value}{y:α}(y':α){cl:List Value}(h:OS F v l p)(hs:HS B F H L R)(hq:L[q]?=some p)(ha:ρ U= .pointer (some ⟨b,o,none⟩))(A:b=sB v)(ho:o=sO v+j*Rp.sz α+off)(hx:ρ x0=w)(hn:cM P t=some n)(hc:w.cells.toList=cl)(hl:Nat.beq cl.length n=true)
  (hy:l[j]?=some y) (h1:allL Value.oneCell' cl=true) (hr: ∀cs,Rp.rep F cs y->off+cl.length<=cs.length/\Rp.rep F (bm cs off cl) y') {E:Nat} (T: ∃cs,p=[(E,.cells cs none false)]):
  ∃r:Rs,AP P ρ ⟨d,.store t U x0,ty,pos,af,gd⟩ H (.skip,r.H)/\(OS F v (l.set j y') r.p/\HS B F r.H (L.set q r.p) R/\Wr H r.H (p.map Prod.fst)/\∃cs,r.p=[(E,.cells cs none false)]):=by
 have ad:=hs.callOwn hq
 obtain⟨H1,p',g1,g2,Z,g5⟩:=os_st (d:=d) (ty:=ty) (pos:=pos) (af:=af) (gd:=gd) (q:=0) h ad rfl ha A ho hx hn hc hl hy h1 hr
 have h4:=hs.backOwn (M:=[]) hq rfl (fun b A=>A) Z
 obtain⟨cs,ag⟩:=T
 obtain⟨V,N⟩:=g5 E cs none ag
 exact⟨⟨.bool true,H1,p'⟩,g1,g2,by simpa using h4,fun b A=>Z.log b A,V,N⟩
theorem ap_ixG{x i:Operand}{t:TypeId}{cs:Array Value}{w r:Value}(A:ρ x= .agg cs)(hi:ρ i=w)(h:aE P (Instr.index t (.agg cs) w)=some r):AP P ρ ⟨d,.index t x i,ty,pos,af,gd⟩ H (.val r,H):=by refine⟨?_⟩;show jH P t (ρ x) (ρ i) H=_;rw[A,hi];show lift P (Instr.index t (.agg cs) w) H=_;unfold lift;rw[h]
end
section
variable {α:Type} [Rp α] {P:Program} {ρ:Operand->Value} {d:Option Tmp} {ty:TypeId} {pos:String} {af:Array Edge} {gd:Option (Nat×Bool)} {B:Base} {F:Fz} {H:Heap} {L R:List Fp} {v:Value} {l:List α} {p:Fp} {t e:TypeId} {x:Operand} {i j q:Nat}
theorem rs_cutd{lo:Option Operand}(h:SR F v l)(hs:HS B F H L R)(T:ρ x=v)(N:P.underlying t=some (.slice e))(U:cM P e=some (Rp.sz α))(E:bH 0 (lo.map ρ)=some i)(A:i<=l.length):
  ∃r:Rs,AP P ρ ⟨d,.slice t x lo none none,ty,pos,af,gd⟩ H (.val r.v,r.H)/\(∃a k,r.v= .slice a (l.drop i).length k/\r.H=H/\SR F (.slice a (l.drop i).length k) (l.drop i)):=by
 have:=rs_cut (d:=d) (ty:=ty) (pos:=pos) (af:=af) (gd:=gd) (hi:=none) h hs T N U optN0 E A (a0a _)
 rwa [a0g (a0a _)]at this
theorem rs_cutt{hi:Option Operand}(h:SR F v l)(hs:HS B F H L R)(T:ρ x=v)(N:P.underlying t=some (.slice e))(U:cM P e=some (Rp.sz α))(A:bH l.length (hi.map ρ)=some j)(E:j<=l.length):
  ∃r:Rs,AP P ρ ⟨d,.slice t x none hi none,ty,pos,af,gd⟩ H (.val r.v,r.H)/\(∃a k,r.v= .slice a (l.take j).length k/\r.H=H/\SR F (.slice a (l.take j).length k) (l.take j)):=by
 have:=rs_cut (d:=d) (ty:=ty) (pos:=pos) (af:=af) (gd:=gd) (lo:=none) h hs T N U A optN0 (a0p _) E
 rwa [a0O]at this
theorem rs_cutOt{hi:Option Operand}(h:OS F v l p)(hs:HS B F H L R)(N:L[q]?=some p)(U:ρ x=v)(T:P.underlying t=some (.slice e))(V:cM P e=some (Rp.sz α))(A:bH l.length (hi.map ρ)=some j)(E:j<=l.length):
  ∃r:Rs,AP P ρ ⟨d,.slice t x none hi none,ty,pos,af,gd⟩ H (.val r.v,r.H)/\(∃a k,r.v= .slice a (l.take j).length k/\r.H=H/\OS F (.slice a (l.take j).length k) (l.take j) p):=by
 have:=rs_cutO (d:=d) (ty:=ty) (pos:=pos) (af:=af) (gd:=gd) (lo:=none) h hs N U T V A optN0 (a0p _) E
 rwa [a0O]at this
end
end Go.R
end
noncomputable section
namespace Go.R
theorem w64_in(n:Int):in64 (IntKind.i64.wrap n):=by rw[IntKind.wrap_i64];constructor<;>omega
theorem u64_eq(n:Int):IntKind.u64.wrap n=n%18446744073709551616:=rfl
abbrev bv(n:Int):BitVec 64:=BitVec.ofInt 64 n
theorem bv_toNat(a:Int):((bv a).toNat:Int)=a%18446744073709551616:=by rw[bv,BitVec.toNat_ofInt];omega
end Go.R
end
noncomputable section
namespace Go.R
def decD(d:Nat):UInt8:=UInt8.ofNat (48+d)
def dec(n:Nat):List UInt8:=if n<10 then [decD n] else dec (n/10)++[decD (n%10)]
def isDig(c:UInt8):Bool:=decide (48<=c.toNat)&&decide (c.toNat<=57)
def valA(n:Nat)(c:UInt8):Nat:=10*n+(c.toNat-48)
def val(l:List UInt8):Nat:=l.foldl valA 0
def okNum(t:List UInt8):Bool:=decide (1<=t.length)&&decide (t.length<=19)&&t.all isDig&&(t.headD 0 !=48||t.length==1)
def posS(s:List UInt8)(A:Nat):Option Nat:=if okNum s=true/\val s<=A then some (val s) else none
def parseS(s:List UInt8):Option Int:=
 if s.headD 0=45 then(match posS s.tail 9223372036854775808 with
  |some 0=>none
  |some n=>some (-(n:Int))
  |none=>none)
 else(match posS s 9223372036854775807 with
  |some n=>some (n:Int)
  |none=>none)
def textS(n:Int):List UInt8:=if n<0 then 45::dec n.natAbs else dec n.toNat
end Go.R
end
noncomputable section
namespace Go.R
open Go.RowKit Go.WideShapes Go.ChangeShapes
structure Em(w:World)(μ:Emb)(H:Heap):Prop where
 rel:WRel μ H w
 ro: ∀b o,H.get b=some o->o.rw=false
 wf:WF H
 dom: ∀b,H.next<=b->μ b=none
 log:H.log=[]
section
variable {w:World} {μ:Emb} {H:Heap}
theorem Em.lt(h:Em w μ H){b:Nat}{o:AObj}(A:H.get b=some o):b<H.next:=by
 rcases a0i b H.next with h1|h1
 ·exact h1
 rw[h.wf b h1]at A;cases A
theorem Em.add(h:Em w μ H){c sh:Nat}{cs:List Value}(hc:c<w.heap.size)(N: ∀(i:Nat) v,cs[i]?=some v->∃v',w.cell? ⟨c,sh+i,none⟩=some v'/\VRel μ v v'):
  Em w (μ.set H.next ⟨c,sh,none,0⟩) (H.push (.cells cs none true)):=by
 have T:=Emb.set_ext (μ:=μ) (b:=H.next) ⟨c,sh,none,0⟩ (h.dom _ (a0a _))
 have U: ∀b o,(H.push (.cells cs none true)).get b=some o->(b=H.next/\o= .cells cs none true)\/(b≠H.next/\H.get b=some o):=by
  intro b o A;by_cases e:b=H.next
  ·subst e;rw[Heap.get_push_same]at A;exact .inl ⟨rfl,(Option.some.inj A).symm⟩
  rw[Heap.get_push_ne _ _ (Ne.symm e)]at A;exact .inr ⟨e,A⟩
 have V: ∀b o,(H.push (.cells cs none true)).get b=some o->o.rw=false:=by
  intro b o A;rcases U b o A with⟨_,rfl⟩|⟨_,Z⟩
  ·rfl
  exact h.ro b o Z
 refine⟨⟨fun b l o A ho=>?_,fun b1 b2 l1 l2 o1 o2 _ _ _ h3 _ h5 _=>?_⟩,V,fun b A=>?_,fun b A=>?_,h.log⟩
 ·rcases U b o ho with⟨rfl,rfl⟩|⟨ag,ai⟩
  ·rw[Emb.set_same]at A;obtain rfl:=Option.some.inj A;refine⟨rfl,rfl,hc,fun i v hv=>?_⟩;obtain⟨v',Z,h2⟩:=N i v hv;exact⟨v',Z,h2.mono T⟩
  rcases Emb.set_inv A with⟨e,_⟩|⟨_,E⟩
  ·exact absurd e ag
  exact(h.rel.obj b l o E ai).keep T (a0a _) (fun _=>rfl)
 ·rw[V b1 o1 h3]at h5;cases h5
 ·have E:H.next+1<=b:=A;rw[Heap.get_push_ne _ _ (by omega)];exact h.wf b (by omega)
 have E:H.next+1<=b:=A
 unfold Emb.set
 rw[if_neg (by omega)];exact h.dom b (by omega)
theorem Em.hs(h:Em w μ H):HS (.of H []) H.get H [] []:=
 ⟨fun b o A=>⟨A,h.lt A⟩,fun p E=>by simp at E,by simp,a0a _,fun b A=> .inl A,fun p E=>by simp at E⟩
end
structure EmLe(μ:Emb)(H:Heap)(μ':Emb)(H':Heap):Prop where
 emb: ∀b l,μ b=some l->μ' b=some l
 heap:Fz.le H.get H'.get
theorem EmLe.refl(μ:Emb)(H:Heap):EmLe μ H μ H:=⟨fun _ _ h=>h,fun _ _ h=>h⟩
theorem EmLe.trans{μ E N:Emb}{H H1 A:Heap}(h:EmLe μ H E H1)(k:EmLe E H1 N A):EmLe μ H N A:=⟨fun b l x=>k.emb b l (h.emb b l x),fun b o x=>k.heap b o (h.heap b o x)⟩
theorem EmLe.add{w:World}{μ:Emb}{H:Heap}(h:Em w μ H)(l:Loc)(o:AObj):EmLe μ H (μ.set H.next l) (H.push o):=
 ⟨Emb.set_ext l (h.dom _ (a0a _)),fun b x A=>by rw[Heap.get_push_ne _ _ (Nat.ne_of_gt (h.lt A))];exact A⟩
section
variable {X:Type} {enc:TypeId×Value->X} {P:Program} {w:World} {μ:Emb} {H:Heap}
theorem wf_in64{n:Int}(h:(Lit.int .i64 n).wf=true):in64 n:=by simp[Lit.wf,IntKind.min,IntKind.max,IntKind.signed,IntKind.bits]at h;exact⟨by omega,by omega⟩
theorem RL_ints{F:Fz}: ∀(l:List Int),(∀n∈l,in64 n)->RL F (l.map fun n=>Value.int .i64 n) l
 | [],_=>rfl
 |n::l,h=>⟨[.int .i64 n],l.map fun n=>Value.int .i64 n,rfl,⟨rfl,h n (by simp)⟩,RL_ints l fun m A=>h m (by simp[A])⟩
theorem em_ints{base:Nat}{t e:TypeId}{v:Value}{d:DataW X}{ps:List MemPlace}(h:Em w μ H)(V:P.underlying t=some (.slice e))(he:P.underlying e=some (.int .i64))(hc:P.cellsOf e=1)(ag:Value.okWide P w .any base t v)
  (hd:DataW.Trod enc P w 0 (fun _=>true) true t v d ps):
  ∃μ' H' a k,∃l:List Int,Em w μ' H'/\EmLe μ H μ' H'/\VRel μ' (.slice a l.length k) v/\SR H'.get (.slice a l.length k) l/\(l.length<=maxLen)/\(∃ax,d= .slice (Go.ChangeShapes.lits .i64 l) ax\/d= .nil/\l=[]):=by
 obtain⟨a,len,T,rfl⟩:=okWide_slice V ag
 obtain⟨fuel,hf⟩:=hd
 rcases Go.ChangeShapes.open_ints V he hc hf with⟨U,N⟩|⟨a',len',a5,A,U,_,a1,bk,av,N,al,a4⟩
 ·simp[Value.cells]at U;obtain⟨rfl,rfl,rfl⟩:=U;simp only[a04]at N;exact⟨μ,H,none,0,[],h,.refl _ _,.atom _ rfl,.nil,a0p _,[],.inr ⟨N.1,rfl⟩⟩
 simp[Value.cells]at U
 obtain⟨rfl,rfl,rfl⟩:=U
 have a2:a'.spot=none/\a'.block<w.heap.size:=by
  have ad:Cell.ok P w .any base t (.slice (some a') len T):=by have:=ag;unfold Value.okWide at this;rw[V]at this;simp only at this;unfold Cell.okWide at this;rw[V]at this;exact this
  unfold Cell.ok at ad;rw[V]at ad;obtain⟨_,_,_,a3,bl,cells,hs,_⟩:=ad;refine⟨a3,?_⟩;unfold World.shape? at hs;split at hs
  ·rename_i a0;exact(a0z.1 a0).1
  cases hs
 obtain⟨c,off,sp⟩:=a'
 obtain⟨rfl,ay⟩:=a2
 simp only[if_true]at av
 have ar: ∀n∈A.take len,in64 n:=fun n hn=>wf_in64 (a4 n (a0Q hn))
 have hl:(A.take len).length=len:=by rw[a0k];omega
 have hA:=h.add (c:=c) (sh:=off) (cs:=(A.take len).map fun n=>Value.int .i64 n) ay (fun i v Z=>by
  rw[a1f]at Z;cases E:(A.take len)[i]? with
  |none=>rw[E]at Z;cases Z
  |some n=>
   rw[E]at Z
   obtain rfl:=Option.some.inj Z
   have hi:=(a0n.1 E).1
   have ao:=al i (by rw[hl]at hi;omega)
   have hn:A.getD i 0=n:=by
    rw[a0x]at E;split at E
    ·rw[a02,E];rfl
    cases E
   refine⟨_,?_,.atom _ rfl⟩
   rw[hn]at ao
   rw[←ao]
   congr 1
   unfold Addr.add
   split
   ·rename_i h0;subst h0;rfl
   rfl)
 refine⟨_,_,some ⟨H.next,0,none⟩,T,A.take len,hA,.add h _ _,?_,?_,by rw[hl];omega,A.drop len|>Go.ChangeShapes.lits .i64,.inl ?_⟩
 ·rw[hl];have:=VRel.sliceC (μ:=μ.set H.next ⟨c,off,none,0⟩) H.next 0 len T ⟨c,off,none,0⟩ (Emb.set_same _ _ _) rfl;simpa using this
 ·refine .inr ⟨H.next,0,T,_,rfl,Heap.get_push_same _ _,_,none,true,rfl,fun N=>(by cases N),(by rw[hl];exact a1),?_,.inl rfl⟩;have e1:((A.take len).map fun n=>Value.int .i64 n).length=(A.take len).length*Rp.sz Int:=by rw[a1p];show _=_*1;omega
  rw[a0O,←e1,a18];exact RL_ints _ ar
 simp only[a04]at N
 exact N.1
end
section
variable {X:Type} {enc:TypeId×Value->X} {P:Program}
theorem gI{w w':World}{base:Nat}{A:Nat->Bool}{held:Bool}: ∀{N:List TypeId} {T:List Value} {ds:List (DataW X)} {ps:List MemPlace},DataW.TrodAll enc P w base A held N T ds ps->(∀p∈ps,w.sameAt w' p)->DataW.TrodAll enc P w' base A held N T ds ps
 | [],[],[],_,h,_=>h
 |_::_,_::_,_::_,_,⟨p,q,⟨n,h1⟩,h2,e⟩,hs=>⟨p,q,⟨n,DataW.trod_carry n _ _ _ h1 fun x E=>hs x (by rw[e];exact List.mem_append_left _ E)⟩,gI h2 fun x E=>hs x (by rw[e];exact List.mem_append_right _ E),e⟩
theorem post_law{f:Func}{s:ChangeSpec}{N ad T Z:Bool}{W W':World}{args:Array Value}{ds gs:List (DataW X)}{E:List MemPlace}{tb:TypeId}
  (K:Kids P (· <P.types.size)) (an: ∀t e,t<P.types.size->P.underlying t=some (.slice e)->0<P.cellsOf e) (av: ∀t∈f.params.toList,t<P.types.size)
  (hW:DataW.Whole enc P f.params.toList s.vars N W args.toList ds gs E) (V:s.vars=[]) (A:f.resultTypes= #[tb]) (ai:P.underlying tb=some .bool)
  (U:s.fn X (ds++gs)={results:=[.lit (.bool true)],args:=ds}) (hb:Below W.heap.size W W'):s.post enc P f N ad T Z W args (.bool true) W':=by
 have a1: ∀p∈E,p.block<W.heap.size:=fun p hp=>by simpa using hW.lt p hp
 have ay:=hW
 obtain⟨p,q,hA,hV,rfl,a9,bb⟩:=hW
 have hq:q=[]/\gs=[]:=by
  rw[V]at hV;cases gs with
  |nil=>exact⟨hV,rfl⟩
  |cons _ _=>exact absurd hV id
 obtain⟨rfl,rfl⟩:=hq
 refine kP (pa:=p) (pv:=[]) ay (fun b sp hd=>?_) (fun sp a2=>?_) (fun sp _=>?_) rfl hb ?_
 ·rw[U,A];exact trodAll_cons_mk (shut_bool ai true) rfl
 ·rw[U];refine DataW.TrodAll.respare K an av (gI hA fun x hx=>hb.same (a1 x (by simpa using hx))) fun x hx=>a2 x (by simpa using hx)
 ·rw[V,U];rfl
 rw[A]
 intro j t r h1 h2
 exact ok_one (f:=f) A rfl (okWide_bool_mk ai true) j t r (by rw[A];exact h1) (by rw[A];exact h2)
end
end Go.R
end
noncomputable section
namespace Go.R
open Go
section
variable {P:Program} {d:Nat} {t:TypeId}
theorem eqI{k:IntKind}{a b:Int}(A:P.underlying t=some (.int k)):aE P (Op.equalIn (d+1) t (.int k a) (.int k b))=some (a==b):=by simp[Op.equalIn,underlying,A]
theorem eqB{a b:Bool}(A:P.underlying t=some .bool):aE P (Op.equalIn (d+1) t (.bool a) (.bool b))=some (a==b):=by simp[Op.equalIn,underlying,A]
structure EqF(P:Program)(d:Nat)(xs ys:Array Value)(f:Field)(b:Bool):Prop where
 named:f.name≠ "_"
 ok: ∃u v,aE P (part f.type xs f.offset)=some u/\aE P (part f.type ys f.offset)=some v/\aE P (Op.equalIn d f.type u v)=some b
inductive EqFs(P:Program)(d:Nat)(xs ys:Array Value):List Field->List Bool->Prop
 |nil:EqFs P d xs ys [] []
 |cons {f b fs bs}:EqF P d xs ys f b->EqFs P d xs ys fs bs->EqFs P d xs ys (f::fs) (b::bs)
def eqLoop(d:Nat)(xs ys:Array Value)(fs:List Field):Sem (Option Bool×Unit):=
 forIn fs ((none:Option Bool),()) fun f (_:Option Bool×Unit)=>
  if f.name≠ "_" then do
   if !(←Op.equalIn d f.type (←part f.type xs f.offset) (←part f.type ys f.offset)) then pure (ForInStep.done (some false,()))
   else pure (ForInStep.yield (none,()))
  else pure (ForInStep.yield (none,()))
theorem eq_loop{xs ys:Array Value}{fs:List Field}{bs:List Bool}(h:EqFs P d xs ys fs bs):
  aE P (eqLoop d xs ys fs)=some (if bs.all id=true then none else some false,()):=by
 induction h with
 |nil=>simp[eqLoop]
 | @cons f b fs bs hf _ ih=>
  obtain⟨T,u,v,A,E,N⟩:=hf
  unfold eqLoop at ih⊢
  rw[List.forIn_cons,if_pos T]
  simp only[aM,A,E,N,a0q]
  cases b
  ·simp
  simp only[a1y,a0J,if_false,bM,a0q,ih]
  simp
theorem eq_struct{fs:Array Field}{xs ys:Array Value}{bs:List Bool}(A:P.underlying t=some (.struct fs))(hs:P.stoodInHeld t=false)
  (h:EqFs P d xs ys fs.toList bs):aE P (Op.equalIn (d+1) t (.agg xs) (.agg ys))=some (bs.all id):=by
 simp only[Op.equalIn,underlying,aM,d7,a0q,A,bM,hs,a0J,if_false]
 rw[←Array.forIn_toList]
 have:=eq_loop h
 unfold eqLoop at this
 rw[this]
 cases bs.all id<;>rfl
end
section
variable {P:Program} {ρ:Operand->Value} {d:Option Tmp} {ty:TypeId} {pos:String} {af:Array Edge} {gd:Option (Nat×Bool)} {H:Heap}
theorem noA_cells{cs:List Value}(h:cs.all noA0=true):iB (.agg ⟨cs⟩)=true:=h
end
end Go.R
end
noncomputable section
namespace Go.R
open Go.RowKit
def tcell(n:Nat):AObj:= .cells [.slice (some ⟨1,0,none⟩) n n] none true
open Classical in
def KT(A ex n:Nat)(cells:List Value):bL:=fun f args H=>match args with
 | []=>bif (Nat.ble f A&&Nat.beq f ex) then(if H.get 0=some (tcell n)/\H.get 1=some (.cells cells none true) then some (.bool true) else none) else none
 |_=>none
theorem kt_ok{P:Program}{V ex n fuel:Nat}{cells:List Value}(h:saysTrue (call P 1 noneKnown fuel ex [] (tabHeap n cells))=true)(T:cells.all noA0=true)(an:cells≠ [])(a7:0<n:=by decide):KnownOK P 1 (KT V ex n cells):=by
 intro f args H v A;unfold KT at A;split at A
 ·cases Z:(Nat.ble f V&&Nat.beq f ex) with
  |false=>rw[Z]at A;cases A
  |true=>
   rw[Z]at A
   simp only[cond_true]at A
   split at A
   ·rename_i hT;obtain rfl:=Option.some.inj A;obtain rfl:=a08 (Bool.and_eq_true_iff.1 Z).2;refine⟨rfl,rfl,fun μ E w hc hG hw=>?_⟩;obtain rfl:E= #[]:=by cases E;simp_all
    obtain⟨l0,ai,hc0,av⟩:=hG 0 (Nat.zero_lt_succ _);obtain⟨_,_,_,h4⟩:=hw.obj 0 l0 _ ai hT.1;obtain⟨v',U,hr⟩:=h4 0 _ rfl;obtain⟨N,al,ar⟩:=hr.slice_inv;obtain⟨ao,_,_,h5⟩:=hw.obj 1 N _ al hT.2;have e1:v'= .slice (some ⟨N.c,N.sh+0,none⟩) n n:=by
     rcases ar with⟨_,e⟩|⟨e,o',k',hx,_⟩|⟨hz,_,_⟩
     rotate_right
     ·omega
     ·exact e
     rw[ao]at hx;cases hx
    subst e1;rw[hc0,av]at U;refine iA none_ok h T (c:=N.c) (o:=N.sh+0) U an fun i v hv=>?_
    obtain⟨a8,h6,h7⟩:=h5 i v hv;rw[h7.eq0 (a0v.1 T v (a0l hv))]at h6;simpa using h6
   cases A
 cases A
theorem Em.tab{w:World}{n c o:Nat}{cells:List Value}(al:cells.all noA0=true)(ao:cells≠ [])
  (h0:w.cell? ⟨0,0,none⟩=some (.slice (some ⟨c,o,none⟩) n n)) (h1: ∀i v,cells[i]?=some v->w.cell? ⟨c,o+i,none⟩=some v):
  ∃μ,Em w μ (tabHeap n cells)/\GRel μ 1:=by
 have U: ∀{a:Addr} {v:Value},w.cell? a=some v->a.block<w.heap.size:=by
  intro a v E;unfold World.cell? at E;split at E
  ·rename_i an;exact(a0z.1 an).1
  cases E
 let μ:Emb:=fun b=>if b=1 then some ⟨c,o,none,0⟩ else if b=0 then some ⟨0,0,none,0⟩ else none
 have V: ∀b x,(tabHeap n cells).get b=some x->x.rw=false:=by
  intro b x A;rw[cu]at A;split at A
  ·injection A with A;subst A;rfl
  split at A
  ·injection A with A;subst A;rfl
  cases A
 refine⟨μ,⟨⟨fun b l x T A=>?_,fun b1 b2 l1 l2 o1 o2 _ _ _ h3 _ h5 _=>?_⟩,V,fun b T=>?_,fun b T=>?_,rfl⟩,fun g hg=>?_⟩
 ·rw[cu]at A;by_cases e1:b=1
  ·subst e1;rw[if_pos rfl]at A;injection A with A;subst A;have N:l=⟨c,o,none,0⟩:=(Option.some.inj T).symm;subst N;refine⟨rfl,rfl,?_,fun i v E=>⟨v,h1 i v E,.atom v (a0v.1 al v (a0l E))⟩⟩;cases cells with
   |nil=>exact absurd rfl ao
   |cons v r=>exact U (h1 0 v rfl)
  rw[if_neg e1]at A;by_cases Z:b=0
  ·subst Z;rw[if_pos rfl]at A;injection A with A;subst A;have N:l=⟨0,0,none,0⟩:=(Option.some.inj T).symm;subst N;refine⟨rfl,rfl,U h0,fun i v E=>?_⟩;cases i with
   |zero=>
    simp only[a0Y,a00]at E;subst E
    exact⟨_,h0,.sliceC 1 0 n n ⟨c,o,none,0⟩ rfl rfl⟩
   |succ i=>simp at E
  rw[if_neg Z]at A;cases A
 ·rw[V b1 o1 h3]at h5;cases h5
 ·have N:2<=b:=T;rw[cu,if_neg (by omega),if_neg (by omega)]
 ·have N:2<=b:=T;show(if b=1 then _ else if b=0 then _ else none)=none;rw[if_neg (by omega),if_neg (by omega)]
 have:g=0:=by omega
 subst this
 exact⟨⟨0,0,none,0⟩,rfl,rfl,rfl⟩
theorem walk_of_EmG{P:Program}{G:Nat}{K:bL}{w:World}{μ:Emb}{H:Heap}(V:KnownOK P G K)(h:Em w μ H)(U:GRel μ G){f:FuncId}{args:List Value}{A:Array Value}(Z:LRel μ args A.toList)(hc:C P G K f args H fun v _=>v= .bool true):
  Calls P f A w fun e w'=>e= .returned (.bool true)/\Below w.heap.size w w':=by
 obtain⟨n,v,H',T,rfl⟩:=hc.out
 obtain⟨_,E⟩:=call_ok V n f args H (.bool true) H' T h.wf
 refine(E μ w A Z U h.rel (fun b hb _=>h.dom b hb)).mono ?_
 rintro e w' ⟨μ',v',rfl,hr,hp⟩
 rw[hr.eq2 rfl]
 exact⟨rfl,hp.os,hp.tape,hp.out,hp.grow,fun k hk=>hp.keep k hk fun b l x _ hx N=>by rw[h.ro b x hx]at N;cases N⟩
structure TB(n:Nat)(cells:List Value)(F:Fz):Prop where
 at0:F 0=some (tcell n)
 at1:F 1=some (.cells cells none true)
section
variable {n:Nat} {cells:List Value} {F F':Fz}
theorem TB.mono(h:TB n cells F)(A:Fz.le F F'):TB n cells F':=⟨A _ _ h.at0,A _ _ h.at1⟩
theorem TB.start:TB n cells (tabHeap n cells).get:=⟨by rw[cu,if_neg (by omega),if_pos rfl];rfl,by rw[cu,if_pos rfl]⟩
theorem TB.known{A ex:Nat}{H:Heap}(h:TB n cells H.get)(E:Nat.ble ex A=true):KT A ex n cells ex [] H=some (.bool true):=by show(bif (Nat.ble ex A&&Nat.beq ex ex) then _ else _)=_;rw[E,a13,a28,cond_true,if_pos ⟨h.at0,h.at1⟩]
theorem TB.heap{B:Base}{H:Heap}{L R:List Fp}(h:TB n cells F)(hs:HS B F H L R):TB n cells H.get:=⟨(hs.fz _ _ h.at0).1,(hs.fz _ _ h.at1).1⟩
theorem TB.hc{get:Nat->Option AObj}(h:TB n cells get):HC get 0 0 [.slice (some ⟨1,0,none⟩) n n]:=⟨_,none,true,h.at0,rfl⟩
theorem TB.sr{α:Type} [Rp α]{l:List α}(h:TB n cells F)(N:l.length=n)(A:RL F cells l):SR F (.slice (some ⟨1,0,none⟩) l.length n) l:=by refine .inr ⟨1,0,n,_,rfl,h.at1,_,none,true,rfl,fun T=>(by cases T),Nat.le_of_eq N,?_,.inl rfl⟩;have E:cells.length=l.length*Rp.sz α:=A.length;rw[a0O,←E,a18];exact A
end
end Go.R
end
noncomputable section
set_option linter.unusedVariables false
set_option linter.unusedSimpArgs false
namespace Go.R
inductive Hint where
 |p
 |w
 |e (n:Int)
 |o (v:Value)
abbrev Ch:=List (Nat×Bool)
def bq:Bool->Bool->Bool
 |true,b=>b
 |false,b=> !b
theorem bq_eq{a b:Bool}(h:bq a b=true):a=b:=by cases a<;>cases b<;>first|rfl|cases h
def gl:List (Nat×Bool)->Nat->Option Bool
 | [],_=>none
 |(s,g)::G,t=>bif Nat.beq s t then some g else gl G t
def act(G:List (Nat×Bool)):Ch->Bool
 | []=>true
 |(s,w)::c=>(match gl G s with|some g=>bq g w|none=>false)&&act G c
def memC(s:Nat)(w:Bool):Ch->Bool
 | []=>false
 |(s',w')::c=>(Nat.beq s' s&&bq w' w)||memC s w c
def subC:Ch->Ch->Bool
 | [],_=>true
 |(s,w)::a,c=>memC s w c&&subC a c
def lk:List (Nat×Ch×Value)->Nat->Option (Ch×Value)
 | [],_=>none
 |(s,x)::m,t=>bif Nat.beq s t then some x else lk m t
structure SS where
 m:List (Nat×Ch×Value)
 G:List (Nat×Bool)
def SS.rd(S:SS)(f:Fn):Operand->Value
 | .tmp t=>match lk S.m t with
  |some x=>x.2
  |none=>f t
 | .const v=>v
 | .global g=> .pointer (some ⟨g,0,none⟩)
 | .func i=> .func (.func i) #[] #[]
def SS.can(S:SS)(c:Ch):Operand->Bool
 | .tmp t=>match lk S.m t with
  |some x=>subC x.1 c
  |none=>true
 |_=>true
def impl(G:List (Nat×Bool)):Ch->Prop->Prop
 | [],p=>p
 |(s,w)::c,p=>match gl G s with
  |some g=>g=w->impl G c p
  |none=>True
def iU(G:List (Nat×Bool))(s:Nat)(g:Bool):List (Nat×Bool):=match gl G s with
 |some _=>G
 |none=>(s,g)::G
def holds:Option Prop->Prop
 |none=>True
 |some p=>p
def andO(q:Option Prop)(p:Prop):Prop:=match q with
 |none=>p
 |some q=>q/\p
def rng(k:IntKind)(n:Int):Prop:=match k with
 | .i64=> -9223372036854775808<=n/\n<9223372036854775808
 | .u64=>0<=n/\n<18446744073709551616
 | .u8=>0<=n/\n<256
 |k=>k.wrap n=n
theorem rng_wrap{k:IntKind}{n:Int}(h:rng k n):k.wrap n=n:=by
 cases k with
 |i64=>exact w_i64 h
 |u64=>exact w_u64 h
 |u8=>exact w_u8 h
 |_=>exact h
def kq:IntKind->IntKind->Bool
 | .i64,.i64=>true
 | .u64,.u64=>true
 | .u8,.u8=>true
 | .i32,.i32=>true
 | .u32,.u32=>true
 |_,_=>false
theorem kq_eq{k A:IntKind}(h:kq k A=true):A=k:=by cases k<;>cases A<;>first|rfl|cases h
abbrev VP:=Option (Value×Option Prop)
def ari(h:Hint)(k:IntKind)(n:Int):VP:=match h with
 | .w=>some (.int k (k.wrap n),none)
 | .e m=>some (.int k m,some (n=m/\rng k m))
 |_=>some (.int k n,some (rng k n))
def bi(h:Hint)(k:IntKind)(n:Int):VP:=match h with
 | .e m=>some (.int k m,some (n=m))
 |_=>some (.int k n,none)
def withP(p:Prop):VP->VP
 |some (v,none)=>some (v,some p)
 |some (v,some q)=>some (v,some (p/\q))
 |none=>none
def pint(h:Hint)(op:BinOp)(k:IntKind)(x y:Int):VP:=match op with
 | .add=>ari h k (x+y)
 | .sub=>ari h k (x-y)
 | .mul=>ari h k (x*y)
 | .quo=>withP (y≠0) (ari h k (x.tdiv y))
 | .rem=>withP (y≠0) (bi h k (x.tmod y))
 | .and=>bi h k (aR .and k x y)
 | .or=>bi h k (aR .or k x y)
 | .xor=>bi h k (aR .xor k x y)
 | .andNot=>bi h k (aR .andNot k x y)
 | .eql=>some (.bool (x==y),none)
 | .neq=>some (.bool (x !=y),none)
 | .lss=>some (.bool (decide (x<y)),none)
 | .leq=>some (.bool (decide (x<=y)),none)
 | .gtr=>some (.bool (decide (y<x)),none)
 | .geq=>some (.bool (decide (y<=x)),none)
 |_=>none
def AGB(P:Program)(op:BinOp)(t:TypeId)(a b v:Value):Prop:= ∀(ρ:Operand->Value) (x y:Operand) (yt:TypeId) (d:Option Tmp) (ty:TypeId) (pos:String) (af:Array Edge) (gd:Option (Nat×Bool)) (H:Heap),ρ x=a->ρ y=b->AP P ρ ⟨d,.binOp op t x y yt,ty,pos,af,gd⟩ H (.val v,H)
def isBT(P:Program)(t:TypeId):Bool:=match P.underlying t with
 |some .bool=> !P.eqGuardType P.depth t
 |_=>false
def pbin(P:Program)(h:Hint)(op:BinOp)(t:TypeId)(a b:Value):VP:=match a,b with
 | .int k x,.int k' y=>match op with
  | .shl=>withP (0<=y) (bi h k (k.wrap (x*2^(Nat.min y.toNat k.bits))))
  | .shr=>withP (0<=y) (bi h k (x.fdiv (2^(Nat.min y.toNat k.bits))))
  |op=>bif kq k k' then pint h op k x y else none
 | .string x,.string y=>match op with
  | .eql=>some (.bool (x.data.toList==y.data.toList),none)
  | .neq=>some (.bool (x.data.toList !=y.data.toList),none)
  | .lss=>some (.bool (Op.bytesLess x.data.toList y.data.toList),none)
  | .leq=>some (.bool (Op.bytesLess x.data.toList y.data.toList||x.data.toList==y.data.toList),none)
  | .add=>some (.string ⟨⟨x.data.toList++y.data.toList⟩⟩,some (x.data.toList.length+y.data.toList.length<=1099511627776))
  |_=>none
 | .bool x,.bool y=>bif isBT P t then match op with
  | .eql=>some (.bool (x==y),none)
  | .neq=>some (.bool (x !=y),none)
  |_=>none else none
 | .agg x,.agg y=>match h with
  | .o v=>some (v,some (AGB P op t (.agg x) (.agg y) v))
  |_=>none
 | .pointer a,.pointer b=>match nilEq P t (.pointer a) (.pointer b),op with
  |some r,.eql=>some (.bool r,none)
  |some r,.neq=>some (.bool (!r),none)
  |_,_=>none
 | .slice a n k,.slice b n' k'=>match nilEq P t (.slice a n k) (.slice b n' k'),op with
  |some r,.eql=>some (.bool r,none)
  |some r,.neq=>some (.bool (!r),none)
  |_,_=>none
 |_,_=>none
def pun(h:Hint)(op:UnOp)(v:Value):VP:=match op,v with
 | .not,.bool b=>some (.bool (!b),none)
 | .neg,.int k n=>ari h k (0-n)
 | .xor,.int k n=>bi h k (bits .xor k (if k.signed then-1 else k.max) n)
 |_,_=>none
def pconv(P:Program)(H:Heap)(h:Hint)(s t:TypeId)(v:Value):VP:=match v with
 | .int _ n=>match P.underlying s,P.underlying t with
  |some _,some (.int k')=>ari h k' n
  |_,_=>none
 |_=>none
def ppick(g:Bool)(a b:Value):Option Value:=match a,b with
 | .bool x,.bool y=>some (.bool (bif g then x else y))
 | .int k x,.int k' y=>bif kq k k' then some (.int k (bif g then x else y)) else none
 | .string x,.string y=>some (.string ⟨⟨bif g then x.data.toList else y.data.toList⟩⟩)
 |_,_=>none
def LDv(P:Program)(H:Heap)(t:TypeId)(a w:Value):Prop:=dR P t a H=some (.val w,H)
def IX(v:Value)(j:Int):Prop:= ∃b o n k,v= .slice (some ⟨b,o,none⟩) n k/\0<=j/\j<n/\n<=k
def pidx(P:Program)(t:TypeId)(a i:Value):VP:=match a,i with
 | .string s,.int _ j=>match P.underlying t with
  |some .string=>some (.int .u8 ((s.data.toList.getD j.toNat 0).toNat:Int),some (0<=j/\j<s.data.toList.length))
  |_=>none
 | .agg x,w=>match aE P (Instr.index t (.agg x) w) with
  |some r=>some (r,none)
  |none=>none
 |_,_=>none
def pidxA(P:Program)(t:TypeId)(a i:Value):VP:=match a,i with
 | .slice x n k,.int _ j=>match P.underlying t with
  |some (.slice e)=>match cM P e with
   |some z=>some (.pointer (some ⟨sB (.slice x n k),sO (.slice x n k)+j.toNat*z,none⟩),some (IX (.slice x n k) j))
   |none=>none
  |_=>none
 | .pointer (some ⟨b,o,none⟩),.int _ j=>match P.underlying t with
  |some (.array n e)=>match cM P e with
   |some z=>some (.pointer (some ⟨b,o+j.toNat*z,none⟩),some (0<=j/\j<n))
   |none=>none
  |_=>none
 |_,_=>none
def pslice(P:Program)(H:Heap)(h:Hint)(t:TypeId)(x:Value)(lo hi:Option Value):VP:=match x with
 | .string s=>match P.underlying t with
  |some .string=>match lo,hi with
   |none,none=>some (.string s,none)
   |some (.int _ i),none=>some (.string ⟨⟨s.data.toList.drop i.toNat⟩⟩,some (0<=i/\i<=s.data.toList.length))
   |none,some (.int _ j)=>some (.string ⟨⟨s.data.toList.take j.toNat⟩⟩,some (0<=j/\j<=s.data.toList.length))
   |some (.int _ i),some (.int _ j)=>some (.string ⟨⟨(s.data.toList.drop i.toNat).take (j.toNat-i.toNat)⟩⟩,some (0<=i/\i<=j/\j<=s.data.toList.length))
   |_,_=>none
  |_=>none
 |x=>match h with
  | .o v=>some (v,some (bj P t x lo hi none H=some v))
  |_=>none
def plen(P:Program)(t:TypeId)(x:Value):VP:=match x with
 | .string s=>match P.underlying t with
  |some .string=>some (.int .i64 (s.data.toList.length:Int),none)
  |_=>none
 | .slice _ n _=>match P.underlying t with
  |some (.slice _)=>some (.int .i64 (n:Int),none)
  |_=>none
 |_=>none
def pmm(w:Bool)(a b:Value):VP:=match a,b with
 | .int k x,.int _ y=>some (.int k (bif w then(if y<x then y else x) else(if y>x then y else x)),none)
 |_,_=>none
def pcall(P:Program)(G0:Nat)(K:bL)(H:Heap)(h:Hint)(ρ:Operand->Value)(c:Call):VP:=match c.callee with
 | .builtin .len=>match c.argTypes.toList,c.args.toList with
  | [t],[x]=>plen P t (ρ x)
  |_,_=>none
 | .builtin .min=>match c.args.toList with
  | [x,y]=>pmm true (ρ x) (ρ y)
  |_=>none
 | .builtin .max=>match c.args.toList with
  | [x,y]=>pmm false (ρ x) (ρ y)
  |_=>none
 | .value f=>match eS P (ρ f) (eG ρ c.args.toList),h with
  |some (.enter g args),.o v=>some (v,some (C P G0 K g args H fun v' H'=>v'=v/\H'=H))
  |_,_=>none
 |_=>none
def optV{α:Type}(r:Option α):Option (α×Option Prop):=match r with
 |some v=>some (v,none)
 |none=>none
def pop(P:Program)(G0:Nat)(K:bL)(H:Heap)(h:Hint)(ρ:Operand->Value)(op:Op):VP:=match op with
 | .move x=>some (ρ x,none)
 | .assign x=>some (ρ x,none)
 | .binOp op t x y _=>pbin P h op t (ρ x) (ρ y)
 | .unOp op _ x=>pun h op (ρ x)
 | .convert s t x=>pconv P H h s t (ρ x)
 | .load t a=>match h with
  | .o v=>some (v,some (LDv P H t (ρ a) v))
  |_=>none
 | .index t x i=>pidx P t (ρ x) (ρ i)
 | .indexAddr t x i=>pidxA P t (ρ x) (ρ i)
 | .field t x f=>optV (gc P t (ρ x) f)
 | .fieldAddr s x f=>optV (gH P s (ρ x) f)
 | .extract x i=>optV (fv (ρ x) i)
 | .build t parts=>match cX P t with
  |some _=>optV (aE P (Instr.build t (parts.map fun p=>(p.1,ρ p.2))))
  |none=>none
 | .slice t x lo hi none=>pslice P H h t (ρ x) (lo.map ρ) (hi.map ρ)
 | .call c=>pcall P G0 K H h ρ c
 | .nilCheck x=>match ρ x with
  | .pointer (some a)=>some (.pointer (some a),none)
  | .func (.func f) a c=>some (.func (.func f) a c,none)
  |_=>none
 | .makeFunc fn first cap=>some (.func fn (first.map ρ) (cap.map ρ),none)
 |_=>none
def lb(ops:Array Oper)(f:Fn)(S:SS):Option (Nat×Bool)->Option (Ch×List (Nat×Bool))
 |none=>some ([],S.G)
 |some (j,w)=>match (ops[j]?).bind (·.dst) with
  |some d=>match lk S.m d with
   |some (c,.bool g)=>some ((d,w)::c,iU S.G d g)
   |some _=>none
   |none=>match f d with
    | .bool g=>some ([(d,w)],iU S.G d g)
    |_=>none
  |none=>none
def putS(q:Option Prop)(c:Ch)(G:List (Nat×Bool))(m:List (Nat×Ch×Value))(d:Nat)(v:Value):Option (SS×Option Prop):=
 match gl G d with
 |some _=>none
 |none=>some (⟨(d,c,v)::m,G⟩,match q with
  |none=>none
  |some p=>some (impl G c p))
def stepS(P:Program)(G0:Nat)(K:bL)(H:Heap)(sz:Nat)(ops:Array Oper)(f:Fn)(S:SS)(h:Hint)(o:Oper):Option (SS×Option Prop):=
 match o.dst with
 |none=>none
 |some d=>
  bif Nat.ble (d+1) sz&&o.op.operands.toList.all (bw G0) then
   match lb ops f S o.guard with
   |none=>none
   |some (c,G1)=>
    match o.op with
    | .pick (.tmp s) a b=>
     match lk S.m s with
     |some (cc,.bool g)=>
      bif subC cc c&&(S.can ((s,true)::c) a&&S.can ((s,false)::c) b) then
       match ppick g (S.rd f a) (S.rd f b) with
       |some v=>putS none c (iU G1 s g) S.m d v
       |none=>none
      else none
     |_=>none
    |op=>
     bif op.operands.toList.all (S.can c) then
      match pop P G0 K H h (S.rd f) op with
      |some (v,q)=>putS q c G1 S.m d v
      |none=>none
     else none
  else none
def hintAt:List (Nat×Hint)->Nat->Hint
 | [],_=> .p
 |(i,h)::l,j=>bif Nat.beq i j then h else hintAt l j
def rgL(P:Program)(G0:Nat)(K:bL)(H:Heap)(sz:Nat)(ops:Array Oper)(f:Fn)(hs:List (Nat×Hint)):Nat->List Oper->SS->Option (SS×Prop)
 |_,[],S=>some (S,True)
 |i,o::os,S=>match stepS P G0 K H sz ops f S (hintAt hs i) o with
  |none=>none
  |some (S1,q)=>match rgL P G0 K H sz ops f hs (i+1) os S1 with
   |none=>none
   |some (S2,p)=>some (S2,andO q p)
def fins(m:List (Nat×Ch×Value)):List Nat->Option (List (Nat×Value))
 | []=>some []
 |d::ds=>match lk m d,fins m ds with
  |some ([],v),some l=>some ((d,v)::l)
  |_,_=>none
def fF(P:Program)(G0:Nat)(K:bL)(H:Heap)(sz:Nat)(ops:Array Oper)(f:Fn)(i:Nat)(os:List Oper)(hs:List (Nat×Hint))(lo hi:Nat)(ex:List Nat)(A:List Nat):Option (List (Nat×Value)×Prop):=
 match rgL P G0 K H sz ops f hs i os ⟨[],[]⟩ with
 |none=>none
 |some (S,p)=>bif S.m.all (fun e=>inR lo hi ex e.1) then
   match fins S.m A with
   |some l=>some (l,p)
   |none=>none
  else none
end Go.R
end
noncomputable section
namespace Go.R
section
variable {P:Program} {G0:Nat} {K:bL} {H:Heap} {ρ:Operand->Value} {d:Option Tmp} {ty:TypeId} {pos:String} {af:Array Edge} {gd:Option (Nat×Bool)} {v:Value} {q:Option Prop} {hi:Hint}
theorem kv{k:IntKind}{n:Int}(h:ari hi k n=some (v,q))(A:holds q):v= .int k (k.wrap n):=by
 unfold ari at h;split at h
 ·simp only[a00,a04]at h;exact h.1.symm
 ·simp only[a00,a04]at h;obtain⟨rfl,rfl⟩:=h;obtain⟨rfl,E⟩:=A;rw[rng_wrap E]
 simp only[a00,a04]at h;obtain⟨rfl,rfl⟩:=h;rw[rng_wrap A]
theorem bi_ok{k:IntKind}{n:Int}(h:bi hi k n=some (v,q))(E:holds q):v= .int k n:=by
 unfold bi at h;split at h
 ·simp only[a00,a04]at h;obtain⟨rfl,rfl⟩:=h;have A:n=_:=E;rw[A]
 simp only[a00,a04]at h;exact h.1.symm
theorem iG{p:Prop}{r:VP}(h:withP p r=some (v,q))(A:holds q):p/\∃E,r=some (v,E)/\holds E:=by
 match r,h with
 |some (v',none),h=>
  simp only[withP,a00,a04]at h
  obtain⟨rfl,rfl⟩:=h
  exact⟨A,none,rfl,trivial⟩
 |some (v',some p'),h=>
  simp only[withP,a00,a04]at h
  obtain⟨rfl,rfl⟩:=h
  exact⟨A.1,some p',rfl,A.2⟩
 |none,h=>simp[withP]at h
theorem beq0{b:Int}(A:b≠0):(b==0)=false:=by simpa using A
variable {x y:Operand} {t yt:TypeId}
theorem pint_ok{op:BinOp}{k:IntKind}{a b:Int}(Z:ρ x= .int k a)(hy:ρ y= .int k b)(h:pint hi op k a b=some (v,q))(E:holds q):
  AP P ρ ⟨d,.binOp op t x y yt,ty,pos,af,gd⟩ H (.val v,H):=by
 have A: ∀{v':Value},jr op=false->j3 op k a b=some v'->AP P ρ ⟨d,.binOp op t x y yt,ty,pos,af,gd⟩ H (.val v',H):=by intro v' hs V;exact iq Z hy (by rw[hs,ee];exact V)
 cases op with
 |add=>rw[kv (n:=a+b) h E];exact A rfl rfl
 |sub=>rw[kv (n:=a-b) h E];exact A rfl rfl
 |mul=>rw[kv (n:=a*b) h E];exact A rfl rfl
 |quo=>
  obtain⟨N,q',T,U⟩:=iG (p:=b≠0) (r:=ari hi k (a.tdiv b)) h E
  rw[kv T U]
  exact A rfl (by show(bif b==0 then none else some (Value.int k (k.wrap (a.tdiv b))))=_;rw[beq0 N];rfl)
 |rem=>
  obtain⟨N,q',T,U⟩:=iG (p:=b≠0) (r:=bi hi k (a.tmod b)) h E
  rw[bi_ok T U]
  exact A rfl (by show(bif b==0 then none else some (Value.int k (a.tmod b)))=_;rw[beq0 N];rfl)
 |and=>rw[bi_ok (n:=aR .and k a b) h E];exact A rfl rfl
 |or=>rw[bi_ok (n:=aR .or k a b) h E];exact A rfl rfl
 |xor=>rw[bi_ok (n:=aR .xor k a b) h E];exact A rfl rfl
 |andNot=>rw[bi_ok (n:=aR .andNot k a b) h E];exact A rfl rfl
 |shl=>cases h
 |shr=>cases h
 |_=>
  simp only[pint,a00,a04]at h
  obtain⟨rfl,_⟩:=h
  exact A rfl rfl
theorem bool_run{a b:Bool}(h:isBT P t=true):aE P (dH .eql t x y a b)=some (.value (.bool (a==b)))/\aE P (dH .neq t x y a b)=some (.value (.bool (a !=b))):=by
 unfold isBT at h;split at h
 ·rename_i T;have U:P.eqGuardType P.depth t=false:=by simpa using h
  have E:aE P (eqGuard .eql t x y (.bool a) (.bool b))=some ():=by simp[eqGuard]
  have N:aE P (eqGuard .neq t x y (.bool a) (.bool b))=some ():=by simp[eqGuard]
  have A:aE P (Op.equal t (.bool a) (.bool b))=some (a==b):=eqB (d:=9999) T;constructor
  ·unfold dH;simp only[aM,E,a0q];have:aE P (binOp .eql t (.bool a) (.bool b))=some (Value.bool (a==b)):=by show aE P (Op.equal t (.bool a) (.bool b)>>=fun b=>(Pure.pure (Value.bool b):Sem Value))=_;rw[aM,A];rfl
   rw[this];rfl
  unfold dH;simp only[aM,N,a0q];have:aE P (binOp .neq t (.bool a) (.bool b))=some (Value.bool (a !=b)):=by show aE P (Op.equal t (.bool a) (.bool b)>>=fun b=>(Pure.pure (Value.bool (!b)):Sem Value))=_;rw[aM,A];rfl
  rw[this];rfl
 cases h
theorem pbin_ok{op:BinOp}{a b:Value}(A:ρ x=a)(E:ρ y=b)(h:pbin P hi op t a b=some (v,q))(hq:holds q):
  AP P ρ ⟨d,.binOp op t x y yt,ty,pos,af,gd⟩ H (.val v,H):=by
 have T: ∀(a b:Value) (r:Bool),ρ x=a->ρ y=b->(∃p,a= .pointer p)\/(∃p n k,a= .slice p n k)->nilEq P t a b=some r->(op= .eql->v= .bool r)->(op= .neq->v= .bool (!r))->(op= .eql\/op= .neq)->
   AP P ρ ⟨d,.binOp op t x y yt,ty,pos,af,gd⟩ H (.val v,H):=by
  intro a b r A E ha N V Z h3
  refine⟨?_⟩
  show aBin P ρ _ op t (ρ x) y H=_
  have:aBin P ρ ⟨d,.binOp op t x y yt,ty,pos,af,gd⟩ op t (ρ x) y H=nilBin op (nilEq P t a b) H:=by rw[A];rcases ha with⟨p,rfl⟩|⟨p,n,k,rfl⟩<;>(rw[←E];rfl)
  rw[this,N]
  rcases h3 with rfl|rfl
  ·rw[V rfl];rfl
  rw[Z rfl];rfl
 unfold pbin at h
 split at h
 ·--integers
  split at h
  ·obtain⟨V,q',Z,h3⟩:=iG h hq;rw[bi_ok Z h3];exact ap_shl A E V
  ·obtain⟨V,q',Z,h3⟩:=iG h hq;rw[bi_ok Z h3];exact ap_shr A E V
  rename_i k a k' b _ _ _;cases hk:kq k k' with
  |false=>rw[hk]at h;cases h
  |true=>
   rw[hk]at h
   have:=kq_eq hk;subst this
   exact pint_ok A E h hq
 ·split at h<;>simp only[a00,a04,reduceCtorEq]at h
  ·obtain⟨rfl,_⟩:=h;exact ap_eqS A E
  ·obtain⟨rfl,_⟩:=h;exact ap_neS A E
  ·obtain⟨rfl,_⟩:=h;exact ap_ltS A E
  ·obtain⟨rfl,_⟩:=h;exact ap_leS A E
  obtain⟨rfl,rfl⟩:=h;exact ap_addS A E hq
 ·cases U:isBT P t with
  |false=>rw[U]at h;cases h
  |true=>
   rw[U]at h
   simp only[cond_true]at h
   split at h<;>simp only[a00,a04,reduceCtorEq]at h
   ·obtain⟨rfl,_⟩:=h;exact ap_boolEq A E (fun a b=>(bool_run U).1)
   obtain⟨rfl,_⟩:=h;exact ap_boolNe A E (fun a b=>(bool_run U).2)
 ·split at h<;>simp only[a00,a04,reduceCtorEq]at h;obtain⟨rfl,rfl⟩:=h;exact hq ρ x y yt d ty pos af gd H A E
 ·split at h<;>simp only[a00,a04,reduceCtorEq]at h
  ·rename_i N;obtain⟨rfl,_⟩:=h;exact T _ _ _ A E (.inl ⟨_,rfl⟩) N (fun _=>rfl) (fun e=>by cases e) (.inl rfl)
  rename_i N;obtain⟨rfl,_⟩:=h;exact T _ _ _ A E (.inl ⟨_,rfl⟩) N (fun e=>by cases e) (fun _=>rfl) (.inr rfl)
 ·split at h<;>simp only[a00,a04,reduceCtorEq]at h
  ·rename_i N;obtain⟨rfl,_⟩:=h;exact T _ _ _ A E (.inr ⟨_,_,_,rfl⟩) N (fun _=>rfl) (fun e=>by cases e) (.inl rfl)
  rename_i N;obtain⟨rfl,_⟩:=h;exact T _ _ _ A E (.inr ⟨_,_,_,rfl⟩) N (fun e=>by cases e) (fun _=>rfl) (.inr rfl)
 cases h
theorem pun_ok{op:UnOp}{a:Value}(A:ρ x=a)(h:pun hi op a=some (v,q))(E:holds q):AP P ρ ⟨d,.unOp op t x,ty,pos,af,gd⟩ H (.val v,H):=by
 unfold pun at h;split at h
 ·simp only[a00,a04]at h;obtain⟨rfl,_⟩:=h;exact ap_not A
 ·rw[kv h E];exact ap_neg A
 ·rw[bi_ok h E];exact ap_cpl A
 cases h
theorem pconv_ok{s:TypeId}{a:Value}(T:ρ x=a)(h:pconv P H hi s t a=some (v,q))(N:holds q):AP P ρ ⟨d,.convert s t x,ty,pos,af,gd⟩ H (.val v,H):=by
 unfold pconv at h;split at h
 ·split at h
  ·rename_i A E;rw[kv h N];exact ap_conv T A E
  cases h
 cases h
theorem ppick_ok{g:Bool}{a b v:Value}(h:ppick g a b=some v):v=bif g then a else b:=by
 unfold ppick at h;split at h
 ·simp only[a00]at h;subst h;cases g<;>rfl
 ·rename_i k x E y;cases A:kq k E with
  |false=>rw[A]at h;cases h
  |true=>
   rw[A]at h
   have:=kq_eq A;subst this
   simp only[cond_true,a00]at h;subst h;cases g<;>rfl
 ·simp only[a00]at h;subst h;cases g<;>rfl
 cases h
theorem pidx_ok{i:Operand}{a b:Value}(N:ρ x=a)(A:ρ i=b)(h:pidx P t a b=some (v,q))(T:holds q):AP P ρ ⟨d,.index t x i,ty,pos,af,gd⟩ H (.val v,H):=by
 unfold pidx at h;split at h
 ·rename_i s _ j;split at h
  ·rename_i E;simp only[a00,a04]at h;obtain⟨rfl,rfl⟩:=h;obtain⟨U,V⟩:=T;obtain⟨⟨s⟩⟩:=s;have Z:j<(s.length:Int):=V;exact ap_idxS (s:=s) N A E U (aq (by omega))
  cases h
 ·split at h
  ·rename_i E;simp only[a00,a04]at h;obtain⟨rfl,rfl⟩:=h;exact ap_ixG N A E
  cases h
 cases h
theorem pidxA_ok{i:Operand}{a b:Value}(V:ρ x=a)(A:ρ i=b)(h:pidxA P t a b=some (v,q))(U:holds q):AP P ρ ⟨d,.indexAddr t x i,ty,pos,af,gd⟩ H (.val v,H):=by
 unfold pidxA at h;split at h
 ·split at h
  ·rename_i E;split at h
   ·rename_i N;simp only[a00,a04]at h;obtain⟨rfl,rfl⟩:=h;obtain⟨b,o,n,k,e,T,Z,q3⟩:=U;cases e
    exact ir V A E N T Z q3
   cases h
  cases h
 ·split at h
  ·rename_i E;split at h
   ·rename_i N;simp only[a00,a04]at h;obtain⟨rfl,rfl⟩:=h;obtain⟨T,Z⟩:=U;refine⟨?_⟩;rename_i kk j n e z _;obtain⟨m,rfl⟩:=a0Z T;show ovl (cm P t (ρ x) (ρ i)) H=_;rw[V,A];unfold cm;rw[E];have h3:Nat.ble (m+1) n=true:=a0u (by omega);show ovl (match cM P e with|some sz=>bif Nat.ble (m+1) n then some (.pointer (some ⟨_,_+m*sz,none⟩)) else none|none=>none) H=_;rw[N];simp only[h3,cond_true];rfl
   cases h
  cases h
 cases h
theorem sl_str{lo hi:Option Operand}{s:ByteArray}{i j:Nat}(V:ρ x= .string s)(U:P.underlying t=some .string)(E:bH s.data.toList.length (hi.map ρ)=some j)(N:bH 0 (lo.map ρ)=some i)(A:i<=j)(T:j<=s.data.toList.length):
  AP P ρ ⟨d,.slice t x lo hi none,ty,pos,af,gd⟩ H (.val (.string ⟨⟨(s.data.toList.drop i).take (j-i)⟩⟩),H):=by
 obtain⟨⟨s⟩⟩:=s
 exact ap_slS V U E N A T
theorem pslice_ok{lo A:Option Operand}{a:Value}(T:ρ x=a)(h:pslice P H hi t a (lo.map ρ) (A.map ρ)=some (v,q))(Z:holds q):AP P ρ ⟨d,.slice t x lo A none,ty,pos,af,gd⟩ H (.val v,H):=by
 unfold pslice at h;split at h
 ·rename_i s;split at h
  ·rename_i V;split at h
   ·rename_i E N;simp only[a00,a04]at h;obtain⟨rfl,rfl⟩:=h;have:=sl_str (d:=d) (ty:=ty) (pos:=pos) (af:=af) (gd:=gd) (H:=H) (lo:=lo) (hi:=A) (i:=0) (j:=s.data.toList.length) T V (by rw[N];rfl) (by rw[E];rfl) (a0p _) (a0a _);rw[a0O,Nat.sub_zero,a18]at this;exact this
   ·rename_i k i E N;simp only[a00,a04]at h;obtain⟨rfl,rfl⟩:=h;obtain⟨U,q2⟩:=Z;have:=sl_str (d:=d) (ty:=ty) (pos:=pos) (af:=af) (gd:=gd) (H:=H) (lo:=lo) (hi:=A) (i:=i.toNat) (j:=s.data.toList.length) T V (by rw[N];rfl) (by rw[E];exact optN U) (by omega) (a0a _);rw[a0g (by rw[a0w];omega)]at this;exact this
   ·rename_i k j E N;simp only[a00,a04]at h;obtain⟨rfl,rfl⟩:=h;obtain⟨U,q2⟩:=Z;have:=sl_str (d:=d) (ty:=ty) (pos:=pos) (af:=af) (gd:=gd) (H:=H) (lo:=lo) (hi:=A) (i:=0) (j:=j.toNat) T V (by rw[N];exact optN U) (by rw[E];rfl) (a0p _) (by omega);simpa using this
   ·rename_i k i k' j E N;simp only[a00,a04]at h;obtain⟨rfl,rfl⟩:=h;obtain⟨U,q2,q3⟩:=Z;exact sl_str (lo:=lo) (hi:=A) (i:=i.toNat) (j:=j.toNat) T V (by rw[N];exact optN (by omega)) (by rw[E];exact optN U) (by omega) (by omega)
   cases h
  cases h
 split at h
 ·simp only[a00,a04]at h;obtain⟨rfl,rfl⟩:=h;refine⟨?_⟩;show ovl (bj P t (ρ x) (lo.map ρ) (A.map ρ) (Option.map ρ none) H) H=_;have ad:bj P t _ (lo.map ρ) (A.map ρ) none H=_:=Z;rw[T,a1G,ad];rfl
 cases h
theorem plen_ok{a:Value}(E:ρ x=a)(h:plen P t a=some (v,q)):AP P ρ ⟨d,.call ⟨.builtin .len, #[x], #[t]⟩,ty,pos,af,gd⟩ H (.val v,H):=by
 unfold plen at h;split at h
 ·rename_i s;split at h
  ·rename_i A;simp only[a00,a04]at h;obtain⟨rfl,rfl⟩:=h;obtain⟨⟨s⟩⟩:=s;exact ap_lenS (s:=s) E A
  cases h
 ·split at h
  ·rename_i A;simp only[a00,a04]at h;obtain⟨rfl,rfl⟩:=h;refine⟨?_⟩;show ovl (aLen P t (ρ x) H) H=_;rw[E];unfold aLen;rw[A];rfl
  cases h
 cases h
inductive PRes(P:Program)(G0:Nat)(K:bL)(ρ:Operand->Value)(o:Oper)(H:Heap)(v:Value):Prop where
 |val (h:AP P ρ o H (.val v,H))
 |call (g:FuncId) (args:List Value) (h:AP P ρ o H (.enter g args,H)) (hk:ey o.op=true) (hc:C P G0 K g args H fun v' H'=>v'=v/\H'=H)
theorem jV{ρ ρ':Operand->Value}: ∀{l:List Operand},(∀x,x∈l->ρ x=ρ' x)->eG ρ l=eG ρ' l
 | [],_=>rfl
 |x::l,h=>by show ρ x::eG ρ l=ρ' x::eG ρ' l;rw[h x (by simp),jV fun y A=>h y (by simp[A])]
theorem pmm_ok{w:Bool}{y:Operand}{A:Array TypeId}{a b:Value}(E:ρ x=a)(N:ρ y=b)(h:pmm w a b=some (v,q)):AP P ρ ⟨d,.call ⟨.builtin (bif w then .min else .max), #[x,y],A⟩,ty,pos,af,gd⟩ H (.val v,H):=by
 unfold pmm at h;split at h
 ·rename_i k n Z m;simp only[a00,a04]at h;obtain⟨rfl,rfl⟩:=h;have V:([ρ x,ρ y].all fun z=>iB z)=true:=by simp[E,N,iB,noA0]
  cases w with
  |true=>
   refine⟨?_⟩
   show bD P ρ ⟨d,.call ⟨.builtin .min, #[x,y],A⟩,ty,pos,af,gd⟩ H=_
   unfold bD
   have U:((Op.call ⟨.builtin .min, #[x,y],A⟩).operands.toList.all fun x=>iB (ρ x))=true:=by simp[Op.operands,Call.operands,E,N,iB,noA0]
   simp only[U,cond_true]
   have T:aE P (execOp ρ ⟨d,.call ⟨.builtin .min, #[x,y],A⟩,ty,pos,af,gd⟩)=some (.value (.int k (if m<n then m else n))):=by unfold execOp;simp[resolve,invoke,builtin,Builtin.min_,Builtin.min2,E,N]
   rw[T];rfl
  |false=>
   refine⟨?_⟩
   show bD P ρ ⟨d,.call ⟨.builtin .max, #[x,y],A⟩,ty,pos,af,gd⟩ H=_
   unfold bD
   have U:((Op.call ⟨.builtin .max, #[x,y],A⟩).operands.toList.all fun x=>iB (ρ x))=true:=by simp[Op.operands,Call.operands,E,N,iB,noA0]
   simp only[U,cond_true]
   have T:aE P (execOp ρ ⟨d,.call ⟨.builtin .max, #[x,y],A⟩,ty,pos,af,gd⟩)=some (.value (.int k (if m>n then m else n))):=by unfold execOp;simp[resolve,invoke,builtin,Builtin.max_,Builtin.max2,E,N]
   rw[T];rfl
 cases h
theorem pcall_ok{ρ ρ':Operand->Value}{c:Call}(A: ∀x,x∈(Op.call c).operands.toList->ρ x=ρ' x)(h:pcall P G0 K H hi ρ' c=some (v,q))(V:holds q):
  PRes P G0 K ρ ⟨d,.call c,ty,pos,af,gd⟩ H v:=by
 obtain⟨N,args,E⟩:=c
 cases N with
 |builtin b=>
  cases b with
  |len=>
   obtain⟨E⟩:=E
   obtain⟨args⟩:=args
   simp only[pcall]at h
   split at h
   ·exact .val (plen_ok (A _ (by simp[Op.operands,Call.operands])) h)
   cases h
  |min=>
   obtain⟨args⟩:=args
   simp only[pcall]at h
   split at h
   ·exact .val (pmm_ok (w:=true) (A _ (by simp[Op.operands,Call.operands])) (A _ (by simp[Op.operands,Call.operands])) h)
   cases h
  |max=>
   obtain⟨args⟩:=args
   simp only[pcall]at h
   split at h
   ·exact .val (pmm_ok (w:=false) (A _ (by simp[Op.operands,Call.operands])) (A _ (by simp[Op.operands,Call.operands])) h)
   cases h
  |_=>cases h
 |value f=>
  simp only[pcall]at h
  split at h
  ·rename_i U;simp only[a00,a04]at h;obtain⟨rfl,rfl⟩:=h;refine .call _ _ ⟨?_⟩ rfl V;show eM (eS P (ρ f) (eG ρ args.toList)) H=_;rw[A f (by simp[Op.operands,Call.operands]),jV (ρ':=ρ') (fun x T=>A x (by simp[Op.operands,Call.operands]at T⊢;exact .inr T)),U];rfl
  cases h
 |invoke r m=>cases h
theorem pop_ok{ρ ρ':Operand->Value}{op:Op}(A: ∀x,x∈op.operands.toList->ρ x=ρ' x)(h:pop P G0 K H hi ρ' op=some (v,q))(N:holds q):
  PRes P G0 K ρ ⟨d,op,ty,pos,af,gd⟩ H v:=by
 cases op with
 |move x=>
  simp only[pop,a00,a04]at h;obtain⟨rfl,rfl⟩:=h
  exact .val (ap_move (A x (by simp[Op.operands])))
 |assign x=>
  simp only[pop,a00,a04]at h;obtain⟨rfl,rfl⟩:=h
  exact .val (jG (A x (by simp[Op.operands])))
 |binOp op t x y yt=>exact .val (pbin_ok (A x (by simp[Op.operands])) (A y (by simp[Op.operands])) h N)
 |unOp op t x=>exact .val (pun_ok (A x (by simp[Op.operands])) h N)
 |convert s t x=>exact .val (pconv_ok (A x (by simp[Op.operands])) h N)
 |load t a=>
  simp only[pop]at h
  split at h
  ·simp only[a00,a04]at h;obtain⟨rfl,rfl⟩:=h;refine .val ⟨?_⟩;show dR P t (ρ a) H=_;rw[A a (by simp[Op.operands])];exact N
  cases h
 |index t x i=>exact .val (pidx_ok (A x (by simp[Op.operands])) (A i (by simp[Op.operands])) h N)
 |indexAddr t x i=>exact .val (pidxA_ok (A x (by simp[Op.operands])) (A i (by simp[Op.operands])) h N)
 |field t x f=>
  simp only[pop,optV]at h
  split at h
  ·rename_i T;simp only[a00,a04]at h;obtain⟨rfl,rfl⟩:=h;exact .val (ap_fv (A x (by simp[Op.operands])) T)
  cases h
 |fieldAddr s x f=>
  simp only[pop,optV]at h
  split at h
  ·rename_i T;simp only[a00,a04]at h;obtain⟨rfl,rfl⟩:=h;refine .val ⟨?_⟩;show ovl (gH P s (ρ x) f) H=_;rw[A x (by simp[Op.operands]),T];rfl
  cases h
 |extract x i=>
  simp only[pop,optV]at h
  split at h
  ·rename_i T;simp only[a00,a04]at h;obtain⟨rfl,rfl⟩:=h;exact .val (ap_ex (A x (by simp[Op.operands])) T)
  cases h
 |build t parts=>
  simp only[pop,optV]at h
  split at h
  ·rename_i z hz;split at h
   ·rename_i T;simp only[a00,a04]at h;obtain⟨rfl,rfl⟩:=h;refine .val (ap_bld ?_ hz T);apply a23;intro p hp;rw[A p.2 (by simp only[Op.operands,a0r];exact⟨p,by simpa using hp,rfl⟩)]
   cases h
  cases h
 |slice t x lo hi2 mx=>
  cases mx with
  |some _=>simp only[pop]at h;cases h
  |none=>
   simp only[pop]at h
   have U:lo.map ρ=lo.map ρ':=by
    cases lo with
    |none=>rfl
    |some o=>simp only[a1R];rw[A o (by simp[Op.operands])]
   have V:hi2.map ρ=hi2.map ρ':=by
    cases hi2 with
    |none=>rfl
    |some o=>simp only[a1R];rw[A o (by simp[Op.operands])]
   rw[←U,←V]at h
   exact .val (pslice_ok (A x (by simp[Op.operands])) h N)
 |call c=>exact pcall_ok A h N
 |nilCheck x=>
  simp only[pop]at h
  have E:=A x (by simp[Op.operands])
  split at h
  ·rename_i a Z;simp only[a00,a04]at h;obtain⟨rfl,rfl⟩:=h;refine .val ⟨?_⟩;show opNil (ρ x) H=_;rw[E,Z];rfl
  ·rename_i f a c Z;simp only[a00,a04]at h;obtain⟨rfl,rfl⟩:=h;refine .val ⟨?_⟩;show opNil (ρ x) H=_;rw[E,Z];rfl
  cases h
 |makeFunc fn first cap=>
  simp only[pop,a00,a04]at h;obtain⟨rfl,rfl⟩:=h
  refine .val ⟨?_⟩
  show some (AN.val (.func fn (first.map ρ) (cap.map ρ)),H)=_
  have U:first.map ρ=first.map ρ':=a23 fun x E=>A x (by simp[Op.operands]at E⊢;first|exact .inl E|exact .inr E)
  have V:cap.map ρ=cap.map ρ':=a23 fun x E=>A x (by simp[Op.operands]at E⊢;first|exact .inl E|exact .inr E)
  rw[U,V]
 |_=>cases h
end
end Go.R
end
noncomputable section
namespace Go.R
structure SS.Rel(S:SS)(f fr:Fn):Prop where
 sl: ∀t c v,lk S.m t=some (c,v)->fr t=(bif act S.G c then v else undef)
 no: ∀t,lk S.m t=none->fr t=f t
 gs: ∀s g,gl S.G s=some g->(∃c,lk S.m s=some (c,.bool g))\/(lk S.m s=none/\f s= .bool g)
 ks: ∀t c v,lk S.m t=some (c,v)->∀s w,(s,w)∈c->∃g,gl S.G s=some g
theorem gl_add{G:List (Nat×Bool)}{d s:Nat}{g r:Bool}(h:gl G s=some r):gl (iU G d g) s=some r:=by
 unfold iU;split
 ·exact h
 rename_i E;show(bif Nat.beq d s then some g else gl G s)=_;cases A:Nat.beq d s with
 |true=>have:=a08 A;subst this;rw[E]at h;cases h
 |false=>exact h
theorem jt{G:List (Nat×Bool)}{d:Nat}{g:Bool}(h: ∀r,gl G d=some r->r=g):gl (iU G d g) d=some g:=by
 unfold iU;split
 ·rename_i r A;rw[A,h r A]
 show(bif Nat.beq d d then some g else gl G d)=_;rw[a13];rfl
theorem gl_add_inv{G:List (Nat×Bool)}{d s:Nat}{g r:Bool}(h:gl (iU G d g) s=some r):gl G s=some r\/(s=d/\r=g):=by
 unfold iU at h;split at h
 ·exact .inl h
 have A:(bif Nat.beq d s then some g else gl G s)=some r:=h;cases E:Nat.beq d s with
 |true=>rw[E]at A;exact .inr ⟨(a08 E).symm,(Option.some.inj A).symm⟩
 |false=>rw[E]at A;exact .inl A
theorem lD{G:List (Nat×Bool)}{d:Nat}{g:Bool}: ∀{c:Ch},(∀s w,(s,w)∈c->∃r,gl G s=some r)->act (iU G d g) c=act G c
 | [],_=>rfl
 |(s,w)::c,h=>by
  obtain⟨r,A⟩:=h s w (by simp);show((match gl (iU G d g) s with|some g=>bq g w|none=>false)&&act (iU G d g) c)=((match gl G s with|some g=>bq g w|none=>false)&&act G c)
  rw[gl_add A,A,lD fun s w E=>h s w (by simp[E])]
theorem act_mem{G:List (Nat×Bool)}: ∀{c:Ch} {s:Nat} {w:Bool},act G c=true->memC s w c=true->gl G s=some w
 |(s',w')::c,s,w,h,A=>by
  simp only[act,a0f]at h;simp only[memC,a0M,a0f]at A;rcases A with⟨U,V⟩|A
  ·have N:=a08 U;have T:=bq_eq V;subst N T;have E:=h.1;split at E
   ·rename_i g Z;rw[Z,bq_eq E]
   cases E
  exact act_mem h.2 A
 | [],s,w,_,A=>by cases A
theorem act_sub{G:List (Nat×Bool)}: ∀{a c:Ch},act G c=true->subC a c=true->act G a=true
 | [],_,_,_=>rfl
 |(s,w)::a,c,h,hs=>by simp only[subC,a0f]at hs;have A:=act_mem h hs.1;simp only[act,A,act_sub h hs.2,a28];cases w<;>rfl
theorem impl_act{G:List (Nat×Bool)}{p:Prop}: ∀{c:Ch},act G c=true->impl G c p->p
 | [],_,h=>h
 |(s,w)::c,ha,h=>by
  simp only[act,a0f]at ha;obtain⟨A,E⟩:=ha;unfold impl at h;split at A
  ·rename_i g N;rw[N]at h;exact impl_act E (h (bq_eq A))
  cases A
section
variable {P:Program} {G0:Nat} {K:bL} {sz:Nat} {Q:Ex->Fn->Heap->Prop} {ops:Array Oper} {os:List Oper} {k:List Fr} {f fr:Fn} {H:Heap} {S S':SS}
theorem SS.Rel.add(h:S.Rel f fr){d:Nat}{g:Bool}(N:(∃c,lk S.m d=some (c,.bool g))\/(lk S.m d=none/\f d= .bool g)):SS.Rel ⟨S.m,iU S.G d g⟩ f fr:=by
 refine⟨fun t c v A=>?_,h.no,fun s r E=>?_,fun t c v A s w T=>?_⟩
 ·rw[h.sl t c v A];show _=bif act (iU S.G d g) c then v else undef
  rw[lD (h.ks t c v A)]
 ·rcases gl_add_inv E with h1|⟨rfl,rfl⟩
  ·exact h.gs s r h1
  exact N
 obtain⟨r,E⟩:=h.ks t c v A s w T;exact⟨r,gl_add E⟩
theorem SS.Rel.same(h:S.Rel f fr){d:Nat}{g:Bool}(U:(∃c,lk S.m d=some (c,.bool g))\/(lk S.m d=none/\f d= .bool g)): ∀r,gl S.G d=some r->r=g:=by
 intro r V;rcases h.gs d r V with⟨c,E⟩|⟨E,T⟩<;>rcases U with⟨Z,A⟩|⟨A,N⟩
 ·rw[E]at A;simp only[a00,a04,Value.bool.injEq]at A;exact A.2
 ·rw[E]at A;cases A
 ·rw[E]at A;cases A
 rw[T]at N;simpa using N
structure GOK(ops:Array Oper)(f fr:Fn)(S:SS)(g:Option (Nat×Bool))(c:Ch)(G1:List (Nat×Bool)):Prop where
 rel:SS.Rel ⟨S.m,G1⟩ f fr
 ks: ∀s w,(s,w)∈c->∃g,gl G1 s=some g
 on:act G1 c=true->match g with
  |none=>True
  |some (j,w)=>cF ops fr j=some w
 off:act G1 c=false->match g with
  |none=>False
  |some (j,w)=>cF ops fr j=none\/cF ops fr j=some (!w)
theorem kZ(V:S.Rel f fr){g:Option (Nat×Bool)}{c:Ch}{G1:List (Nat×Bool)}(h:lb ops f S g=some (c,G1)):GOK ops f fr S g c G1:=by
 unfold lb at h;split at h
 ·simp only[a00,a04]at h;obtain⟨rfl,rfl⟩:=h;exact⟨V,fun s w N=>by simp at N,fun _=>trivial,fun h=>by cases h⟩
 rename_i j w;split at h
 ·rename_i d hd;have ai: ∀(A:Ch) (γ:Bool),((∃c,lk S.m d=some (c,.bool γ))\/(lk S.m d=none/\f d= .bool γ))->(∀s w,(s,w)∈A->∃g,gl S.G s=some g)->(fr d=bif act S.G A then .bool γ else undef)->GOK ops f fr S (some (j,w)) ((d,w)::A) (iU S.G d γ):=by
   intro A γ ad ag E;have hG:=jt (G:=S.G) (d:=d) (g:=γ) (V.same ad);have ha:act (iU S.G d γ) ((d,w)::A)=(bq γ w&&act S.G A):=by show((match gl (iU S.G d γ) d with|some g=>bq g w|none=>false)&&act (iU S.G d γ) A)=_;rw[hG,lD ag]
   have hy: ∀v,fr d=v->cF ops fr j=match v with| .bool b=>some b|_=>none:=by intro v hv;unfold cF;rw[hd];show(match fr d with| .bool b=>some b|_=>none)=_;rw[hv]
   refine⟨V.add ad,fun s w' N=>?_,fun Z=>?_,fun T=>?_⟩
   ·rcases a0s.1 N with e|N
    ·injection e with e1 e2;subst e1;exact⟨γ,hG⟩
    obtain⟨r,aw⟩:=ag s w' N;exact⟨r,gl_add aw⟩
   ·rw[ha,a0f]at Z;rw[Z.2]at E;show cF ops fr j=some w;rw[hy _ E,bq_eq Z.1];rfl
   rw[ha]at T;show cF ops fr j=none\/cF ops fr j=some (!w);cases hc:act S.G A with
   |false=>rw[hc]at E;left;rw[hy _ E];rfl
   |true=>
    rw[hc]at E T
    right
    rw[hy _ E]
    cases γ<;>cases w<;>first|rfl|cases T
  split at h
  ·rename_i A γ U;simp only[a00,a04]at h;obtain⟨rfl,rfl⟩:=h;exact ai A γ (.inl ⟨_,U⟩) (V.ks d A _ U) (V.sl d A _ U)
  ·cases h
  rename_i U;split at h
  ·rename_i γ hf;simp only[a00,a04]at h;obtain⟨rfl,rfl⟩:=h;exact ai [] γ (.inr ⟨U,hf⟩) (fun s w N=>by simp at N) (by rw[V.no d U,hf];rfl)
  cases h
 cases h
theorem rel_put{m:List (Nat×Ch×Value)}{G:List (Nat×Bool)}{q q':Option Prop}{c:Ch}{d:Nat}{v:Value}(U:SS.Rel ⟨m,G⟩ f fr)(hk: ∀s w,(s,w)∈c->∃g,gl G s=some g)(h:putS q c G m d v=some (S',q')):
  SS.Rel S' f (upd fr d (bif act G c then v else undef))/\(holds q'->act G c=true->holds q):=by
 unfold putS at h
 split at h
 ·cases h
 rename_i hd
 simp only[a00,a04]at h
 obtain⟨rfl,rfl⟩:=h
 refine⟨⟨fun t N v' T=>?_,fun t T=>?_,fun s g V=>?_,fun t N v' T s w Z=>?_⟩,fun hq ha=>?_⟩
 ·have A:(bif Nat.beq d t then some (c,v) else lk m t)=some (N,v'):=T;unfold upd;cases E:Nat.beq d t with
  |true=>
   rw[E]at A
   simp only[cond_true,a00,a04]at A
   obtain⟨rfl,rfl⟩:=A
   rfl
  |false=>rw[E]at A;exact U.sl t N v' A
 ·have A:(bif Nat.beq d t then some (c,v) else lk m t)=none:=T;unfold upd;cases E:Nat.beq d t with
  |true=>rw[E]at A;cases A
  |false=>rw[E]at A;exact U.no t A
 ·have ad:Nat.beq d s=false:=by
   cases E:Nat.beq d s with
   |false=>rfl
   |true=>have:=a08 E;subst this;rw[hd]at V;cases V
  have e:lk ((d,c,v)::m) s=lk m s:=by show(bif Nat.beq d s then some (c,v) else lk m s)=_;rw[ad];rfl
  rcases U.gs s g V with⟨c0,h0⟩|h0
  ·exact .inl ⟨c0,e.trans h0⟩
  exact .inr ⟨e.trans h0.1,h0.2⟩
 ·have A:(bif Nat.beq d t then some (c,v) else lk m t)=some (N,v'):=T;cases E:Nat.beq d t with
  |true=>
   rw[E]at A
   simp only[cond_true,a00,a04]at A
   obtain⟨rfl,rfl⟩:=A
   exact hk s w Z
  |false=>rw[E]at A;exact U.ks t N v' A s w Z
 cases q with
 |none=>trivial
 |some p=>exact impl_act ha hq
theorem rd_ok(N:S.Rel f fr){c:Ch}(U:act S.G c=true){x:Operand}(V:S.can c x=true):cW fr x=S.rd f x:=by
 cases x with
 |tmp t=>
  show fr t=match lk S.m t with|some x=>x.2|none=>f t
  have A:(match lk S.m t with|some x=>subC x.1 c|none=>true)=true:=V
  cases E:lk S.m t with
  |none=>exact N.no t E
  |some y=>
   obtain⟨T,v⟩:=y
   rw[E]at A
   rw[N.sl t T v E,act_sub U A];rfl
 |_=>rfl
theorem stepS_ok{o:Oper}{q:Option Prop}{hi:Hint}(hr:S.Rel f fr)(h:stepS P G0 K H sz ops f S hi o=some (S',q))(hq:holds q):
  ∃d c A v,o.dst=some d/\Nat.ble (d+1) sz=true/\o.op.operands.toList.all (bw G0)=true/\lb ops f S o.guard=some (c,A)/\
   (act A c=true->PRes P G0 K (cW fr) ⟨some d,o.op,o.type,o.pos,o.after,none⟩ H v)/\SS.Rel S' f (upd fr d (bif act A c then v else undef)):=by
 unfold stepS at h
 split at h
 ·cases h
 rename_i d hd
 cases T:(Nat.ble (d+1) sz&&o.op.operands.toList.all (bw G0)) with
 |false=>rw[T]at h;cases h
 |true=>
  rw[T]at h
  simp only[cond_true]at h
  rw[a0f]at T
  split at h
  ·cases h
  rename_i c A hc
  have N:=kZ hr hc
  split at h
  ·rename_i s a b ax;split at h
   ·rename_i cc γ hl;cases E:(subC cc c&&(S.can ((s,true)::c) a&&S.can ((s,false)::c) b)) with
    |false=>rw[E]at h;cases h
    |true=>
     rw[E]at h
     simp only[cond_true]at h
     simp only[a0f]at E
     split at h
     ·rename_i v hv;have al:(∃c,lk S.m s=some (c,.bool γ))\/(lk S.m s=none/\f s= .bool γ):= .inl ⟨_,hl⟩;have ad:=SS.Rel.add (S:=⟨S.m,A⟩) N.rel (d:=s) (g:=γ) al;have hG:=jt (G:=A) (d:=s) (g:=γ) (N.rel.same al);have an: ∀s' w,(s',w)∈c->∃g,gl (iU A s γ) s'=some g:=fun s' w hm=>by obtain⟨r,ay⟩:=N.ks s' w hm;exact⟨r,gl_add ay⟩
      have V:act (iU A s γ) c=act A c:=lD N.ks;obtain⟨h1,_⟩:=rel_put ad an h;rw[V]at h1;refine⟨d,c,A,v,hd,T.1,T.2,hc,fun U=>?_,h1⟩;refine .val ⟨?_⟩;rw[ax];show fb (cW fr) (.tmp s) a b H=_;have e0:cW fr (.tmp s)= .bool γ:=by have:=N.rel.sl s cc _ hl;rw[act_sub U E.1]at this;exact this
      unfold fb;rw[e0];show some (AN.val (bif γ then cW fr a else cW fr b),H)=_;rw[ppick_ok hv];have Z: ∀(w:Bool) (x:Operand),γ=w->S.can ((s,w)::c) x=true->cW fr x=S.rd f x:=by intro w x hw hx;have a0:SS.Rel ⟨S.m,iU A s γ⟩ f fr:=ad;refine rd_ok (S:=⟨S.m,iU A s γ⟩) a0 (c:=(s,w)::c) ?_ hx;show((match gl (iU A s γ) s with|some g=>bq g w|none=>false)&&act (iU A s γ) c)=true;rw[hG,V,U,hw];cases w<;>rfl
      cases γ with
      |true=>rw[cond_true,cond_true,Z true a rfl E.2.1]
      |false=>rw[cond_false,cond_false,Z false b rfl E.2.2]
     cases h
   cases h
  cases E:o.op.operands.toList.all (S.can c) with
  |false=>rw[E]at h;cases h
  |true=>
   rw[E]at h
   simp only[cond_true]at h
   split at h
   ·rename_i v q0 hp;obtain⟨h1,h2⟩:=rel_put N.rel N.ks h;refine⟨d,c,A,v,hd,T.1,T.2,hc,fun U=>?_,h1⟩;refine pop_ok (fun x hx=>?_) hp (h2 hq U);have:=a0v.1 E x hx;exact rd_ok (S:=⟨S.m,A⟩) N.rel U this
   cases h
theorem wo_do{d:Nat}{o:Oper}{c:Ch}{E:List (Nat×Bool)}{v:Value}(V:o.dst=some d)(N:Nat.ble (d+1) sz=true)(U:o.op.operands.toList.all (bw G0)=true)(T:GOK ops f fr S o.guard c E)
  (Z:act E c=true->PRes P G0 K (cW fr) ⟨some d,o.op,o.type,o.pos,o.after,none⟩ H v) (h:WO P G0 K sz ops os k (upd fr d (bif act E c then v else undef)) H Q):WO P G0 K sz ops (o::os) k fr H Q:=by
 obtain⟨ad,op,ty,pos,af,gd⟩:=o
 simp only at V U T Z
 subst V
 cases A:act E c with
 |true=>
  rw[A]at h
  have base:WO P G0 K sz ops (⟨some d,op,ty,pos,af,none⟩::os) k fr H Q:=by
   cases Z A with
   |val hv=>exact aO hv U N h
   |call g args he _ hc=>exact wo_callG he U N hc (by rintro v' H' ⟨rfl,rfl⟩;exact h)
  cases gd with
  |none=>exact base
  |some jw=>
   obtain⟨j,w⟩:=jw
   exact ca (T.on A) rfl base
 |false=>
  rw[A]at h
  have:=T.off A
  cases gd with
  |none=>exact absurd this id
  |some jw=>
   obtain⟨j,w⟩:=jw
   rcases this with h1|h1
   ·exact wo_gn h1 N h
   exact wo_gf h1 rfl N h
def bnD:ID->Bool
 | .x []=>true
 | .x _=>false
 |_=>true
theorem okD_r{i:Nat}: ∀{D:List (Nat×ID)},D.all (fun e=>bnD e.2)=true->okD ops i .r D
 | [],_=>trivial
 |(j,e)::D,h=>by
  simp only[a1u,a0f]at h;refine⟨.inr ?_,okD_r h.2⟩;cases e with
  |x W=>
   cases W with
   |nil=>trivial
   |cons a b=>exact absurd h.1 (by simp[bnD])
  |_=>trivial
theorem okD_x{i:Nat}: ∀{D:List (Nat×ID)},D.all (fun e=>bnD e.2)=true->okD ops i (.x []) D
 | [],_=>trivial
 |(j,e)::D,h=>by
  simp only[a1u,a0f]at h;refine⟨.inr ?_,okD_x h.2⟩;cases e with
  |x W=>
   cases W with
   |nil=>exact⟨trivial,trivial⟩
   |cons a b=>exact absurd h.1 (by simp[bnD])
  |l b=>exact a0c
  |q S=>exact fun b A=>absurd A a0c
  |_=>trivial
theorem wf_weak{D:List (Nat×ID)}{i j:Nat}{e:ID}(U: ∀g,e.fits g->fh g=true)(h:WF2 P G0 K sz ops ((j,.r)::D) i os k f H Q):WF2 P G0 K sz ops ((j,e)::D) i os k f H Q:=⟨fun t fs V A=>by
 refine h.out t fs V ?_;cases fs with
 |nil=>exact absurd A id
 |cons x fs=>
  obtain⟨a,g⟩:=x
  obtain⟨E,N,T⟩:=A
  exact⟨E,U g N,T⟩⟩
theorem wf_callx{d:Tmp}{op:Op}{ty:TypeId}{pos:String}{af:Array Edge}{D:List (Nat×ID)}{i:Nat}{v:Value}{g:FuncId}{args:List Value}(ha:AP P (cW f) ⟨some d,op,ty,pos,af,none⟩ {H with log:=[]} (.enter g args,{H with log:=[]}))(ho:op.operands.toList.all (bw G0)=true)(hd:Nat.ble (d+1) sz=true)(hk:ey op=true)
  (hc:C P G0 K g args {H with log:=[]} fun v' H'=>v'=v/\H'={H with log:=[]}) (ag:okD ops i (.x []) D)
  (h:WF2 P G0 K sz ops ((i,.x [])::D) (i+1) os k (upd f d v) H Q):WF2 P G0 K sz ops D i (⟨some d,op,ty,pos,af,none⟩::os) k f H Q:=⟨fun t fs Z U=>by
 obtain⟨E,v',H2,ad,rfl,rfl⟩:=hc.out
 obtain⟨T,h1,h2⟩:=gn (s:=⟨t,sz,{H with log:=[]}⟩) (d:=some d) (v:=v') hd
 have hi:=bt (ops:=ops) (f:=f) (o:=⟨some d,op,ty,pos,af,none⟩) (n:=H.next) (log:=[]) (W:=[]) rfl hk (fun b hb=>by simp at hb) t sz H Z
 obtain⟨A,e,s',h3,h4⟩:=h.out T ((i,du ops ⟨some d,op,ty,pos,af,none⟩ ⟨t,sz,H⟩ H.next [])::fs) (by rw[h2,Z];rfl) ⟨rfl,hi,U⟩
 refine⟨Nat.max E A,e,s',?_,h4⟩
 have ai:step P G0 (call P G0 K (Nat.max E A)) ops ⟨some d,op,ty,pos,af,none⟩ ⟨t,sz,{H with log:=[]}⟩=some ⟨T,sz,{H with log:=[]}⟩:=by unfold step bd;simp only[cond_true,ho,dC,Z,ha.eq,dG (a1F E A) _ _ _ _ ad];exact h1
 unfold bn fy
 rw[ai]
 simp only[cO hi U ag,cond_true,cV,a11]
 refine de (a1k (a1b E A)) k _ _ (fun x N=>?_) _ h3
 cases V:bn P G0 (call P G0 K A) ops (i+1) ((i,du ops ⟨some d,op,ty,pos,af,none⟩ ⟨t,sz,H⟩ H.next [])::fs) os ⟨T,sz,H⟩ with
 |none=>rw[V]at N;cases N
 |some y=>
  have:=dD (dG (P:=P) (G:=G0) (K:=K) (a1b E A)) _ _ _ _ _ V
  rw[V]at N
  show dB (bn P G0 (call P G0 K (Nat.max E A)) ops (i+1) _ os ⟨T,sz,H⟩)=_
  rw[this];exact N⟩
theorem wf_do{D:List (Nat×ID)}{i d:Nat}{o:Oper}{c:Ch}{T:List (Nat×Bool)}{v:Value}(Z:D.all (fun e=>bnD e.2)=true)(hd:o.dst=some d)(E:Nat.ble (d+1) sz=true)(U:o.op.operands.toList.all (bw G0)=true)(A:GOK ops f fr S o.guard c T)
  (hp:act T c=true->PRes P G0 K (cW fr) ⟨some d,o.op,o.type,o.pos,o.after,none⟩ {H with log:=[]} v) (h:WF2 P G0 K sz ops ((i,.r)::D) (i+1) os k (upd fr d (bif act T c then v else undef)) H Q):WF2 P G0 K sz ops D i (o::os) k fr H Q:=by
 obtain⟨al,op,ty,pos,af,gd⟩:=o
 simp only at hd U A hp
 subst hd
 cases N:act T c with
 |true=>
  rw[N]at h
  have base:WF2 P G0 K sz ops D i (⟨some d,op,ty,pos,af,none⟩::os) k fr H Q:=by
   cases hp N with
   |val hv=>exact aJ (id:= .r) hv U E (did_r fun b E=>by simp at E) (okD_r Z) h
   |call g args he hk hc=>
    exact wf_callx he U E hk hc (okD_x Z) (wf_weak (fun g A=>by obtain⟨w,rfl,hw⟩:=A;cases w with
     |nil=>rfl
     |cons a b=>exact absurd (hw a (by simp)) a0c) h)
  cases gd with
  |none=>exact base
  |some jw=>
   obtain⟨j,w⟩:=jw
   exact wf_gt (A.on N) rfl base
 |false=>
  rw[N]at h
  have:=A.off N
  cases gd with
  |none=>exact absurd this id
  |some jw=>
   obtain⟨j,w⟩:=jw
   have V:=wf_weak (e:= .v) (fun g A=>by rw[show g= .v from A];rfl) h
   rcases this with h1|h1
   ·exact wf_gn h1 E V
   exact wf_gf h1 rfl E V
theorem holds_and{q:Option Prop}{p:Prop}(h:andO q p):holds q/\p:=by
 cases q with
 |none=>exact⟨trivial,h⟩
 |some q=>exact h
theorem wo_row{hs:List (Nat×Hint)}: ∀{a:List Oper} {i:Nat} {S S':SS} {p:Prop} {fr:Fn},rgL P G0 K H sz ops f hs i a S=some (S',p)->p->S.Rel f fr->
  (∀A,S'.Rel f A->WO P G0 K sz ops os k A H Q)->WO P G0 K sz ops (a++os) k fr H Q
 | [],i,S,S',p,fr,h,_,hr,hk=>by simp only[rgL,a00,a04]at h;obtain⟨rfl,_⟩:=h;exact hk fr hr
 |o::a,i,S,S',p,fr,h,hp,hr,hk=>by
  unfold rgL at h;split at h
  ·cases h
  rename_i S1 q h1;split at h
  ·cases h
  rename_i S2 p2 h2;simp only[a00,a04]at h;obtain⟨rfl,rfl⟩:=h;obtain⟨hq,E⟩:=holds_and hp;obtain⟨d,c,G1,v,N,T,U,V,Z,e6⟩:=stepS_ok hr h1 hq;exact wo_do N T U (kZ hr V) Z (wo_row h2 E e6 hk)
def rs(i:Nat):List Oper->List (Nat×ID)->List (Nat×ID)
 | [],D=>D
 |_::a,D=>rs (i+1) a ((i,.r)::D)
theorem wf_row{hs:List (Nat×Hint)}: ∀{a:List Oper} {i:Nat} {D:List (Nat×ID)} {S S':SS} {p:Prop} {fr:Fn},D.all (fun e=>bnD e.2)=true->rgL P G0 K {H with log:=[]} sz ops f hs i a S=some (S',p)->p->S.Rel f fr->
  (∀A,S'.Rel f A->WF2 P G0 K sz ops (rs i a D) (i+a.length) os k A H Q)->WF2 P G0 K sz ops D i (a++os) k fr H Q
 | [],i,D,S,S',p,fr,_,h,_,hr,hk=>by simp only[rgL,a00,a04]at h;obtain⟨rfl,_⟩:=h;exact hk fr hr
 |o::a,i,D,S,S',p,fr,hD,h,hp,hr,hk=>by
  unfold rgL at h;split at h
  ·cases h
  rename_i S1 q h1;split at h
  ·cases h
  rename_i S2 p2 h2;simp only[a00,a04]at h;obtain⟨rfl,rfl⟩:=h;obtain⟨hq,E⟩:=holds_and hp;obtain⟨d,c,G1,v,T,U,V,Z,e5,e6⟩:=stepS_ok hr h1 hq;refine wf_do hD T U V (kZ hr Z) e5 (wf_row (by simp only[a1u,hD,a28];rfl) h2 E e6 fun A N=>?_);have:=hk A N;rw[a09,show i+(a.length+1)=i+1+a.length by omega]at this;exact this
theorem fins_ok{m:List (Nat×Ch×Value)}{G:List (Nat×Bool)}(E:SS.Rel ⟨m,G⟩ f fr): ∀{A:List Nat} {l:List (Nat×Value)},fins m A=some l->ap fr l
 | [],l,h=>by simp only[fins,a00]at h;subst h;trivial
 |d::A,l,h=>by
  unfold fins at h;split at h
  ·rename_i v l' N T;simp only[a00]at h;subst h;exact⟨by have:=E.sl d [] v N;exact this,fins_ok E T⟩
  cases h
theorem rel_leaves{m:List (Nat×Ch×Value)}{G:List (Nat×Bool)}(U:SS.Rel ⟨m,G⟩ f fr){lo hi:Nat}{ex:List Nat}(h:m.all (fun e=>inR lo hi ex e.1)=true):Leaves lo hi ex f fr:=⟨fun j T=>by
 refine U.no j ?_;have E: ∀(m:List (Nat×Ch×Value)),m.all (fun e=>inR lo hi ex e.1)=true->lk m j=none:=by
  intro m;induction m with
  |nil=>intro _;rfl
  |cons e m ih=>
   obtain⟨s,x⟩:=e
   intro A
   simp only[a1u,a0f]at A
   show(bif Nat.beq s j then some x else lk m j)=none
   cases N:Nat.beq s j with
   |true=>have:=a08 N;subst this;rw[T]at A;cases A.1
   |false=>exact ih A.2
 exact E m h⟩
theorem rel0:SS.Rel ⟨[],[]⟩ f f:=⟨fun t c v h=>(by cases h),fun _ _=>rfl,fun s g h=>(by cases h),fun t c v h=>(by cases h)⟩
theorem top_ok{i:Nat}{a:List Oper}{hs:List (Nat×Hint)}{lo hi:Nat}{ex N:List Nat}{l:List (Nat×Value)}{p:Prop}(h:fF P G0 K H sz ops f i a hs lo hi ex N=some (l,p)):
  ∃S,rgL P G0 K H sz ops f hs i a ⟨[],[]⟩=some (S,p)/\∀fr,S.Rel f fr->∃g,fr=kG (hav lo hi ex g f) l:=by
 unfold fF at h
 split at h
 ·cases h
 rename_i S V T
 cases A:S.m.all (fun e=>inR lo hi ex e.1) with
 |false=>rw[A]at h;cases h
 |true=>
  rw[A]at h
  simp only[cond_true]at h
  split at h
  ·rename_i l' U;simp only[a00,a04]at h;obtain⟨rfl,rfl⟩:=h;refine⟨S,T,fun fr E=>⟨fr,?_⟩⟩;rw[←(rel_leaves E A).eq,gh (fins_ok E U)]
  cases h
theorem wk_rg{id:Nat}(hs:List (Nat×Hint))(lo hi:Nat)(ex:List Nat){A:List Nat}{l:List (Nat×Value)}{p:Prop}(h:fF P G0 K H sz ops f 0 ops.toList hs lo hi ex A=some (l,p))(U:p)
  (T: ∀g,WK P G0 K sz .skip k (kG (hav lo hi ex g f) l) H Q):WK P G0 K sz (.region id ops false) k f H Q:=by
 obtain⟨S,E,N⟩:=top_ok h
 refine aa ?_
 have:=wo_row (os:=[]) (k:=k) (Q:=Q) E U rel0 (fun fr V=>by obtain⟨g,rfl⟩:=N fr V;exact dQ (T g))
 rwa [a0B]at this
theorem wk_rgD{id:Nat}(A:(aP ops&&P.follows .mixedOrders)=true)(hs:List (Nat×Hint))(lo hi:Nat)(ex:List Nat){E:List Nat}{l:List (Nat×Value)}{p:Prop}(h:fF P G0 K {H with log:=[]} sz ops f 0 ops.toList hs lo hi ex E=some (l,p))(V:p)
  (U: ∀g,WK P G0 K sz .skip k (kG (hav lo hi ex g f) l) H Q):WK P G0 K sz (.region id ops true) k f H Q:=by
 obtain⟨S,N,T⟩:=top_ok h
 refine aI A ?_
 have:=wf_row (os:=[]) (k:=k) (Q:=Q) (D:=[]) rfl N V rel0 (fun fr A=>by obtain⟨g,rfl⟩:=T fr A;exact bf (U g))
 rwa [a0B]at this
theorem wo_rg(n i:Nat)(hs:List (Nat×Hint))(lo hi:Nat)(ex:List Nat){os:List Oper}{A:List Nat}{l:List (Nat×Value)}{p:Prop}(h:fF P G0 K H sz ops f i (gi os n) hs lo hi ex A=some (l,p))(U:p)
  (T: ∀g,WO P G0 K sz ops (gC os n) k (kG (hav lo hi ex g f) l) H Q):WO P G0 K sz ops os k f H Q:=by
 obtain⟨S,E,N⟩:=top_ok h
 have:=wo_row (os:=gC os n) (k:=k) (Q:=Q) E U rel0 (fun fr V=>by obtain⟨g,rfl⟩:=N fr V;exact T g)
 rwa [cb,cr,a1H]at this
end
end Go.R
end
noncomputable section
namespace Go.R
def foc:Nat->Code->List Fr->Code×List Fr
 |0,c,k=>(c,k)
 |n+1,.seq a b,k=>foc n a (.seq b::k)
 |n+1,.block id b,k=>foc n b (.block id::k)
 |n+1,.skip,.seq b::k=>foc n b k
 |n+1,.skip,.block _::k=>foc n .skip k
 |n+1,.exit id,.seq _::k=>foc n (.exit id) k
 |n+1,.exit id,.block id'::k=>bif Nat.beq id id' then foc n .skip k else foc n (.exit id) k
 |_+1,c,k=>(c,k)
section
variable {P:Program} {G:Nat} {K:bL} {sz:Nat} {Q:Ex->Fn->Heap->Prop} {f:Fn} {H:Heap}
theorem wk_foc': ∀(n:Nat) (c:Code) (k:List Fr),WK P G K sz (foc n c k).1 (foc n c k).2 f H Q->WK P G K sz c k f H Q:=by
 intro n;induction n with
 |zero=>intro c k h;exact h
 |succ n ih=>
  intro c k h
  cases c with
  |seq a b=>exact wk_seq (ih _ _ h)
  |block id b=>exact wk_block (ih _ _ h)
  |skip=>
   cases k with
   |nil=>exact h
   |cons x k=>
    cases x with
    |seq b=>exact wk_skip_seq (ih _ _ h)
    |block id=>exact kA (ih _ _ h)
  |exit id=>
   cases k with
   |nil=>exact h
   |cons x k=>
    cases x with
    |seq b=>exact wk_exit_seq (ih _ _ h)
    |block id'=>
     have A:WK P G K sz (bif Nat.beq id id' then foc n .skip k else foc n (.exit id) k).1 (bif Nat.beq id id' then foc n .skip k else foc n (.exit id) k).2 f H Q:=h
     cases E:Nat.beq id id' with
     |true=>
      have:=a08 E
      subst this
      rw[E]at A
      exact kC (ih _ _ A)
     |false=>
      rw[E]at A
      exact iy E (ih _ _ A)
  |_=>exact h
variable {c c1 c2:Code} {k k1 k2:List Fr}
theorem aA(n:Nat)(A:foc n c k=(c1,k1))(h:WK P G K sz c1 k1 f H Q):WK P G K sz c k f H Q:=wk_foc' n c k (by rw[A];exact h)
theorem wk_if(n m:Nat){x:Operand}{a b:Code}{v:Bool}(Z:cW f x= .bool v)(U:bw G x=true)(E:foc n a k=(c1,k1))(N:foc m b k=(c2,k2))(V:v=true->WK P G K sz c1 k1 f H Q)(T:v=false->WK P G K sz c2 k2 f H Q):WK P G K sz (.cond x a b) k f H Q:=
 wk_cond Z U (fun A=>aA n E (V A)) (fun A=>aA m N (T A))
theorem bB(n:Nat){x:Operand}{a b:Code}{v:Bool}(T:cW f x= .bool v)(N:v=true)(E:bw G x=true)(A:foc n a k=(c1,k1))(h:WK P G K sz c1 k1 f H Q):WK P G K sz (.cond x a b) k f H Q:=wk_true T N E (aA n A h)
theorem wk_iff(n:Nat){x:Operand}{a b:Code}{v:Bool}(T:cW f x= .bool v)(N:v=false)(E:bw G x=true)(A:foc n b k=(c1,k1))(h:WK P G K sz c1 k1 f H Q):WK P G K sz (.cond x a b) k f H Q:=wk_false T N E (aA n A h)
theorem bP(J:Fn->Heap->Prop)(E:(∀A H',J A H'->WK P G K sz .skip k A H' Q)->WK P G K sz c k f H Q)(N: ∀A H',J A H'->WK P G K sz .skip k A H' Q):WK P G K sz c k f H Q:=E N
theorem wr(n:Nat){id:Nat}{ops:Array Oper}(hs:List (Nat×Hint))(lo hi:Nat)(ex:List Nat)(l:List (Nat×Value)){p:Prop}(N:p)(h:fF P G K H sz ops f 0 ops.toList hs lo hi ex (eG Prod.fst l)=some (l,p))(A:foc n .skip k=(c1,k1))
  (E: ∀g,WK P G K sz c1 k1 (kG (hav lo hi ex g f) l) H Q):WK P G K sz (.region id ops false) k f H Q:=wk_rg hs lo hi ex h N fun g=>aA n A (E g)
theorem wrD(n:Nat){id:Nat}{ops:Array Oper}(hs:List (Nat×Hint))(lo hi:Nat)(ex:List Nat)(l:List (Nat×Value)){p:Prop}(N:p)(T:(aP ops&&P.follows .mixedOrders)=true)(h:fF P G K {H with log:=[]} sz ops f 0 ops.toList hs lo hi ex (eG Prod.fst l)=some (l,p))(A:foc n .skip k=(c1,k1))
  (E: ∀g,WK P G K sz c1 k1 (kG (hav lo hi ex g f) l) H Q):WK P G K sz (.region id ops true) k f H Q:=wk_rgD T hs lo hi ex h N fun g=>aA n A (E g)
theorem wro(n i:Nat){ops:Array Oper}{os A:List Oper}(hs:List (Nat×Hint))(lo hi:Nat)(ex:List Nat)(l:List (Nat×Value)){p:Prop}(T:p)(h:fF P G K H sz ops f i (gi os n) hs lo hi ex (eG Prod.fst l)=some (l,p))(E:gC os n=A)
  (N: ∀g,WO P G K sz ops A k (kG (hav lo hi ex g f) l) H Q):WO P G K sz ops os k f H Q:=wo_rg n i hs lo hi ex h T (by rw[E];exact N)
theorem au(n:Nat){ops:Array Oper}(A:foc n .skip k=(c1,k1))(h:WK P G K sz c1 k1 f H Q):WO P G K sz ops [] k f H Q:=dQ (aA n A h)
end
theorem vA{a b:Prop}(h:a)(k:b):a/\b:=⟨h,k⟩
theorem vi{n:Int}(h: -9223372036854775808<=n/\n<9223372036854775808:=by first|(dsimp only;omega)|omega):rng .i64 n:=h
theorem vu{n:Int}(h:0<=n/\n<18446744073709551616):rng .u64 n:=h
section
variable {P:Program} {G:Nat} {K:bL} {H:Heap} {F:Fz} {B:Base} {L R:List Fp}
theorem ld1{b o i:Nat}{cs:List Value}{w:Value}{t:TypeId}(hc:HC H.get b o cs)(N:aggOf P t=some false)(T:cs[i]?=some w):LDv P H t (.pointer (some ⟨b,o+i,none⟩)) w:=by obtain⟨all,U,V,A,E⟩:=hc.get T;show ovl (H.loadV P t ⟨b,o+i,none⟩) H=_;unfold Heap.loadV;rw[N];simp only;unfold Heap.cellAt;simp only[A,gr,E];rfl
theorem ldN{b o i n:Nat}{cs l:List Value}{t:TypeId}(hc:HC H.get b o cs)(U:aggOf P t=some true)(hs:cM P t=some n)(V:Nat.ble (i+n) cs.length=true)(A:gi (gC cs i) n=l):LDv P H t (.pointer (some ⟨b,o+i,none⟩)) (.agg ⟨l⟩):=by obtain⟨all,Z,ro,E,N,T⟩:=hc.part (a03 V);rw[cb,cr]at A;show ovl (H.loadV P t ⟨b,o+i,none⟩) H=_;unfold Heap.loadV;rw[U];simp only[hs];unfold Heap.loadN;rw[←A];simp only[E,cb,cr,bO,N,T,a13,cond_true];rfl
theorem hc0{b o:Nat}{cs:List Value}(h:HC H.get b o cs):HC ({H with log:=[]}:Heap).get b o cs:=h
theorem cq{f:FuncId}{args:List Value}{Q:Value->Heap->Prop}{v:Value}(h:C P G K f args H Q)(A: ∀v' H',Q v' H'->v'=v/\H'=H):C P G K f args H fun v' H'=>v'=v/\H'=H:=h.mono A
section
variable {α:Type} [Rp α] {v:Value} {l:List α}
theorem Sv.view{get:Nat->Option AObj}(h:Sv F get v l): ∃cf:Nat->List Value,∀(j:Nat),(∀d:α,j<l.length->Rp.rep F (cf j) (l.getD j d)/\HC get (sB v) (sO v+j*Rp.sz α) (cf j))/\(l.length<=j->cf j=[]):=by
 have h0: ∀j,∃cs,(∀(d:α),j<l.length->Rp.rep F cs (l.getD j d)/\HC get (sB v) (sO v+j*Rp.sz α) cs)/\(l.length<=j->cs=[]):=by
  intro j;by_cases A:j<l.length
  ·obtain⟨cs,N,T⟩:=h.at (a06 A);refine⟨cs,fun d _=>⟨?_,T⟩,fun h=>absurd h (by omega)⟩;rw[a02,a06 A];exact N
  exact⟨[],fun _ E=>absurd E A,fun _=>rfl⟩
 exact⟨fun j=>(h0 j).choose,fun j=>(h0 j).choose_spec⟩
abbrev VW(F:Fz)(get:Nat->Option AObj)(v:Value)(l:List α)(cf:Nat->List Value)(j:Nat):Prop:=(∀d:α,j<l.length->Rp.rep F (cf j) (l.getD j d)/\HC get (sB v) (sO v+j*Rp.sz α) (cf j))/\(l.length<=j->cf j=[])
theorem Sv.ix{get:Nat->Option AObj}(h:Sv F get v l){j:Int}(h0:0<=j:=by first|(dsimp only;omega)|omega)(A:j<l.length:=by first|(dsimp only;omega)|omega):IX v j:=by
 rcases h with⟨_,rfl⟩|⟨b,off,k,o,rfl,T,cs,N,ro,rfl,U,E,V,Z⟩
 ·simp at A;omega
 exact⟨b,off,_,k,rfl,h0,A,E⟩
end
def sA:Value->Option Addr
 | .slice a _ _=>a
 |_=>none
def sK:Value->Nat
 | .slice _ _ k=>k
 |_=>0
abbrev cA(cs:List Value)(i:Nat):Option Addr:=sA (cs.getD i undef)
abbrev cK(cs:List Value)(i:Nat):Nat:=sK (cs.getD i undef)
end
theorem cp{α:Type}{l:List α}{j:Nat}{d:α}(h:l.length<=j):l.getD j d=d:=by rw[a02,a0C h];rfl
section
variable {F:Fz} {get:Nat->Option AObj} {v:Value} {cf:Nat->List Value} {j:Nat}
theorem vI{l:List Int}(h:VW F get v l cf j)(N:j<l.length:=by first|(dsimp only;omega)|omega):HC get (sB v) (sO v+j*Rp.sz Int) [.int .i64 (l.getD j 0)]:=by obtain⟨⟨E,_⟩,A⟩:=h.1 0 N;rw[E]at A;exact A
theorem fI{l:List Int}(h:VW F get v l cf j):in64 (l.getD j 0):=by
 rcases a0i j l.length with hj|hj
 ·exact(h.1 0 hj).1.2
 rw[cp hj];decide
theorem vB{l:List Bool}(h:VW F get v l cf j)(N:j<l.length:=by first|(dsimp only;omega)|omega):HC get (sB v) (sO v+j*Rp.sz Bool) [.bool (l.getD j false)]:=by obtain⟨E,A⟩:=h.1 false N;rw[show cf j=_ from E]at A;exact A
theorem vS{l:List Str}(h:VW F get v l cf j)(N:j<l.length:=by first|(dsimp only;omega)|omega):HC get (sB v) (sO v+j*Rp.sz Str) [.string ⟨⟨(l.getD j default).b⟩⟩]:=by obtain⟨E,A⟩:=h.1 default N;rw[show cf j=_ from E]at A;exact A
theorem vU{l:List U64}(h:VW F get v l cf j)(N:j<l.length:=by first|(dsimp only;omega)|omega):HC get (sB v) (sO v+j*Rp.sz U64) [.int .u64 (l.getD j default).n]:=by obtain⟨⟨E,_⟩,A⟩:=h.1 default N;rw[E]at A;exact A
theorem fU{l:List U64}(h:VW F get v l cf j):0<=(l.getD j default).n/\(l.getD j default).n<18446744073709551616:=by
 rcases a0i j l.length with hj|hj
 ·exact(h.1 default hj).1.2
 rw[cp hj];exact⟨Int.le_refl _,by decide⟩
theorem vL{α:Type} [Rp α]{l:List (List α)}(h:VW F get v l cf j)(N:j<l.length:=by first|(dsimp only;omega)|omega):HC get (sB v) (sO v+j*Rp.sz (List α)) [.slice (cA (cf j) 0) (l.getD j default).length (cK (cf j) 0)]:=by obtain⟨⟨a,k,E,_⟩,A⟩:=h.1 default N;rw[E]at A⊢;exact A
theorem fL{α:Type} [Rp α]{l:List (List α)}(h:VW F get v l cf j):SR F (.slice (cA (cf j) 0) (l.getD j default).length (cK (cf j) 0)) (l.getD j default):=by
 rcases a0i j l.length with hj|hj
 ·obtain⟨⟨a,k,A,E⟩,_⟩:=h.1 default hj;rw[A];exact E
 rw[cp hj,h.2 hj];exact SR.nil
theorem ap_callc{P:Program}{A:Operand}{d:Option Tmp}{ty:TypeId}{pos:String}{af:Array Edge}{gd:Option (Nat×Bool)}{H:Heap}{args:Array Operand}{E:Array TypeId}{i:FuncId}{fn:Func}{f:Fn}{l:List Value}{x y:Array Value}(V:cW f A= .func (.func i) x y)(T:P.funcs[i]?=some fn)(N:(fn.body.isSome&& !(fn.name== "runtime.NumGoroutine"))=true)(U:appL x.toList (appL (eG (cW f) args.toList) y.toList)=l):
  AP P (cW f) ⟨d,.call ⟨.value A,args,E⟩,ty,pos,af,gd⟩ H (.enter i l,H):=by
 refine⟨?_⟩
 show eM (eS P (cW f A) (eG (cW f) args.toList)) H=_
 rw[V]
 unfold eS
 simp only[T,N,cond_true,U]
 rfl
end
theorem vq{a b:Int}(E:in64 a)(hb:b≠ -1):rng .i64 (a.tdiv b):=by
 show in64 _;by_cases h0:b=0
 ·subst h0;rw[Int.tdiv_zero];decide
 have A:(a.tdiv b).natAbs=a.natAbs/b.natAbs:=Int.natAbs_tdiv a b;by_cases N:b=1
 ·subst N;rw[Int.tdiv_one];exact E
 have T:2<=b.natAbs:=by omega
 have U:(a.tdiv b).natAbs*2<=a.natAbs:=by rw[A];exact a0d (Nat.mul_le_mul_left _ T) (Nat.div_mul_le_self _ _)
 obtain⟨V,Z⟩:=E;clear A;constructor<;>omega
theorem ve{n m:Int}(h:n=m)(A: -9223372036854775808<=m/\m<9223372036854775808):n=m/\rng .i64 m:=⟨h,A⟩
section
variable {P:Program} {t:TypeId} {fs:Array Field} {xs ys:List Value} {bs:List Bool}
theorem agNe(E:xs.all noA0=true)(N:ys.all noA0=true)(hu:P.underlying t=some (.struct fs))(hs:P.stoodInHeld t=false)(hg:P.eqGuardType P.depth t=false)(h:EqFs P 9999 ⟨xs⟩ ⟨ys⟩ fs.toList bs):AGB P .neq t (.agg ⟨xs⟩) (.agg ⟨ys⟩) (.bool (!bs.all id)):=by
 intro ρ x y yt d ty pos af gd H A T;refine⟨?_⟩;show aBin P ρ _ .neq t (ρ x) y H=_;rw[A];show bD P ρ _ H=_;unfold bD;have Z:((Op.binOp .neq t x y yt).operands.toList.all fun x=>iB (ρ x))=true:=by simp[Op.operands,A,T,noA_cells E,noA_cells N]
 simp only[Z,cond_true];have h2:aE P (execOp ρ ⟨d,.binOp .neq t x y yt,ty,pos,af,gd⟩)=some (.value (Value.bool (!bs.all id))):=by
  unfold execOp;simp only[A,T,aM];have U:aE P (eqGuard .neq t x y (.agg ⟨xs⟩) (.agg ⟨ys⟩))=some ():=by simp[eqGuard,hg]
  have V:aE P (binOp .neq t (.agg ⟨xs⟩) (.agg ⟨ys⟩))=some (Value.bool (!bs.all id)):=by show aE P (Op.equal t (.agg ⟨xs⟩) (.agg ⟨ys⟩)>>=fun b=>(Pure.pure (Value.bool (!b)):Sem Value))=_;rw[aM,show Op.equal t (.agg ⟨xs⟩) (.agg ⟨ys⟩)=Op.equalIn (9999+1) t (.agg ⟨xs⟩) (.agg ⟨ys⟩) from rfl,eq_struct hu hs h];rfl
  simp only[U,V,a0q];rfl
 rw[h2];rfl
end
end Go.R
end
noncomputable section
namespace Go.R
section
variable {B:Base} {F:Fz} {H:Heap} {L R:List Fp} {x:Fp}
theorem HS.first(h:HS B F H (x::L) R):HS B F H [x] R:=HS.sub h (by simp)
theorem HS.didW{A:Heap}{W:List Nat}(h:HS (.of {A with log:=[]} W) F H L R): ∀b,b∈H.log->A.next<=b\/b∈W:=fun b E=>by
 rcases h.log b E with h1|h1|h1
 ·simp[Base.of]at h1
 ·exact .inl h1
 exact .inr h1
end
end Go.R
end
namespace Go.R
theorem bA{P:Program}{ρ:Operand->Value}{d:Option Tmp}{ty:TypeId}{pos:String}{af:Array Edge}{gd:Option (Nat×Bool)}{H:Heap}{x:Operand}{a:Addr}(A:ρ x= .pointer (some a)):AP P ρ ⟨d,.nilCheck x,ty,pos,af,gd⟩ H (.val (.pointer (some a)),H):=by refine⟨?_⟩;show opNil (ρ x) H=_;rw[A];rfl
end Go.R
namespace Go.R
theorem over_all: ∀(cs A:List Value),cs.length=A.length->over cs A=A
 | [],[],_=>rfl
 | [],_::_,h=>by simp at h
 |_::_,[],h=>by simp at h
 |c::cs,v::A,h=>by show v::over cs A=_;rw[over_all cs A (by simpa using h)]
theorem gk{α:Type} [Rp α]{F:Fz}{X Y:α}{cl:List Value}(h:Rp.rep F cl Y): ∀cs,Rp.rep F cs X->0+cl.length<=cs.length/\Rp.rep F (bm cs 0 cl) Y:=by
 intro cs hc;have A:=Rp.len h;have E:=Rp.len hc;refine⟨by omega,?_⟩;have:bm cs 0 cl=over cs cl:=by cases cs<;>rfl
 rw[this,over_all _ _ (by omega)];exact h
end Go.R
namespace Go.R
theorem HS.nin{B:Base}{F:Fz}{H:Heap}{L R:List Fp}(h:HS B F H L R){i j:Nat}{p q:Fp}(hi:L[i]?=some p)(Z:L[j]?=some q)(N:i≠j){b:Nat}(V:b∈p.map Prod.fst):b∉q.map Prod.fst:=by
 intro hq;have hc:=h.callOwn hi;have A:=hc.nd;have T:q∈L.set i []:=by refine a0l (i:=j) ?_;rw[a24 N];exact Z
 simp only[a0S,a11,a0K,a12,a1g]at A;refine A.2.2 b V b ?_ rfl;obtain⟨⟨U,o⟩,E,rfl⟩:=a0r.1 hq;exact a0r.2 ⟨(U,o),a0G.2 ⟨q,List.mem_append_left _ T,E⟩,rfl⟩
end Go.R
namespace Go.R
theorem SR.len'{α:Type} [Rp α]{F:Fz}{a:Option Addr}{n k:Nat}{l:List α}(h:SR F (.slice a n k) l):l.length=n:=by obtain⟨A,E,e⟩:=Sv.shape h;injection e with _ e _;exact e.symm
theorem SR.norm{α:Type} [Rp α]{F:Fz}{a:Option Addr}{n k:Nat}{l:List α}(h:SR F (.slice a n k) l):SR F (.slice a l.length k) l:=by rw[h.len'];exact h
theorem HS.apq{B:Base}{F:Fz}{H:Heap}{L R:List Fp}(h:HS B F H L R){i:Nat}{p:Fp}(hi:L[i]?=some p): ∀b,b∈p.map Prod.fst->¬F b≠none:=by intro b N T;obtain⟨⟨E,o⟩,A,rfl⟩:=a0r.1 N;exact T (h.own p (.inl (a0l hi)) E o A).2.2
theorem SR.q{α:Type} [Rp α]{F:Fz}{a:Option Addr}{n k:Nat}{l:List α}(h:SR F (.slice a n k) l): ∀p,a=some p->F p.block≠none:=by
 intro p A;rcases h with⟨e,_⟩|⟨b,off,T,o,e,E,_⟩
 ·injection e with e1;rw[e1]at A;cases A
 injection e with e1;rw[e1]at A;obtain rfl:=Option.some.inj A;rw[show F b=some o from E];exact fun N=>by cases N
end Go.R
noncomputable section
set_option linter.unusedVariables false
namespace Go.R
open Go
section
variable {P:Program} {G:Nat} {K:bL} {sz:Nat} {Q:Ex->Fn->Heap->Prop} {ops:Array Oper} {D:List (Nat×ID)} {i:Nat} {os:List Oper} {k k1 k2:List Fr} {c c1 c2:Code} {f:Fn} {H H1:Heap} {v:Value}
variable {d:Tmp} {ty:TypeId} {pos:String} {af:Array Edge} {x y:Operand}
theorem zi(n m:Nat){a b:Code}{v:Bool}(U:v=true->WK P G K sz c1 k1 f H Q)(N:v=false->WK P G K sz c2 k2 f H Q)(V:cW f x= .bool v:=by rfl)(T:bw G x=true:=by rfl)(A:foc n a k=(c1,k1):=by rfl)(E:foc m b k=(c2,k2):=by rfl):WK P G K sz (.cond x a b) k f H Q:=wk_if n m V T A E U N
theorem zd(n m:Nat){a b:Code}{p:Prop}{i:Decidable p}(U:p->WK P G K sz c1 k1 f H Q)(N: ¬p->WK P G K sz c2 k2 f H Q)(V:cW f x= .bool (@decide p i):=by rfl)(T:bw G x=true:=by rfl)(A:foc n a k=(c1,k1):=by rfl)(E:foc m b k=(c2,k2):=by rfl):WK P G K sz (.cond x a b) k f H Q:=wk_if n m V T A E (fun h=>U (of_decide_eq_true h)) fun h=>N (of_decide_eq_false h)
theorem ze(n:Nat)(h:WK P G K sz c1 k1 f H Q)(A:foc n .skip k=(c1,k1):=by rfl):WO P G K sz ops [] k f H Q:=au n A h
theorem zf(n:Nat)(h:WK P G K sz c1 k1 f H Q)(A:foc n c k=(c1,k1):=by rfl):WK P G K sz c k f H Q:=aA n A h
theorem za(v:Value)(h:WO P G K sz ops os k (upd f d v) H Q)(N:cW f x=v:=by rfl)(E:(Op.assign x).operands.toList.all (bw G)=true:=by rfl)(A:Nat.ble (d+1) sz=true:=by rfl):WO P G K sz ops (⟨some d,.assign x,ty,pos,af,none⟩::os) k f H Q:=wa v N E A h
theorem zm(v:Value)(h:WO P G K sz ops os k (upd f d v) H Q)(N:cW f x=v:=by rfl)(E:(Op.move x).operands.toList.all (bw G)=true:=by rfl)(A:Nat.ble (d+1) sz=true:=by rfl):WO P G K sz ops (⟨some d,.move x,ty,pos,af,none⟩::os) k f H Q:=wm v N E A h
theorem zfm(v:Value)(h:WF2 P G K sz ops ((i,.v)::D) (i+1) os k (upd f d v) H Q)(N:cW f x=v:=by rfl)(E:(Op.move x).operands.toList.all (bw G)=true:=by rfl)(A:Nat.ble (d+1) sz=true:=by rfl):WF2 P G K sz ops D i (⟨some d,.move x,ty,pos,af,none⟩::os) k f H Q:=fm v N E A h
theorem zc{args:Array Operand}{A:Array TypeId}{g:FuncId}{fn:Func}{l:List Value}{R:Value->Heap->Prop}(hc:C P G K g l H R)(h: ∀v E,R v E->WO P G K sz ops os k (upd f d v) E Q)(U:P.funcs[g]?=some fn:=by rfl)(N:(fn.body.isSome&& !(fn.name== "runtime.NumGoroutine"))=true:=by rfl)(V:eG (cW f) args.toList=l:=by rfl)(Z:(Op.call ⟨.value (.func g),args,A⟩).operands.toList.all (bw G)=true:=by rfl)(T:Nat.ble (d+1) sz=true:=by rfl):
  WO P G K sz ops (⟨some d,.call ⟨.value (.func g),args,A⟩,ty,pos,af,none⟩::os) k f H Q:=wo_call (aS U N V) Z T hc h
theorem zp{s:TypeId}{b o n:Nat}(A:Nat)(h:WF2 P G K sz ops ((i,.v)::D) (i+1) os k (upd f d (.pointer (some ⟨b,A,none⟩))) H Q)(U:cW f x= .pointer (some ⟨b,o,none⟩):=by rfl)(E:gH P s (.pointer (some ⟨b,o,none⟩)) n=some (.pointer (some ⟨b,A,none⟩)):=by rfl)(T:(Op.fieldAddr s x n).operands.toList.all (bw G)=true:=by rfl)(N:Nat.ble (d+1) sz=true:=by rfl):WF2 P G K sz ops D i (⟨some d,.fieldAddr s x n,ty,pos,af,none⟩::os) k f H Q:=aJ (dO U E) T N (did_v rfl) (gQ _) h
theorem zl{t:TypeId}{b o E:Nat}(j:Nat){cs:List Value}{w:Value}(hc:HC ({H with log:=[]}:Heap).get b o cs)(h:WF2 P G K sz ops ((i,.l b)::D) (i+1) os k (upd f d w) H Q)(A:cW f x= .pointer (some ⟨b,E,none⟩):=by rfl)(N:aggOf P t=some false:=by rfl)(U:E=o+j:=by rfl)(hv:cs[j]?=some w:=by rfl)(Z:(Op.load t x).operands.toList.all (bw G)=true:=by rfl)(T:Nat.ble (d+1) sz=true:=by rfl)(V:okB ops i (.l b) D=true:=by rfl):WF2 P G K sz ops D i (⟨some d,.load t x,ty,pos,af,none⟩::os) k f H Q:=aJ (b8 (H:={H with log:=[]}) A N hc U hv) Z T (bT A) (kb V) h
theorem zx(α:Type) [Rp α]{t e:TypeId}{Z:IntKind}{F:Fz}{l:List α}(j:Nat)(hs:Sv F ({H with log:=[]}:Heap).get v l)(h:WF2 P G K sz ops ((i,.v)::D) (i+1) os k (upd f d (.pointer (some ⟨sB v,sO v+j*Rp.sz α,none⟩))) H Q)(E:(j:Int)<l.length:=by first|(dsimp only;omega)|omega)(U:cW f x=v:=by rfl)(hi:cW f y= .int Z (j:Int):=by rfl)(T:P.underlying t=some (.slice e):=by rfl)(V:cM P e=some (Rp.sz α):=by rfl)(N:(Op.indexAddr t x y).operands.toList.all (bw G)=true:=by rfl)(A:Nat.ble (d+1) sz=true:=by rfl):
  WF2 P G K sz ops D i (⟨some d,.indexAddr t x y,ty,pos,af,none⟩::os) k f H Q:=aJ (er (H:={H with log:=[]}) U hi T V hs (by omega) E) N A (did_v rfl) (gQ _) h
theorem zy(α:Type) [Rp α]{t e:TypeId}{Z:IntKind}{F:Fz}{l:List α}(j:Int)(hs:Sv F ({H with log:=[]}:Heap).get v l)(h:WF2 P G K sz ops ((i,.v)::D) (i+1) os k (upd f d (.pointer (some ⟨sB v,sO v+j.toNat*Rp.sz α,none⟩))) H Q)(h0:0<=j:=by first|(dsimp only;omega)|omega)(E:j<l.length:=by first|(dsimp only;omega)|omega)(U:cW f x=v:=by rfl)(hi:cW f y= .int Z j:=by rfl)(T:P.underlying t=some (.slice e):=by rfl)(V:cM P e=some (Rp.sz α):=by rfl)(N:(Op.indexAddr t x y).operands.toList.all (bw G)=true:=by rfl)(A:Nat.ble (d+1) sz=true:=by rfl):
  WF2 P G K sz ops D i (⟨some d,.indexAddr t x y,ty,pos,af,none⟩::os) k f H Q:=aJ (er (H:={H with log:=[]}) U hi T V hs h0 E) N A (did_v rfl) (gQ _) h
end
end Go.R
end
noncomputable section
namespace Go.R
section
variable {B:Base} {F F':Fz} {H:Heap} {L R:List Fp}
theorem HS.flat(h:HS B F H L R){T:List Fp}(hp:T.flatten.Perm L.flatten):HS B F H T R:=by
 have Z: ∀p,p∈T->∀x,x∈p->∃E,E∈L/\x∈E:=fun p ag x hx=>a0G.1 (hp.mem_iff.1 (a0G.2 ⟨p,ag,hx⟩))
 refine⟨h.fz,fun p A b o N=>?_,?_,h.n0,h.log,fun p A b o N=>?_⟩
 ·rcases A with A|A
  ·obtain⟨E,U,V⟩:=Z p A _ N;exact h.own E (.inl U) b o V
  exact h.own p (.inr A) b o N
 ·have:=h.nd;rw[a0L]at this⊢;exact(((hp.append_right R.flatten).map _).nodup_iff).2 this
 obtain⟨E,U,V⟩:=Z p A _ N;exact h.mine E U b o V
theorem ju{α:Type}{L:List (List α)}{i:Nat}{p:List α}(q:List α)(hi:L[i]?=some p):((L.set i q).flatten++p).Perm (L.flatten++q):=by obtain⟨A,C,E,N⟩:=gy L i p q hi;rw[N,E];simp only[a0L,a0K,a0m];refine a0W _ ?_;refine List.Perm.trans (a0W q a1j) ?_;refine List.Perm.trans (a15 q p _) ?_;exact a0W p a1j
theorem HS.open(h:HS B F H L R){i:Nat}{p q r:Fp}(hi:L[i]?=some p)(T:p.Perm (q++r)):HS B F H (L.set i q++[r]) R:=by
 refine h.flat ?_;have A:=ju q hi;have E:((L.set i q).flatten++r++q).Perm (L.flatten++q):=by refine List.Perm.trans ?_ A;rw[a0m];exact a0W _ (a1j.trans T.symm)
 have N:=(List.perm_append_right_iff q).1 E;simpa[a0L] using N
theorem HS.close(h:HS B F H L R){i j:Nat}{p q r:Fp}(N:i≠j)(hi:L[i]?=some q)(Z:L[j]?=some r)(hp:p.Perm (q++r)):HS B F H ((L.set i p).set j []) R:=by
 refine h.flat ?_;have T:=ju p hi;have E:(L.set i p)[j]?=some r:=by rw[a24 N];exact Z
 have A:=ju [] E;rw[a0B]at A;have U:(((L.set i p).set j []).flatten++(r++q)).Perm (L.flatten++p):=by rw[←a0m];exact(A.append_right q).trans T
 have V:(((L.set i p).set j []).flatten++p).Perm (L.flatten++p):=(a0W _ (hp.trans a1j)).trans U;exact(List.perm_append_right_iff p).1 V
theorem HS.callN{X Y:List Fp}(h:HS B F H (X++Y) R):HS (.of H (X.flatten.map Prod.fst)) F H X (Y++R):=by
 refine⟨h.fz,fun p A b o E=>?_,by simpa[a0m] using h.nd,a0a _,fun b E=> .inl E,fun p A b o E=> .inr (a0r.2 ⟨(b,o),a0G.2 ⟨p,A,E⟩,rfl⟩)⟩;rcases A with A|A
 ·exact h.own p (.inl (a07.2 (.inl A))) b o E
 rcases a07.1 A with A|A
 ·exact h.own p (.inl (a07.2 (.inr A))) b o E
 exact h.own p (.inr A) b o E
theorem HS.backN{X Y U:List Fp}{T H':Heap}{W:List Nat}(h:HS B F H (X++Y) R)(hH:T=H)(hW: ∀b,b∈W->b∈X.flatten.map Prod.fst)(k:HS (.of T W) F' H' U (Y++R)):HS B F' H' (U++Y) R:=by
 subst hH;have N: ∀b,b∈W->B.n0<=b\/b∈B.W:=fun b E=>by obtain⟨⟨b',o⟩,V,rfl⟩:=a0r.1 (hW b E);obtain⟨p,A,Z⟩:=a0G.1 V;exact h.mine p (a07.2 (.inl A)) b' o Z
 refine⟨k.fz,fun p A b o E=>k.own p ?_ b o E,by simpa[a0m] using k.nd,a0d h.n0 k.n0,fun b E=>?_,fun p A b o E=>?_⟩
 ·rcases A with A|A
  ·rcases a07.1 A with A|A
   ·exact .inl A
   exact .inr (a07.2 (.inl A))
  exact .inr (a07.2 (.inr A))
 ·rcases k.log b E with h1|h1|h1
  ·exact h.log b h1
  ·exact .inr (.inl (a0d h.n0 h1))
  exact .inr (N b h1)
 rcases a07.1 A with A|A
 ·rcases k.mine p A b o E with h1|h1
  ·exact .inl (a0d h.n0 h1)
  exact N b h1
 exact h.mine p (a07.2 (.inr A)) b o E
end
structure Hd where
 a:Option Addr
 n:Nat
 k:Nat
instance :Inhabited Hd:=⟨⟨none,0,0⟩⟩
def Hd.v(h:Hd):Value:= .slice h.a h.n h.k
instance :Rp Hd where
 sz:=1
 rep _ cs h:=cs=[.slice h.a h.n h.k]
 len:=by rintro F cs x rfl;rfl
 one:=by rintro F cs x rfl;rfl
 mono:=by intro F F' cs x _ h;exact h
theorem vH{F:Fz}{get:Nat->Option AObj}{v:Value}{l:List Hd}{cf:Nat->List Value}{j:Nat}(h:VW F get v l cf j)(N:j<l.length:=by first|(dsimp only;omega)|omega):
  HC get (sB v) (sO v+j*Rp.sz Hd) [.slice (l.getD j default).a (l.getD j default).n (l.getD j default).k]:=by
 obtain⟨E,A⟩:=h.1 default N
 rw[show cf j=_ from E]at A;exact A
def FAM{ι β:Type}(Ch:Fz->ι->β->Fp->Prop)(F:Fz):List ι->List β->Fp->Prop
 | [],[],p=>p=[]
 |h::hs,x::xs,p=> ∃q r,p=q++r/\Ch F h x q/\FAM Ch F hs xs r
 |_,_,_=>False
section
variable {ι β:Type} {Ch:Fz->ι->β->Fp->Prop} {F F':Fz}
theorem FAM.len: ∀{hs:List ι} {xs:List β} {p:Fp},FAM Ch F hs xs p->hs.length=xs.length
 | [],[],_,_=>rfl
 |_::_,_::_,_,⟨_,_,_,_,h⟩=>by rw[a09,a09,h.len]
 | [],_::_,_,h=>h.elim
 |_::_,[],_,h=>h.elim
theorem FAM.mono(A: ∀{h x q},Ch F h x q->Ch F' h x q): ∀{hs:List ι} {xs:List β} {p:Fp},FAM Ch F hs xs p->FAM Ch F' hs xs p
 | [],[],_,h=>h
 |_::_,_::_,_,⟨q,r,e,h1,h⟩=>⟨q,r,e,A h1,h.mono A⟩
 | [],_::_,_,h=>h.elim
 |_::_,[],_,h=>h.elim
theorem FAM.snoc{h0:ι}{E:β}{A:Fp}(k:Ch F h0 E A): ∀{hs:List ι} {xs:List β} {p:Fp},FAM Ch F hs xs p->FAM Ch F (hs++[h0]) (xs++[E]) (p++A)
 | [],[],p,h=>by have N:p=[]:=h;subst N;exact⟨A,[],by simp,k,rfl⟩
 |_::_,_::_,_,⟨q,r,e,h1,h⟩=>⟨q,r++A,by rw[e,a0m],h1,h.snoc k⟩
 | [],_::_,_,h=>h.elim
 |_::_,[],_,h=>h.elim
theorem FAM.rep{h0:ι}{A:β}(k:Ch F h0 A []): ∀n,FAM Ch F (List.replicate n h0) (List.replicate n A) []
 |0=>rfl
 |n+1=>⟨[],[],rfl,k,FAM.rep k n⟩
theorem FAM.take: ∀{hs:List ι} {xs:List β} {p:Fp} (n:Nat),FAM Ch F hs xs p->∃q r,p=q++r/\FAM Ch F (hs.take n) (xs.take n) q
 | [],[],p,n,h=>⟨[],p,rfl,by simp[FAM]⟩
 |_::_,_::_,p,0,_=>⟨[],p,rfl,by simp[FAM]⟩
 |_::_,_::_,_,n+1,⟨q,r,e,h1,h⟩=>by obtain⟨A,T,E,N⟩:=h.take n;exact⟨q++A,T,by rw[e,E,a0m],q,A,rfl,h1,N⟩
 | [],_::_,_,_,h=>h.elim
 |_::_,[],_,_,h=>h.elim
theorem FAM.open [Inhabited ι] [Inhabited β](V: ∀{G Z:Fz},G.le Z->∀{h x q},Ch G h x q->Ch Z h x q): ∀{hs:List ι} {xs:List β} {p:Fp} (i:Nat),FAM Ch F hs xs p->i<xs.length->
  ∃q r,p.Perm (q++r)/\Ch F (hs.getD i default) (xs.getD i default) r/\∀F',F.le F'->∀E T A,Ch F' E T A->∃N,N.Perm (q++A)/\FAM Ch F' (hs.set i E) (xs.set i T) N
 | [],[],_,i,_,hi=>by simp at hi
 |h::hs,x::xs,p,0,⟨q,r,e,h1,h2⟩,_=>by refine⟨r,q,by rw[e];exact a1j,h1,fun F' U E T A hc=>⟨A++r,a1j,A,r,rfl,hc,h2.mono (V U)⟩⟩
 |h::hs,x::xs,p,i+1,⟨q,r,e,h1,h2⟩,hi=>by
  obtain⟨q1,r1,g1,g2,g3⟩:=FAM.open V i h2 (by simpa using hi);refine⟨q++q1,r1,?_,by simpa using g2,fun F' U E T A hc=>?_⟩
  ·rw[e,a0m];exact a0W q g1
  obtain⟨N,g4,g5⟩:=g3 F' U E T A hc;exact⟨q++N,by rw[a0m];exact a0W q g4,q,N,rfl,V U h1,by simpa using g5⟩
 | [],_::_,_,_,h,_=>h.elim
 |_::_,[],_,_,h,_=>h.elim
theorem FAM.at [Inhabited ι] [Inhabited β]: ∀{hs:List ι} {xs:List β} {p:Fp} (i:Nat),FAM Ch F hs xs p->i<xs.length->∃q,(∀x,x∈q->x∈p)/\Ch F (hs.getD i default) (xs.getD i default) q
 | [],[],_,i,_,hi=>by simp at hi
 |_::_,_::_,_,0,⟨q,r,e,h1,h2⟩,_=>⟨q,fun x A=>by rw[e];exact a07.2 (.inl A),h1⟩
 |_::hs,_::xs,_,i+1,⟨q,r,e,h1,h2⟩,hi=>by obtain⟨T,E,N⟩:=FAM.at i h2 (by simpa using hi);exact⟨T,fun x A=>by rw[e];exact a07.2 (.inr (E x A)),by simpa using N⟩
 | [],_::_,_,_,h,_=>h.elim
 |_::_,[],_,_,h,_=>h.elim
end
theorem eh{β:Type}{d:β}: ∀(l:List β) (i:Nat),l.set i (l.getD i d)=l
 | [],_=>rfl
 |_::_,0=>rfl
 |x::l,i+1=>by have:=eh (d:=d) l i;simp only[a2d,a1S];rw[this]
section
variable {α:Type} [Rp α] {F F':Fz}
theorem OS.froz{v:Value}{l:List α}{p:Fp}(h:OS F v l p)(T:F.le F')(U: ∀b o,(b,o)∈p->F' b=some o):SR F' v l:=by
 rcases h with⟨A,E,_⟩|⟨b,off,k,cs,V,A,E,N⟩
 ·exact .inl ⟨A,E⟩
 exact .inr ⟨b,off,k,_,A,U b _ (by rw[E];simp),N.mono T⟩
theorem SR.n{h:Hd}{l:List α}(k:SR F h.v l):h.n=l.length:=by obtain⟨a,A,e⟩:=Sv.shape k;unfold Hd.v at e;injection e
theorem RL.conv{β:Type} [Rp β]: ∀{l:List α} {m:List β} {cs:List Value},l.length=m.length->(∀(i:Nat) x y,l[i]?=some x->m[i]?=some y->∀c,Rp.rep F c x->Rp.rep F' c y)->RL F cs l->RL F' cs m
 | [],[],_,_,_,h=>h
 |x::l,y::m,cs,hl,hc,⟨c,r,e,h1,h2⟩=>⟨c,r,e,hc 0 x y rfl rfl c h1,RL.conv (by simpa using hl) (fun i a b A E=>hc (i+1) a b (by simpa using A) (by simpa using E)) h2⟩
theorem SR.conv{β:Type} [Rp β]{v:Value}{l:List α}{m:List β}(E:Rp.sz α=Rp.sz β)(h:SR F v l)(A:l.length=m.length)(hF:F.le F')(hc: ∀(i:Nat) x y,l[i]?=some x->m[i]?=some y->∀c,Rp.rep F c x->Rp.rep F' c y):SR F' v m:=by
 rcases h with⟨rfl,rfl⟩|⟨b,off,k,o,T,U,cs,N,ro,e,V,Z,h5,h6⟩
 ·cases m with
  |nil=>exact .inl ⟨rfl,rfl⟩
  |cons _ _=>simp at A
 refine .inr ⟨b,off,k,o,by rw[←A];exact T,hF _ _ U,cs,N,ro,e,by rw[←E];exact V,by rw[←A];exact Z,?_,by rw[←E];exact h6⟩;rw[←A,←E];exact RL.conv A hc h5
theorem SR.nin{B:Base}{H:Heap}{L R:List Fp}{v:Value}{l:List α}{i j:Nat}{p:Fp}(h:SR F v l)(s:HS B F H L R)(hi:L[i]?=some p)(U:j<l.length):sB v∉p.map Prod.fst:=by
 rcases h with⟨_,rfl⟩|⟨b,off,k,o,rfl,N,_⟩
 ·simp at U
 intro V;obtain⟨⟨A,Z⟩,T,e⟩:=a0r.1 V;have E:A=b:=e;subst E;have:=(s.own p (.inl (a0l hi)) A Z T).2.2;rw[N]at this;cases this
class Ri(α:Type) [Rp α]:Prop where
 ind: ∀{F F':Fz} {cs:List Value} {x:α},Rp.rep F cs x->Rp.rep F' cs x
instance :Ri Int:=⟨fun h=>h⟩
instance :Ri Bool:=⟨fun h=>h⟩
instance :Ri Str:=⟨fun h=>h⟩
instance :Ri U64:=⟨fun h=>h⟩
instance :Ri UInt8:=⟨fun h=>h⟩
instance :Ri Hd:=⟨fun h=>h⟩
theorem OS.ind [Ri α]{v:Value}{l:List α}{p:Fp}(h:OS F v l p):OS F' v l p:=by
 rcases h with h|⟨b,off,k,cs,opn,h1,h2,cs',opn',ro',e,h3,h4,h5,h6⟩
 ·exact .inl h
 exact .inr ⟨b,off,k,cs,opn,h1,h2,cs',opn',ro',e,h3,h4,RL.conv rfl (fun i x y E A c hc=>by rw[E]at A;cases A;exact Ri.ind hc) h5,h6⟩
end
class HasHd(ι:Type) where
 hd:ι->Hd
instance :HasHd Hd:=⟨fun h=>h⟩
def OH{ι α:Type} [HasHd ι] [Rp α](F:Fz)(h:ι)(l:List α)(p:Fp):Prop:=OS F (HasHd.hd h).v l p
abbrev SF{ι α:Type} [HasHd ι] [Rp α](F:Fz)(hs:List ι)(ls:List (List α))(p:Fp):Prop:=FAM (OH (ι:=ι) (α:=α)) F hs ls p
section
variable {ι α:Type} [HasHd ι] [Rp α] {F F':Fz} {B:Base} {H:Heap} {L R:List Fp} {hs:List ι} {ls:List (List α)} {p:Fp}
theorem SF.mono(A:F.le F')(h:SF F hs ls p):SF F' hs ls p:=FAM.mono (Ch:=OH (ι:=ι) (α:=α)) (fun k=>OS.mono (α:=α) A k) h
theorem SF.rep(n:Nat):SF F (List.replicate n (default:Hd)) (List.replicate n ([]:List α)) []:=FAM.rep (Ch:=OH (ι:=Hd) (α:=α)) (show OS F (Hd.v default) ([]:List α) [] from OS.nil) n
def SB(F:Fz)(hs:List ι)(ls:List (List α))(i:Nat)(T:Fp):Prop:= ∀F',F.le F'->∀A l' N,OH F' A l' N->∃E,E.Perm (T++N)/\SF F' (hs.set i A) (ls.set i l') E
theorem OS.nlen{a:Option Addr}{n k:Nat}{l:List α}{p:Fp}(h:OS F (.slice a n k) l p):n=l.length:=by obtain⟨A,E,e⟩:=h.shape;injection e
theorem SF.shutN{U N:Fp}{i:Nat}{l':List α}(E:ι)(w:SB F hs ls i U)(hF:F.le F')(s:HS B F' H L R){q m:Nat}(T:q≠m)(hq:L[q]?=some U)(hm:L[m]?=some N)
  (h:OS F' (HasHd.hd E).v l' N): ∃A,HS B F' H ((L.set q A).set m []) R/\SF F' (hs.set i E) (ls.set i l') A:=by
 obtain⟨A,V,Z⟩:=w F' hF E l' N h
 exact⟨A,s.close T hq hm V,Z⟩
theorem SF.add{l':List α}{E:Fp}(A:ι)(h:SF F hs ls p)(s:HS B F H L R){q m:Nat}(N:q≠m)(Z:L[q]?=some p)(U:L[m]?=some E)(V:OS F (HasHd.hd A).v l' E):
  ∃T,HS B F H ((L.set q T).set m []) R/\SF F (hs++[A]) (ls++[l']) T:=
 ⟨p++E,s.close N Z U (.refl _),FAM.snoc (Ch:=OH (ι:=ι) (α:=α)) (h0:=A) V h⟩
end
section
variable {ι α:Type} [HasHd ι] [Inhabited ι] [Rp α] {F F':Fz} {B:Base} {H:Heap} {L R:List Fp} {hs:List ι} {ls:List (List α)} {p:Fp}
theorem SF.open(h:SF F hs ls p)(s:HS B F H L R){q i:Nat}(Z:L[q]?=some p)(hi:i<ls.length):
  ∃A E,HS B F H (L.set q A++[E]) R/\OS F (.slice (HasHd.hd (hs.getD i default)).a (HasHd.hd (hs.getD i default)).n (HasHd.hd (hs.getD i default)).k) (ls.getD i []) E/\SB F hs ls i A:=by
 obtain⟨A,E,N,T,U⟩:=FAM.open (Ch:=OH (ι:=ι) (α:=α)) (fun V _ _ _ k=>OS.mono (α:=α) V k) i h hi
 exact⟨A,E,s.open Z N,T,U⟩
theorem SF.shut{N T:Fp}{i:Nat}{l':List α}(w:SB F hs ls i N)(U:F.le F')(s:HS B F' H L R){q m:Nat}(A:q≠m)(Z:L[q]?=some N)(V:L[m]?=some T)
  (h:OS F' (.slice (HasHd.hd (hs.getD i default)).a (HasHd.hd (hs.getD i default)).n (HasHd.hd (hs.getD i default)).k) l' T): ∃E,HS B F' H ((L.set q E).set m []) R/\SF F' hs (ls.set i l') E:=by
 have:=SF.shutN (hs.getD i default) w U s A Z V h
 rw[eh]at this;exact this
theorem SF.shut0{N T:Fp}{i:Nat}(w:SB F hs ls i N)(U:F.le F')(s:HS B F' H L R){q m:Nat}(A:q≠m)(Z:L[q]?=some N)(V:L[m]?=some T)
  (h:OS F' (.slice (HasHd.hd (hs.getD i default)).a (HasHd.hd (hs.getD i default)).n (HasHd.hd (hs.getD i default)).k) (ls.getD i []) T): ∃E,HS B F' H ((L.set q E).set m []) R/\SF F' hs ls E:=by
 have:=SF.shut w U s A Z V h
 rw[eh]at this;exact this
theorem SF.put(A:ι): ∀{hs:List ι} {ls:List (List α)} {p:Fp} {i:Nat},SF F hs ls p->HasHd.hd A=HasHd.hd (hs.getD i default)->SF F (hs.set i A) ls p
 | [],[],_,_,h,_=>h
 |_::_,_::_,_,0,⟨q,r,e,h1,h2⟩,he=>⟨q,r,e,by unfold OH at h1⊢;rw[he];exact h1,h2⟩
 |_::_,_::_,_,i+1,⟨q,r,e,h1,h2⟩,he=>⟨q,r,e,h1,SF.put A h2 (by simpa using he)⟩
 | [],_::_,_,_,h,_=>h.elim
 |_::_,[],_,_,h,_=>h.elim
theorem SF.freeze(h:SF F hs ls p)(s:HS B F H L R){q:Nat}(Z:L[q]?=some p): ∃F',F.le F'/\HS B F' H (L.set q []) R/\(∀i,i<ls.length->SR F' (HasHd.hd (hs.getD i default)).v (ls.getD i [])):=by obtain⟨F',A,T,U⟩:=s.freeze Z;refine⟨F',A,T,fun i hi=>?_⟩;obtain⟨r,E,N⟩:=FAM.at (Ch:=OH (ι:=ι) (α:=α)) i h hi;exact OS.froz (α:=α) N A fun b o V=>U b o (E _ V)
end
section
variable {α:Type} [Rp α] {F F':Fz} {B:Base} {H:Heap} {L R:List Fp}
theorem SR.rows{v:Value}{hs:List Hd}{ls:List (List α)}(h:SR F v hs)(V:hs.length=ls.length)(k: ∀i,i<ls.length->SR F (HasHd.hd (hs.getD i default)).v (ls.getD i [])):SR F v ls:=by
 refine SR.conv (α:=Hd) (β:=List α) rfl h V F.le_refl fun i x y Z N c hc=>?_
 have hi:=(a0n.1 N).1;have k1:=k i hi;have T:hs.getD i default=x:=by rw[a02,Z];rfl
 have U:ls.getD i []=y:=by rw[a02,N];rfl
 rw[T,U]at k1;have E:=SR.n (h:=x) k1;have A:c=[.slice x.a x.n x.k]:=hc;refine⟨x.a,x.k,by rw[←E];exact A,?_⟩;rw[←E];exact k1
theorem HS.thawX{Z F2:Fz}{H':Heap}{M:List Fp}{i:Nat}{p:Fp}(h:HS B F H L R)(hi:L[i]?=some p)(hF:F.le Z)(hp: ∀b o,(b,o)∈p->Z b=some o)(U:Z.le F2)(k:HS B F2 H' (L.set i []++M) R):HS B F H' (L++M) R:=by
 obtain⟨A,C,e1,e2⟩:=eD L i p hi;have bz:p∈L:=a0l hi;have an: ∀b,F2 b=none->F b=none:=fun b N=>by
  cases hq:F b with
  |none=>rfl
  |some z=>rw[U _ _ (hF _ _ hq)]at N;cases N
 refine⟨fun b o N=>k.fz b o (U _ _ (hF _ _ N)),fun x E b o N=>?_,?_,k.n0,k.log,fun x E b o N=>?_⟩
 ·by_cases V:x=p
  ·subst V;obtain⟨g1,g2⟩:=k.fz b o (U _ _ (hp b o N));exact⟨g1,g2,(h.own x (.inl bz) b o N).2.2⟩
  have hk:x∈L.set i []++M\/x∈R:=by
   rcases E with E|E
   ·rcases a07.1 E with E|E
    ·refine .inl (a07.2 (.inl ?_));rw[e2];rw[e1]at E;rcases a07.1 E with E|E
     ·exact a07.2 (.inl E)
     rcases a0s.1 E with E|E
     ·exact absurd E V
     exact a07.2 (.inr (a0j _ E))
    exact .inl (a07.2 (.inr E))
   exact .inr E
  obtain⟨g1,g2,g3⟩:=k.own x hk b o N;exact⟨g1,g2,an b g3⟩
 ·have kn:=k.nd;have hn:=h.nd;rw[e2]at kn;rw[e1]at hn⊢;have ao: ∀a,a∈p.map Prod.fst->∀c,c∈M.flatten.map Prod.fst->a≠c:=by rintro a T c hc rfl;obtain⟨⟨b,o⟩,N,rfl⟩:=a0r.1 T;obtain⟨⟨b',o'⟩,bb,e⟩:=a0r.1 hc;obtain⟨x,E,bk⟩:=a0G.1 bb;have e':b'=b:=e;subst e';have:=(k.own x (.inl (a07.2 (.inr E))) b' o' bk).2.2;rw[U _ _ (hp b' o N)]at this;cases this
  simp only[a0m,a0S,a0L,a0K,a12,a1g,a07,a11]at kn hn⊢;obtain⟨a1,⟨a2,⟨a3,a4,a5⟩,a6⟩,a7⟩:=kn;obtain⟨b1,⟨b2,⟨b3,b4,b5⟩,b6⟩,b7⟩:=hn;refine⟨a1,⟨b2,⟨a2,⟨a3,a4,a5⟩,a6⟩,fun a T c hc=>?_⟩,fun a T c hc=>?_⟩
  ·rcases hc with hc|hc|hc
   ·exact b6 a T c (.inl hc)
   ·exact ao a T c hc
   exact b6 a T c (.inr hc)
  rcases hc with hc|hc|hc|hc
  ·exact b7 a T c (.inl hc)
  ·exact a7 a T c (.inl hc)
  ·exact a7 a T c (.inr (.inl hc))
  exact b7 a T c (.inr (.inr hc))
 rcases a07.1 E with E|E
 ·exact h.mine x E b o N
 exact k.mine x (a07.2 (.inr E)) b o N
theorem HS.thawL{F2:Fz}{H':Heap}{U:List Fp}{i i':Nat}{p:Fp}(h:HS B F H L R)(hi:L[i]?=some p)(hF:F.le F2)(hp: ∀b o,(b,o)∈p->F2 b=some o)(a6:U[i']?=some [])(k:HS B F2 H' U R):HS B F H' (U.set i' p) R:=by
 obtain⟨A,C,V,e2⟩:=gy U i' [] p a6;have Z:p∈L:=a0l hi;have av: ∀b,F2 b=none->F b=none:=fun b N=>by
  cases hq:F b with
  |none=>rfl
  |some z=>rw[hF _ _ hq]at N;cases N
 have ag: ∀x,x∈U.set i' p\/x∈R->x=p\/(x∈U\/x∈R):=by
  intro x E;rcases E with E|E
  ·rw[e2]at E;rcases a07.1 E with E|E
   ·exact .inr (.inl (by rw[V];exact a07.2 (.inl E)))
   rcases a0s.1 E with E|E
   ·exact .inl E
   exact .inr (.inl (by rw[V];exact a07.2 (.inr (a0j _ E))))
  exact .inr (.inr E)
 refine⟨fun b o N=>k.fz b o (hF _ _ N),fun x E b o N=>?_,?_,k.n0,k.log,fun x E b o N=>?_⟩
 ·rcases ag x E with rfl|E
  ·obtain⟨g1,g2⟩:=k.fz b o (hp b o N);exact⟨g1,g2,(h.own x (.inl Z) b o N).2.2⟩
  obtain⟨g1,g2,g3⟩:=k.own x E b o N;exact⟨g1,g2,av b g3⟩
 ·have kn:=k.nd;have hn:=h.nodup_of Z;have aw: ∀x,x∈U\/x∈R->∀a,a∈p.map Prod.fst->a∉x.map Prod.fst:=by intro x E a T hc;obtain⟨⟨b,o⟩,N,rfl⟩:=a0r.1 T;obtain⟨⟨b',o'⟩,a0,e⟩:=a0r.1 hc;have e':b'=b:=e;subst e';have:=(k.own x E b' o' a0).2.2;rw[hp b' o N]at this;cases this
  have ad: ∀(X:List Fp),(∀x∈X,x∈U\/x∈R)->∀a,a∈p.map Prod.fst->∀c,c∈X.flatten.map Prod.fst->a≠c:=by rintro X hX a T c hc rfl;obtain⟨y,hy,e⟩:=a0r.1 hc;obtain⟨x,E,a8⟩:=a0G.1 hy;exact aw x (hX x E) a T (a0r.2 ⟨y,a8,e⟩)
  have hA:=ad A (fun x E=> .inl (by rw[V];exact a07.2 (.inl E)));have hC:=ad C (fun x E=> .inl (by rw[V];exact a07.2 (.inr (a0j _ E))));have hR:=ad R (fun x E=> .inr E);rw[V]at kn;rw[e2];simp only[a0m,a0S,a0L,a0K,a12,a1g,a07,a11]at kn⊢;obtain⟨a1,⟨a2,a3,a4⟩,a5⟩:=kn;refine⟨a1,⟨hn,⟨a2,a3,a4⟩,fun a T c hc=>?_⟩,fun a T c hc=>?_⟩
  ·rcases hc with hc|hc
   ·exact hC a T c hc
   exact hR a T c hc
  rcases hc with hc|hc
  ·exact fun e=>hA c hc a T e.symm
  exact a5 a T c hc
 rcases ag x (.inl E) with rfl|hx'
 ·exact h.mine x Z b o N
 rw[e2]at E;rcases a07.1 E with E|E
 ·exact k.mine x (by rw[V];exact a07.2 (.inl E)) b o N
 rcases a0s.1 E with rfl|E
 ·exact h.mine x Z b o N
 exact k.mine x (by rw[V];exact a07.2 (.inr (a0j _ E))) b o N
end
end Go.R
end
noncomputable section
namespace Go.R
section
variable {α:Type} [Rp α] {P:Program} {ρ:Operand->Value} {d:Option Tmp} {ty:TypeId} {pos:String} {af:Array Edge} {gd:Option (Nat×Bool)} {B:Base} {F:Fz} {H:Heap} {L R:List Fp} {v:Value} {l:List α} {p:Fp}
def At(α:Type) [Rp α](v:Value)(n i:Nat)(a:Option Addr):Prop:=n<=i\/a=some ⟨sB v,sO v+i*Rp.sz α,none⟩
theorem rs_cutX{x:Operand}{lo:Option Operand}{t e:TypeId}{i q:Nat}(h:OS F v l p)(hs:HS B F H L R)(hq:L[q]?=some p)(hx:ρ x=v)(V:P.underlying t=some (.slice e))(Z:cM P e=some (Rp.sz α))
  (h2:bH 0 (lo.map ρ)=some i) (U:i<=l.length):
  ∃r:Rs,AP P ρ ⟨d,.slice t x lo none none,ty,pos,af,gd⟩ H (.val r.v,r.H)/\(∃a k,r.v= .slice a (l.drop i).length k/\r.H=H/\OS F (.slice a (l.drop i).length k) (l.drop i) p/\At α v l.length i a):=by
 have T: ∀w,bj P t v (lo.map ρ) none none H=some w->AP P ρ ⟨d,.slice t x lo none none,ty,pos,af,gd⟩ H (.val w,H):=by intro w hw;refine⟨?_⟩;show ovl (bj P t (ρ x) (lo.map ρ) (Option.map ρ none) (Option.map ρ none) H) H=_;rw[hx,a1G,hw];rfl
 have h1:bH l.length (none:Option Value)=some l.length:=rfl
 have et:(l.take l.length).drop i=l.drop i:=by rw[a18]
 rcases h with⟨rfl,rfl,rfl⟩|⟨b,off,k,cs,a6,rfl,rfl,g2⟩
 ·have ao:i=0:=by simpa using U
  subst ao;refine⟨⟨.slice none 0 0,H,[]⟩,T _ ?_,none,0,rfl,rfl,OS.nil,.inl (a0a _)⟩;unfold bj;have E:=hN (n:=0) (k:=0) (hi:=(none:Option Value)) rfl h2 (a0a 0) (a0a 0);simp only[V,E,Z,Option.isSome_some,cond_true]
 have hb:=hs.get hq (a0h.2 rfl)
 have N:=Sl_cut (F:=F) g2 U (a0a _)
 rw[et]at N
 obtain⟨a5,a4,a7,e1,g1,g3,g4,g5⟩:=id g2
 injection e1 with e1 e2 e3
 subst e1 e2 e3
 have E:=hN (n:=l.length) (k:=k) (hi:=(none:Option Value)) h1 h2 U g3
 have A:(l.drop i).length=l.length-i:=a0w
 rcases g5 with rfl|rfl
 ·cases hk:Nat.beq k i with
  |true=>
   have ar:=a08 hk
   have e0:l.drop i=[]:=a0t (by rw[A];omega)
   refine⟨⟨.slice (some ⟨b,off,none⟩) (l.length-i) (k-i),H,[]⟩,T _ ?_,some ⟨b,off,none⟩,k-i,by rw[A],rfl,?_,.inl (by omega)⟩
   ·unfold bj;simp only[V,E,Z,hb,hk,cond_true]
   rw[e0,ar,a1D]
   exact .inr ⟨b,off,0,cs,none,rfl,rfl,Sl_at0 (k:=k) (l:=l) g2⟩
  |false=>
   refine⟨⟨.slice (some ⟨b,off+i*Rp.sz α,none⟩) (l.length-i) (k-i),H,[]⟩,T _ ?_,_,k-i,by rw[A],rfl,.inr ⟨b,_,k-i,cs,none,rfl,rfl,N⟩,.inr rfl⟩
   unfold bj
   simp only[V,E,Z,hb,hk,cond_false]
 refine⟨⟨.slice (some ⟨b,off+i*Rp.sz α,none⟩) (l.length-i) (k-i),H,[]⟩,T _ ?_,_,k-i,by rw[A],rfl,.inr ⟨b,_,k-i,cs,some (Rp.sz α),rfl,rfl,N⟩,.inr rfl⟩
 unfold bj
 simp only[V,E,Z,hb,a13,cond_true]
def cpL(l:List α)(i:Nat)(A:List α):List α:=l.take i++(A.take (l.length-i)++l.drop (i+min A.length (l.length-i)))
theorem rs_cp{d0 s0:Operand}{t e:TypeId}{i q k1:Nat}{a1:Option Addr}{E:List α}{u:Value}(h:OS F v l p)(hs:HS B F H L R)(hq:L[q]?=some p)(hd:ρ d0= .slice a1 (l.drop i).length k1)(ha:At α v l.length i a1)(hi:i<=l.length)
  (h2:OS F u E p) (hx:ρ s0=u) (ht:P.underlying t=some (.slice e)) (hz:cM P e=some (Rp.sz α)):
  ∃r:Rs,AP P ρ ⟨d,.call ⟨.builtin .copy, #[d0,s0], #[t,t]⟩,ty,pos,af,gd⟩ H (.val r.v,r.H)/\(r.v= .int .i64 ((min E.length (l.length-i):Nat):Int)/\OS F v (cpL l i E) r.p/\HS B F r.H (L.set q r.p) R/\Wr H r.H (p.map Prod.fst)):=by
 have bb:(l.drop i).length=l.length-i:=a0w
 have hm:lenA u=some E.length:=(h2.sv hs hq).first.1
 have a4: ∀w H1,lG P #[t,t] (.slice a1 (l.length-i) k1) u H=some (w,H1)->AP P ρ ⟨d,.call ⟨.builtin .copy, #[d0,s0], #[t,t]⟩,ty,pos,af,gd⟩ H (.val w,H1):=by intro w H1 hw;refine⟨?_⟩;show ovh (lG P #[t,t] (ρ d0) (ρ s0) H)=_;rw[hd,hx,bb,hw];rfl
 have bl:L.set q p=L:=by obtain⟨A,C,e1,Z⟩:=eD L q p hq;rw[Z p,←e1]
 cases hn:Nat.beq (min E.length (l.length-i)) 0 with
 |true=>
  have T:=a08 hn
  refine⟨⟨.int .i64 ((min E.length (l.length-i):Nat):Int),H,p⟩,a4 _ _ ?_,rfl,?_,by rw[bl];exact hs,fun b hb=> .inl hb⟩
  ·unfold lG;simp only[List.getElem?_toArray,a0Y,ht,hm,hz];rw[show Nat.min E.length (l.length-i)=min E.length (l.length-i) from rfl,hn,T];rfl
  have e:cpL l i E=l:=by unfold cpL;rw[T,a1Y];have:E.take (l.length-i)=[]:=a0t (by rw[a0k,Nat.min_comm];exact T);rw[this,a11,a1H]
  rw[e];exact h
 |false=>
  have T:min E.length (l.length-i)≠0:=fun e=>by rw[e]at hn;cases hn
  rcases ha with ha|ha
  ·omega
  subst ha
  rcases h with⟨rfl,rfl,rfl⟩|⟨b,off,k,cs,U,rfl,rfl,d1,dt,em,e1,g1,g3,g4,g5⟩
  ·simp at T
  injection e1 with e1 Z e3
  subst e1 Z e3
  replace g1:=g1 rfl
  have hb:=hs.get hq (b:=b) (o:= .cells cs U false) (a0h.2 rfl)
  let n:=min E.length (l.length-i)
  obtain⟨N,bk,av⟩: ∃N,eE H (Rp.sz α) n u=some N/\RL F N (E.take n):=by
   rcases h2 with⟨rfl,rfl,h3⟩|⟨b2,aw,k2,d2,dv,rfl,Z,g6⟩
   ·cases h3
   simp only[a2b,a04,AObj.cells.injEq,and_true]at Z;obtain⟨rfl,rfl,rfl⟩:=Z;have an:(E.take n).length=n:=by rw[a0k];omega
   have h3:Sv F H.get (.slice (some ⟨b,aw,none⟩) (E.take n).length k2) (E.take n):=by obtain⟨c1,c2,c3,c4,c5,c6,c7,c8⟩:=g6;refine .inr ⟨b,aw,k2,_,rfl,hb,c1,c2,c3,c4,c5,by rw[an];omega,?_,c8⟩;have h4:=c7.take n;rw[a2g,a2c (a0A _ (by omega))]at h4;rw[an];exact h4
   obtain⟨_,N,h4,h5⟩:=h3.first;rw[an]at h4;exact⟨N,h4,h5⟩
  have V:=av.length
  have b4:(E.take n).length=n:=by rw[a0k];omega
  rw[b4]at V
  have a3:(i+n)*Rp.sz α<=l.length*Rp.sz α:=a0A _ (by omega)
  have d4:l.length*Rp.sz α<=k*Rp.sz α:=a0A _ g3
  have ai:off+i*Rp.sz α+N.length<=cs.length:=by rw[V];rw[a14]at a3;omega
  have b5:=gj (b:=b) (o:=off+i*Rp.sz α) hb ai av.one
  have al:(cpL l i E).length=l.length:=by unfold cpL;simp only[a05,a0k,a0w];omega
  have hw:=hs.wr (H1:=H.put b (.cells (bm cs (off+i*Rp.sz α) N) U false)) (q:=[(b,.cells (bm cs (off+i*Rp.sz α) N) U false)]) hq fun k=>⟨F,F.le_refl,by simpa using k.put (i:=0) rfl⟩
  obtain⟨F',d3,ea,b7⟩:=hw
  refine⟨⟨.int .i64 ((n:Nat):Int),_,[(b,.cells (bm cs (off+i*Rp.sz α) N) U false)]⟩,a4 _ _ ?_,rfl,.inr ⟨b,off,k,_,U,by rw[al],rfl,_,_,_,rfl,fun _=>by rw[bS _ _ _ ai];exact g1,by rw[al];exact g3,?_,g5⟩,hs.put hq,b7⟩
  ·unfold lG;simp only[List.getElem?_toArray,a0Y,ht,hm,hz];rw[show Nat.min E.length (l.length-i)=min E.length (l.length-i) from rfl,hn];simp only[cond_false];rw[show eE H (Rp.sz α) (min E.length (l.length-i)) u=some N from bk];simp only;rw[show(⟨sB (Value.slice (some ⟨b,off,none⟩) l.length k),sO (Value.slice (some ⟨b,off,none⟩) l.length k)+i*Rp.sz α,none⟩:Addr)=⟨b,off+i*Rp.sz α,none⟩ from rfl,b5];rfl
  rw[al]
  have hX:((cs.drop off).take (l.length*Rp.sz α)).length=l.length*Rp.sz α:=g4.length
  have a2:i*Rp.sz α+N.length<=((cs.drop off).take (l.length*Rp.sz α)).length:=by rw[hX,V];rw[a14]at a3;omega
  have cc:((bm cs (off+i*Rp.sz α) N).drop off).take (l.length*Rp.sz α)=bm ((cs.drop off).take (l.length*Rp.sz α)) (i*Rp.sz α) N:=by
   apply a19;intro q;rw[bx _ _ _ _ a2,a0x,a0I,bx _ _ _ _ ai];by_cases c1:q<l.length*Rp.sz α
   ·rw[if_pos c1];by_cases c2:i*Rp.sz α<=q/\q<i*Rp.sz α+N.length
    ·rw[if_pos (by omega),if_pos c2];congr 1;omega
    rw[if_neg (by omega),if_neg c2,a0x,if_pos c1,a0I]
   rw[if_neg c1,if_neg (by omega),a0x,if_neg c1]
  rw[cc,splice_eq _ _ _ a2]
  unfold cpL
  have e3:E.take (l.length-i)=E.take n:=by
   rcases Nat.le_total E.length (l.length-i) with hc|hc
   ·rw[a0g hc,a0g (by omega)]
   congr 1;omega
  rw[e3,a0m]
  refine(g4.take i).append (av.append ?_)
  have:=g4.drop (i+n)
  rw[V,←a14];exact this
end
end Go.R
end
noncomputable section
namespace Go.R
def tb(a:Int)(i:Nat):Bool:=a.toNat.testBit i
abbrev gL(a:Int):Prop:=0<=a/\a<18446744073709551616
theorem eQ(op:BinOp)(a b:Int):gL (aR op .u64 a b):=by
 have h: ∀n:Int,gL (IntKind.u64.wrap n):=fun n=>by rw[u64_eq];constructor<;>omega
 unfold aR bits;cases op<;>first|exact h _|(constructor<;>decide)
theorem bv_nat{a:Int}(h:gL a):(bv a).toNat=a.toNat:=by
 have:=bv_toNat a;have A:a%18446744073709551616=a:=by omega
 rw[A]at this;omega
theorem wrap_nat(n:Nat)(h:n<18446744073709551616):(IntKind.u64.wrap (n:Int)).toNat=n:=by rw[u64_eq];omega
theorem tb_or{a b:Int}(A:gL a)(E:gL b)(i:Nat):tb (aR .or .u64 a b) i=(tb a i||tb b i):=by have e:aR .or .u64 a b=IntKind.u64.wrap ((bv a|||bv b).toNat:Int):=rfl;unfold tb;rw[e,wrap_nat _ (bv a|||bv b).isLt,BitVec.toNat_or,bv_nat A,bv_nat E,Nat.testBit_or]
theorem i5{a b:Int}(E:gL a)(N:gL b)(i:Nat):tb (aR .andNot .u64 a b) i=(tb a i&& !tb b i):=by
 have e:aR .andNot .u64 a b=IntKind.u64.wrap ((bv a&&& ~~~(bv b)).toNat:Int):=rfl;unfold tb;rw[e,wrap_nat _ (bv a&&& ~~~(bv b)).isLt,BitVec.toNat_and,Nat.testBit_and,bv_nat E];cases A:a.toNat.testBit i with
 |false=>rfl
 |true=>
  have hi:i<64:=by
   rcases a0i i 64 with h|h
   ·exact h
   rw[Nat.testBit_lt_two_pow (a0V (show a.toNat<2^64 by omega) (Nat.pow_le_pow_right (by omega) h))]at A;cases A
  rw[a1J,a1J,←BitVec.getLsbD,BitVec.getLsbD_not,BitVec.getLsbD,bv_nat N]
  simp[hi]
theorem tb_and1{a:Int}(E:gL a):aR .and .u64 a 1=1↔tb a 0=true:=by
 have e:aR .and .u64 a 1=IntKind.u64.wrap ((bv a&&&bv 1).toNat:Int):=rfl;have A:(bv a&&&bv 1).toNat=a.toNat%2:=by rw[BitVec.toNat_and,bv_nat E,show(bv 1).toNat=1 from by decide,Nat.and_one_is_mod]
 rw[e,A,u64_eq];unfold tb;rw[Nat.testBit_zero];simp;omega
theorem shl_one{k:Nat}(E:k<64):IntKind.u64.wrap (1*2^(Nat.min k 64))=((2^k:Nat):Int):=by
 rw[show Nat.min k 64=k from a2c (by omega),u64_eq,Int.one_mul];have:(2^k:Nat)<2^64:=Nat.pow_lt_pow_right (by omega) E;have e:((2:Int)^k)=((2^k:Nat):Int):=by simp
 have A:(2:Nat)^64=18446744073709551616:=by decide
 rw[A]at this;rw[e];generalize 2^k=q at this⊢;omega
theorem tb_shl{k:Nat}(A:k<64)(i:Nat):tb (IntKind.u64.wrap (1*2^(Nat.min k 64))) i=decide (k=i):=by unfold tb;rw[shl_one A,a1I,Nat.testBit_two_pow]
theorem shl_rng(x:Int):gL (IntKind.u64.wrap x):=by rw[u64_eq];constructor<;>omega
theorem shr_nat{a:Int}(N:gL a){k:Nat}(E:k<=64):Int.fdiv a (2^(Nat.min k 64))=((a.toNat>>>k:Nat):Int):=by
 rw[show Nat.min k 64=k from a2c E,a1M];have e:((2:Int)^k)=((2^k:Nat):Int):=by simp
 have A:a=(a.toNat:Int):=by omega
 rw[e,Int.fdiv_eq_ediv_of_nonneg _ (Int.natCast_nonneg _)];conv=>lhs;rw[A]
 simp
theorem shr_rng{a:Int}(A:gL a){k:Nat}(E:k<=64):gL (Int.fdiv a (2^(Nat.min k 64))):=by
 rw[shr_nat A E];have:a.toNat>>>k<=a.toNat:=by rw[a1M];exact Nat.div_le_self _ _
 generalize a.toNat>>>k=q at this⊢;constructor<;>omega
theorem tb_shr{a:Int}(A:gL a){k:Nat}(E:k<=64)(i:Nat):tb (Int.fdiv a (2^(Nat.min k 64))) i=tb a (k+i):=by unfold tb;rw[shr_nat A E,a1I,Nat.testBit_shiftRight]
theorem tb_big{a:Int}(A:gL a){i:Nat}(hi:64<=i):tb a i=false:=
 Nat.testBit_lt_two_pow (a0V (show a.toNat<2^64 by omega) (Nat.pow_le_pow_right (by omega) hi))
theorem ne0_tb{a:Int}(A:gL a)(h:a≠0): ∃i,tb a i=true:=by obtain⟨i,hi⟩:=Nat.exists_testBit_of_ne_zero (show a.toNat≠0 by omega);exact⟨i,hi⟩
theorem eq0_tb{a:Int}(A:gL a)(h:a=0)(i:Nat):tb a i=false:=by subst h;exact Nat.zero_testBit i
def aC(s:List U64)(n:Nat):Bool:=tb (s.getD (n/64) default).n (n%64)
theorem ln{s:List U64}{n:Nat}(h:64*s.length<=n):aC s n=false:=by unfold aC;rw[cp (by omega)];exact Nat.zero_testBit _
theorem bit_set{s:List U64}{j:Nat}{v:Int}(A:j<s.length)(i:Nat):aC (s.set j ⟨v⟩) i=if i/64=j then tb v (i%64) else aC s i:=by
 unfold aC;simp only[a02,List.getElem?_set];by_cases h:j=i/64
 ·rw[if_pos h,if_pos h.symm,if_pos (by omega)];rfl
 rw[if_neg h,if_neg (fun e=>h e.symm)]
theorem bit_rep(n i:Nat):aC (List.replicate n (⟨0⟩:U64)) i=false:=by unfold aC;rw[a02,a10];split<;>exact Nat.zero_testBit _
theorem add_ok{s:List U64}{n:Int}(h:0<=n/\n<64*(s.length:Int))(A:gL (s.getD (Int.tdiv n 64).toNat default).n)(i:Nat):
  aC (s.set (Int.tdiv n 64).toNat ⟨aR .or .u64 (s.getD (Int.tdiv n 64).toNat default).n (IntKind.u64.wrap (1*2^(Nat.min (Int.tmod n 64).toNat 64)))⟩) i=(aC s i||decide (i=n.toNat)):=by
 have E:(Int.tdiv n 64).toNat=n.toNat/64:=by rw[a1a h.1];omega
 have N:(Int.tmod n 64).toNat=n.toNat%64:=by rw[a1K h.1];omega
 rw[E]at A⊢
 rw[N,bit_set (by omega),tb_or A (shl_rng _),tb_shl (by omega)]
 by_cases hi:i/64=n.toNat/64
 ·rw[if_pos hi];have T:tb (s.getD (n.toNat/64) default).n (i%64)=aC s i:=by unfold aC;rw[hi]
  rw[T];congr 1;rw[decide_eq_decide];omega
 rw[if_neg hi,decide_eq_false (by omega),a27]
theorem rem_ok{s:List U64}{n:Int}(h:0<=n/\n<64*(s.length:Int))(A:gL (s.getD (Int.tdiv n 64).toNat default).n)(i:Nat):
  aC (s.set (Int.tdiv n 64).toNat ⟨aR .andNot .u64 (s.getD (Int.tdiv n 64).toNat default).n (IntKind.u64.wrap (1*2^(Nat.min (Int.tmod n 64).toNat 64)))⟩) i=(aC s i&& !decide (i=n.toNat)):=by
 have E:(Int.tdiv n 64).toNat=n.toNat/64:=by rw[a1a h.1];omega
 have N:(Int.tmod n 64).toNat=n.toNat%64:=by rw[a1K h.1];omega
 rw[E]at A⊢
 rw[N,bit_set (by omega),i5 A (shl_rng _),tb_shl (by omega)]
 by_cases hi:i/64=n.toNat/64
 ·rw[if_pos hi];have T:tb (s.getD (n.toNat/64) default).n (i%64)=aC s i:=by unfold aC;rw[hi]
  rw[T];congr 2;rw[decide_eq_decide];omega
 rw[if_neg hi,decide_eq_false (by omega),a1z,a28]
theorem n64{s:List U64}{n:Int}(h:0<=n/\n<64*(s.length:Int)):0<=Int.tdiv n 64/\Int.tdiv n 64<(s.length:Int)/\0<=Int.tmod n 64/\Int.tmod n 64<64:=by rw[a1a h.1,a1K h.1];omega
def uniB(s t:List U64)(k:Nat)(w:List U64):Prop:=w.length=s.length/\∀i,aC w i=(aC s i||(decide (i<64*k)&&aC t i))
theorem uniB_zero{s t:List U64}:uniB s t 0 s:=⟨rfl,fun i=>by simp⟩
theorem i4{s t w:List U64}{k:Nat}(h:uniB s t k w)(i:Nat):tb (w.getD k default).n i=tb (s.getD k default).n i\/64<=i:=by
 rcases a0i i 64 with hi|hi
 ·left;have:=h.2 (64*k+i);unfold aC at this;rw[show(64*k+i)/64=k by omega,show(64*k+i)%64=i by omega,decide_eq_false (by omega),a1X,a27]at this;exact this
 exact .inr hi
theorem uniB_same{s t w:List U64}{k:Nat}(h:uniB s t k w)(U:gL (t.getD k default).n)(V:gL (w.getD k default).n)(h0:aR .andNot .u64 (t.getD k default).n (w.getD k default).n=0):uniB s t (k+1) w:=by
 refine⟨h.1,fun i=>?_⟩;rw[h.2 i];by_cases hi:i<64*k
 ·rw[decide_eq_true hi,decide_eq_true (show i<64*(k+1) by omega)]
 by_cases E:i<64*(k+1)
 ·rw[decide_eq_false hi,decide_eq_true E,a1X,a1J,a27];have A:=eq0_tb (eQ .andNot (t.getD k default).n (w.getD k default).n) h0 (i%64);rw[i5 U V]at A;have N:aC t i=tb (t.getD k default).n (i%64):=by unfold aC;rw[show i/64=k by omega]
  have T:aC s i=tb (w.getD k default).n (i%64):=by
   rcases i4 h (i%64) with e|e
   ·rw[e];unfold aC;rw[show i/64=k by omega]
   omega
  rw[N,T];revert A;cases tb (t.getD k default).n (i%64)<;>cases tb (w.getD k default).n (i%64)<;>simp
 rw[decide_eq_false hi,decide_eq_false E]
theorem uniB_or{s t w:List U64}{k:Nat}(h:uniB s t k w)(N:k<s.length)(T:gL (t.getD k default).n)(U:gL (w.getD k default).n):uniB s t (k+1) (w.set k ⟨aR .or .u64 (w.getD k default).n (t.getD k default).n⟩):=by
 refine⟨by rw[a0b];exact h.1,fun i=>?_⟩;rw[bit_set (by rw[h.1];exact N)];by_cases hi:i/64=k
 ·rw[if_pos hi,tb_or U T];rw[decide_eq_true (show i<64*(k+1) by omega),a1J];have A:aC t i=tb (t.getD k default).n (i%64):=by unfold aC;rw[hi]
  have E:aC s i=tb (w.getD k default).n (i%64):=by
   rcases i4 h (i%64) with e|e
   ·rw[e];unfold aC;rw[hi]
   omega
  rw[A,E]
 rw[if_neg hi,h.2 i];congr 2;rw[decide_eq_decide];omega
theorem uniB_new{s t w:List U64}{k:Nat}(h:uniB s t k w)(E:gL (t.getD k default).n)(T:gL (w.getD k default).n)(h0:aR .andNot .u64 (t.getD k default).n (w.getD k default).n≠0): ∃i,aC t i=true/\aC s i=false:=by
 obtain⟨q,A⟩:=ne0_tb (eQ .andNot (t.getD k default).n (w.getD k default).n) h0;rw[i5 E T,a0f,a0F]at A;have N:q<64:=by
  rcases a0i q 64 with h1|h1
  ·exact h1
  rw[tb_big E h1]at A;exact absurd A.1 (by decide)
 refine⟨64*k+q,?_,?_⟩
 ·unfold aC;rw[show(64*k+q)/64=k by omega,show(64*k+q)%64=q by omega];exact A.1
 rcases i4 h q with e|e
 ·unfold aC;rw[show(64*k+q)/64=k by omega,show(64*k+q)%64=q by omega,←e];exact A.2
 omega
theorem uniB_all{s t w:List U64}{k:Nat}(h:uniB s t k w)(A:s.length<=k)(E:t.length=s.length)(i:Nat):aC w i=(aC s i||aC t i):=by
 rw[h.2 i];by_cases hi:i<64*k
 ·rw[decide_eq_true hi,a1J]
 rw[ln (s:=t) (by omega),a1A]
def jW(s:List U64)(m:Nat):List Int:=List.map (fun i:Nat=>(i:Int)) ((List.range m).filter (aC s))
def fO(s:List U64):List Int:=jW s (64*s.length)
theorem jn{s:List U64}{m:Nat}:jW s (m+1)=jW s m++if aC s m=true then [(m:Int)] else []:=by unfold jW;rw[List.range_succ,List.filter_append,a12];congr 1;rw[a1s];split<;>rfl
theorem lstK_skip{s:List U64}{m:Nat}: ∀(d:Nat),(∀i,m<=i->i<m+d->aC s i=false)->jW s m=jW s (m+d)
 |0,_=>rfl
 |d+1,h=>by rw[show m+(d+1)=(m+d)+1 by omega,jn,if_neg (by rw[h (m+d) (by omega) (by omega)];decide),a0B];exact lstK_skip d fun i A E=>h i A (by omega)
theorem lstK_len{s:List U64}{m:Nat}:(jW s m).length<=m:=by unfold jW;rw[a1p];have:=a16 (aC s) (List.range m);rwa [List.length_range]at this
theorem lst_mem{s:List U64}{x:Int}:x∈fO s↔0<=x/\aC s x.toNat=true:=by
 unfold fO jW;rw[a0r];constructor
 ·rintro⟨i,hi,rfl⟩;rw[a1E]at hi;exact⟨by omega,by rw[a1I];exact hi.2⟩
 rintro⟨h0,A⟩;refine⟨x.toNat,a1E.2 ⟨a1W.2 ?_,A⟩,by omega⟩;rcases a0i x.toNat (64*s.length) with h2|h2
 ·exact h2
 rw[ln h2]at A;cases A
theorem lst_asc{s:List U64}{m:Nat}:(jW s m).Pairwise (· < ·):=by
 unfold jW;rw[List.pairwise_map];refine(List.Pairwise.sublist List.filter_sublist (List.pairwise_lt_range (n:=m))).imp fun h=>?_
 omega
theorem list_stop{s:List U64}{k b:Nat}(E:gL (s.getD k default).n)(A:b<=64)(h0:Int.fdiv (s.getD k default).n (2^(Nat.min b 64))=0):jW s (64*k+b)=jW s (64*(k+1)):=by
 rw[show 64*(k+1)=64*k+b+(64-b) by omega];refine lstK_skip _ fun i N T=>?_
 have:=eq0_tb (shr_rng E A) h0 (i-64*k-b);rw[tb_shr E A]at this;unfold aC;rw[show i/64=k by omega,show i%64=b+(i-64*k-b) by omega];exact this
theorem list_lt{s:List U64}{k b:Nat}(E:gL (s.getD k default).n)(A:b<=64)(h0:Int.fdiv (s.getD k default).n (2^(Nat.min b 64))≠0):b<64:=by
 rcases a0i b 64 with h|h
 ·exact h
 exfalso;apply h0;rw[shr_nat E A,a1M,Nat.div_eq_of_lt]
 ·rfl
 have:b=64:=by omega
 subst this;omega
theorem iP{s:List U64}{k b:Nat}(A:gL (s.getD k default).n)(E:b<64):(aR .and .u64 (Int.fdiv (s.getD k default).n (2^(Nat.min b 64))) 1=1)↔aC s (64*k+b)=true:=by rw[tb_and1 (shr_rng A (by omega)),tb_shr A (by omega),a1Y];unfold aC;rw[show(64*k+b)/64=k by omega,show(64*k+b)%64=b by omega]
end Go.R
end
noncomputable section
namespace Go.R
open Go.RowKit Go.WideShapes Go.ChangeShapes
section
variable {X:Type} {enc:TypeId×Value->X} {P:Program} {w:World} {μ:Emb} {H:Heap}
theorem Em.void(h:Em w μ H)(h0:0<w.heap.size):Em w (μ.set H.next ⟨0,0,none,0⟩) (H.push (.cells [] none true)):=
 h.add (c:=0) (sh:=0) (cs:=[]) h0 fun i v A=>by simp at A
def EmC(enc:TypeId×Value->X)(P:Program)(w:World)(t:TypeId)(α:Type) [Rp α](B:DataW X->α->Prop):Prop:=
 ∀{μ:Emb} {H:Heap} {n:Nat} {cs:List Value} {x:DataW X×List MemPlace},Em w μ H->DataW.trod enc P w 0 (fun _=>true) true n t cs=some x->
  ∃μ' H' c y,Em w μ' H'/\EmLe μ H μ' H'/\LRel μ' c cs/\Rp.rep H'.get c (y:α)/\B x.1 y
theorem dN{t:TypeId}(A:P.underlying t=some (.int .i64)):EmC enc P w t Int (fun _=>in64):=fun{μ H n cs x} h hd=>by obtain⟨m,rfl,_,E⟩:=DataW.trod_int A hd;have:=wf_in64 E;exact⟨μ,H,_,m,h,.refl _ _,.cons (.atom _ rfl) .nil,⟨rfl,this⟩,this⟩
theorem em_row{e:TypeId}{α:Type} [Rp α]{B:DataW X->α->Prop}(he:EmC enc P w e α B)(hc:P.cellsOf e=Rp.sz α){a:Addr}{n:Nat}{D:Nat->DataW X}{Pl:Nat->List MemPlace}:
  ∀(len:Nat),(∀i,i<len->∃cs,w.cells? 0 (a.add (i*P.cellsOf e)) (P.cellsOf e)=some cs/\DataW.trod enc P w 0 (fun _=>true) true n e cs=some (D i,Pl i))->∀{μ:Emb} {H:Heap},Em w μ H->
   ∃μ' H' c l,Em w μ' H'/\EmLe μ H μ' H'/\RL H'.get c (l:List α)/\l.length=len/\(∀i y,l[i]?=some y->B (D i) y)/\∀(i:Nat) v,c[i]?=some v->∃v',w.cell? (a.add i)=some v'/\VRel μ' v v'
 |0,_,μ,H,h=>⟨μ,H,[],[],h,.refl _ _,rfl,rfl,fun i y hy=>(by simp at hy),fun i v E=>by simp at E⟩
 |len+1,hx,μ,H,h=>by
  obtain⟨μ1,H1,c,l,h1,ar,hr,hl,hB,hg⟩:=em_row he hc len (fun i hi=>hx i (by omega)) h;obtain⟨cs,ai,hd⟩:=hx len (by omega);obtain⟨μ2,H2,c2,y,h2,N,Z,ad,hy⟩:=he h1 hd;obtain⟨_,a3,U⟩:=World.cells?_some ai;have a5:c.length=len*P.cellsOf e:=by rw[hr.length,hl,hc]
  refine⟨μ2,H2,c++c2,l++[y],h2,ar.trans N,(hr.mono N.heap).append (.single ad),by simp[hl],fun i z A=>?_,fun i v E=>?_⟩
  ·rw[a1L]at A;split at A
   ·exact hB i z A
   rename_i hi;have:i-l.length=0:=by have:=(a0n.1 A).1;simp at this;omega
   rw[this]at A;simp at A;subst A;rw[show i=len by omega];exact hy
  by_cases hi:i<c.length
  ·rw[a0N hi]at E;obtain⟨v',T,V⟩:=hg i v E;exact⟨v',T,V.mono N.emb⟩
  rw[a0X (by omega)]at E;obtain⟨v',T,V⟩:=Z.get E;have a6:i-c.length<cs.length:=(a0n.1 T).1;refine⟨v',?_,V⟩;rw[←T,←U _ (by omega),Go.Deep.add_add];congr 2;omega
def LB{α:Type}(B:DataW X->α->Prop)(d:DataW X)(l:List α):Prop:=
 l.length<=maxLen/\∃(D:Nat->DataW X) (rest:List (DataW X)),(d= .slice ((List.range l.length).map D) rest\/(d= .nil/\l=[]))/\∀i y,l[i]?=some y->B (D i) y
theorem jx{t e:TypeId}{α:Type} [Rp α]{B:DataW X->α->Prop}(h0:0<w.heap.size)(ht:P.underlying t=some (.slice e))(hc:P.cellsOf e=Rp.sz α)(hp:0<Rp.sz α)(he:EmC enc P w e α B):
  EmC enc P w t (List α) (LB B):=fun{μ H n cs x} h hd=>by
 rcases Go.Deep.open_slice ht hd with⟨rfl,E⟩|⟨a,len,bk,m,n',D,Pl,rfl,_,ar,bz,hm,E,N⟩
 ·exact⟨μ,H,[.slice none 0 0],[],h,.refl _ _,.cons (.atom _ rfl) .nil,⟨none,0,rfl,.nil⟩,a0p _,fun _=> .nil,[],.inr ⟨by rw[E],rfl⟩,fun i y hy=>(by simp at hy)⟩
 simp only[if_true]at hm
 subst hm
 rcases a1v m with hz|hpos
 ·subst hz;obtain rfl:len=0:=by omega
  refine⟨_,_,[.slice (some ⟨H.next,0,none⟩) 0 0],[],h.void h0,EmLe.add h ⟨0,0,none,0⟩ (.cells [] none true),.cons (.sliceZ _ _ _ _ (Emb.set_same _ _ _)) .nil,⟨some ⟨H.next,0,none⟩,0,rfl,.inr ⟨H.next,0,0,_,rfl,Heap.get_push_same _ _,[],none,true,rfl,fun N=>(by cases N),a0a _,?_,.inl rfl⟩⟩,a0p _,D,_,.inl (by rw[E];rfl),fun i y hy=>(by simp at hy)⟩;simp[RL]
 obtain⟨ag,Z,_⟩:=N 0 hpos
 obtain⟨_,an,U⟩:=World.cells?_some Z
 have ao:0<ag.length:=by rw[an,hc];exact hp
 have A: ∃v,w.cell? a=some v:=by have:=U 0 (by rw[hc];exact hp);rw[Go.Deep.add_add]at this;simp only[Nat.zero_mul,a1Y,show a.add 0=a by unfold Addr.add;rw[if_pos rfl]]at this;exact⟨_,this.trans (a06 ao)⟩
 obtain⟨v0,A⟩:=A
 have ay:a.spot=none/\a.block<w.heap.size:=by
  unfold World.cell? at A;split at A
  ·rename_i al;refine⟨?_,(a0z.1 al).1⟩;split at A
   ·cases A
   rename_i hs;simpa using hs
  cases A
 obtain⟨μ1,H1,c,l,V,a0,hr,hl,hB,hg⟩:=em_row he hc (a:=a) len (fun i hi=>N i (by omega)) h
 obtain⟨T,off,sp⟩:=a
 obtain⟨rfl,ai⟩:=ay
 have hA:=V.add (c:=T) (sh:=off) (cs:=c) ai (fun i v hv=>by
  obtain⟨v',e1,e2⟩:=hg i v hv;refine⟨v',?_,e2⟩;rw[←e1];congr 1;unfold Addr.add;split
  ·rename_i e;subst e;rfl
  rfl)
 subst hl
 refine⟨_,_,[.slice (some ⟨H1.next,0,none⟩) l.length m],l,hA,a0.trans (EmLe.add V ⟨T,off,none,0⟩ (.cells c none true)),.cons ?_ .nil,⟨_,_,rfl,?_⟩,by omega,D,_,.inl (by rw[E]),hB⟩
 ·have:=VRel.sliceC (μ:=μ1.set H1.next ⟨T,off,none,0⟩) H1.next 0 l.length m ⟨T,off,none,0⟩ (Emb.set_same _ _ _) rfl;simpa using this
 refine .inr ⟨H1.next,0,m,_,rfl,Heap.get_push_same _ _,_,none,true,rfl,fun N=>(by cases N),ar,?_,.inl rfl⟩
 rw[a0O,←hr.length,a18]
 exact hr.mono (EmLe.add V ⟨T,off,none,0⟩ (.cells c none true)).heap
theorem gB{t:TypeId}{fs:Array Field}{n:Nat}{cs:List Value}{x:DataW X×List MemPlace}(ht:P.underlying t=some (.struct fs))(Z:DataW.trod enc P w 0 (fun _=>true) true n t cs=some x):
  cs.length=P.cellsOf t/\∃m T,x.1= .agg T/\T.length=fs.size/\∀(i:Nat) (ty:TypeId) (off sz:Nat),(fs[i]?).map (fun f=>(f.type,f.offset))=some (ty,off)->P.cellsOf ty=sz->∃y,DataW.trod enc P w 0 (fun _=>true) true m ty ((cs.drop off).take sz)=some y/\T[i]?=some y.1:=by
 obtain⟨xs,m,_,hx,hl,N,hf⟩:=DataW.trod_struct ht Z
 refine⟨hl,m,xs.map (·.1),by rw[hx],by rw[a1p];exact N,fun i ty off sz hi U=>?_⟩
 cases A:fs[i]? with
 |none=>rw[A]at hi;cases hi
 |some f=>
  rw[A]at hi
  simp only[a1R,a00,a04]at hi
  obtain⟨rfl,rfl⟩:=hi
  subst U
  have V:=hf i f A
  have E:i<xs.length:=by rw[N];exact(a0z.1 A).1
  exact⟨_,V.trans (a06 E),by rw[a1f,a06 E];rfl⟩
theorem LRel.put{c r cs:List Value}{off sz:Nat}(h:LRel μ c ((cs.drop off).take sz))(k:LRel μ r (cs.drop (off+sz))):LRel μ (c++r) (cs.drop off):=by have:=h.append k;rwa [←a2h,a1H]at this
theorem LRel.stop{cs:List Value}{off:Nat}(h:cs.length=off):LRel μ [] (cs.drop off):=by rw[a1q (by omega)];exact .nil
theorem EmC.arg{t:TypeId}{α:Type} [Rp α]{B:DataW X->α->Prop}(E:EmC enc P w t α B)(h:Em w μ H){v:Value}{d:DataW X}{ps:List MemPlace}(A:DataW.Trod enc P w 0 (fun _=>true) true t v d ps):
  ∃μ' H' c y,Em w μ' H'/\EmLe μ H μ' H'/\LRel μ' c v.cells.toList/\Rp.rep H'.get c (y:α)/\B d y:=by
 obtain⟨n,N⟩:=A
 exact E h N
theorem okWide_struct{fs:Array Field}{t:TypeId}{v:Value}{base:Nat}(N:P.underlying t=some (.struct fs))(A:Value.okWide P w .any base t v): ∃cs,v= .agg cs:=by unfold Value.okWide at A;rw[N]at A;obtain⟨cs,E,_⟩:=A;exact⟨cs,E⟩
theorem VRel.aggOf{c:List Value}{v:Value}(A: ∃cs,v= .agg cs)(h:LRel μ c v.cells.toList):VRel μ (.agg ⟨c⟩) v:=by obtain⟨cs,rfl⟩:=A;exact .agg _ _ h.1 h.2
theorem cell_size{a:Addr}{v:Value}(h:w.cell? a=some v):0<w.heap.size:=by
 unfold World.cell? at h;split at h
 ·rename_i A;have:=(a0z.1 A).1;omega
 cases h
end
end Go.R
end
noncomputable section
namespace Go.R
open Go.ChangeShapes
section
variable {H:Type} {enc:TypeId×Value->H}
theorem handed_cond_and{a:Assume}{C:Checked}{os:Os}{f:FuncId}{fn:Func}{s:OpenSpec}{k:(H:Type)->List (DataW H)->Bool}(hk:s.cond=some k){F:Stop.Interp}{U:List PathCond}{A ad T Z:Bool}{Y:World->Array Value->Prop}
  (hY: ∀(w w':World) (args:Array Value),w.heap=w'.heap->Y w args->Y w' args)
  (a6:ownKnob C.prog.godebug=none) (ag:os.Started) (al:C.prog.inits.idxOf? f=none) (a1:C.prog.funcs[f]?=some fn)
  (ai: ∃(w:World) (E:Tape) (i:Input),w.os=os/\(w.forCall E i).Shaped C.prog/\i.vars=[]/\Input.okWide C.prog (w.forCall E i) .any w.heap.size f i/\
   ((s.pre enc C.prog fn U A (w.forCall E i).memory i.args/\Y (w.forCall E i).memory i.args)/\sizedMet enc C.prog fn s A (w.forCall E i).memory i.args)/\a.holds C.prog (lone (Frame.enter C.prog f i.args .normal) [] (w.forCall E i)))
  (V: ∀(W:World) (base:Nat) (args:Array Value) (ds gs:List (DataW H)) (N:List MemPlace),
   (∀(j:Nat) t v,fn.params[j]?=some t->args[j]?=some v->Value.okWide C.prog W .any base t v)->
   DataW.Whole enc C.prog fn.params.toList s.vars A W args.toList ds gs N->k H (ds++gs)=true->Y W args->
   Calls C.prog f args W fun e W'=> ∃v,e= .returned v/\(s.at F).post enc C.prog fn A ad T Z W args v W'):
  ReturnsInHanded a C os f .any (fun w args=>(s.pre enc C.prog fn U A w args/\Y w args)/\sizedMet enc C.prog fn s A w args) ((s.at F).post enc C.prog fn A ad T Z):=by
 refine returnsInHanded_of_calls a6 ag al ai ?_
 intro w E i _ _ _ a4 aw a2
 obtain⟨_,_,_,a0,ar,_,_,_,_,ax⟩:=a4
 have e:a0=fn:=Option.some.inj (ar.symm.trans a1)
 subst e
 obtain⟨⟨hp,hx⟩,_⟩:=aw
 obtain⟨ds,gs,N,hw,_,a3⟩:=(OpenSpec.pre_some hk U A _ _).1 hp
 have a5:=DataW.Whole.of_heap (w':=w.forCall E i) (by rfl) hw
 refine(V (w.forCall E i) w.heap.size i.args ds gs N ax a5 a3 (hY _ _ _ (by rfl) hx)).mono fun e W' ⟨v,he,hp⟩=>?_
 subst he
 exact ChangeSpec.post_blind hp
theorem witness_cond{C:Checked}{os:Os}{f:FuncId}{fn:Func}{s:OpenSpec}{k:(H:Type)->List (DataW H)->Bool}(hk:s.cond=some k){N:List PathCond}{A:Bool}{Y:World->Array Value->Prop}(modest:Bool)(w0:World)(args:Array Value)(fuel:Nat)(Z:w0.os=os)
  (ad:(w0.forCall (fun _ _=>0) ⟨#[],args,[]⟩).Shaped C.prog)
  (U:Input.okWideB C.prog (w0.forCall (fun _ _=>0) ⟨#[],args,[]⟩) f ⟨#[],args,[]⟩=true)
  {x:List (DataW H)×List (DataW H)×List MemPlace} (hx:DataW.whole enc C.prog (w0.forCall (fun _ _=>0) ⟨#[],args,[]⟩).memory fn.params.toList s.vars A args.toList fuel=some x)
  (T:N.all (PathCond.test C.prog ⟨fn.params.toList,x.1,s.bare.plain.varTypes C.prog,x.2.1⟩)=true) (V:k H (x.1++x.2.1)=true)
  (ag:s.bare.sizedB enc C.prog fn A (w0.forCall (fun _ _=>0) ⟨#[],args,[]⟩).memory args fuel=true)
  (hY:Y (w0.forCall (fun _ _=>0) ⟨#[],args,[]⟩).memory args):
  ∃(w:World) (E:Tape) (i:Input),w.os=os/\(w.forCall E i).Shaped C.prog/\i.vars=[]/\Input.okWide C.prog (w.forCall E i) .any w.heap.size f i/\
   ((s.pre enc C.prog fn N A (w.forCall E i).memory i.args/\Y (w.forCall E i).memory i.args)/\sizedMet enc C.prog fn s A (w.forCall E i).memory i.args)/\({modest:=modest}:Assume).holds C.prog (lone (Frame.enter C.prog f i.args .normal) [] (w.forCall E i)):=
 ⟨w0,fun _ _=>0,⟨#[],args,[]⟩,Z,ad,(Input.okWide_of_okWideB (base:=0) U).1,(Input.okWide_of_okWideB U).2,⟨⟨(OpenSpec.pre_some hk N A _ _).2 ⟨x.1,x.2.1,x.2.2,DataW.Whole_of_whole hx,T,V⟩,hY⟩,sizedMet_of_sizedB ag⟩,by
  simp only[Assume.holds];exact⟨by simp,by simp,fun _=>Modest.zero,by simp,by simp⟩⟩
end
end Go.R
end
noncomputable section
set_option linter.unusedVariables false
namespace Go.R
structure Eqs(s s':St):Prop where
 t:cE s.tmps=cE s'.tmps
 n:s.size=s'.size
 h:s.heap=s'.heap
def CgS(f g:St->Option (Ex×St)):Prop:= ∀s E,Eqs s E->∀e r,f s=some (e,r)->∃A,g E=some (e,A)/\Eqs r A
section
variable {P:Program} {G:Nat} {cf:cj} {ops:Array Oper}
end
def tabT(args:List Value):List (Nat×Value)->Tr Value
 | []=>ep 0 args .nil
 |(i,v)::l=>lset (tabT args l) i v
def endsTrue(d:Nat)(r:Option (Ex×St)):Bool:=match r with
 |some (.normal,s)=>(match cE s.tmps d with| .bool b=>b|_=>false)
 |some (.ret,s)=>(match cE s.tmps d with| .bool b=>b|_=>false)
 |_=>false
end Go.R
end
noncomputable section
set_option linter.unusedVariables false
namespace Go.R
structure PtrT where
 b:Nat
 deriving Inhabited
instance :Rp PtrT where
 sz:=1
 rep F cs x:=cs=[.pointer (some ⟨x.b,0,none⟩)]
 len:=by rintro F cs x rfl;rfl
 one:=by rintro F cs x rfl;rfl
 mono:=by intro F F' cs x _ h;exact h
section
variable {B:Base} {F F':Fz} {H:Heap} {L R:List Fp}
end
section
variable {P:Program} {G:Nat} {K:bL} {sz:Nat} {Q:Ex->Fn->Heap->Prop} {ops:Array Oper} {D:List (Nat×ID)} {i:Nat} {os:List Oper} {k:List Fr} {f:Fn} {H:Heap}
theorem wf_callG{d:Option Tmp}{op:Op}{ty:TypeId}{pos:String}{af:Array Edge}{W:List Nat}{g:FuncId}{args:List Value}{R:Value->Heap->Prop}(ha:AP P (cW f) ⟨d,op,ty,pos,af,none⟩ {H with log:=[]} (.enter g args,{H with log:=[]}))(ho:op.operands.toList.all (bw G)=true)(hd:dstOK d sz=true)(hk:ey op=true)
  (hc:C P G K g args {H with log:=[]} R) (an:okD ops i (.x W) D)
  (h: ∀v A,R v A->(∀b,b∈A.log->H.next<=b\/b∈W)/\∀l,(∀b,b∈l->b∈A.log\/b∈H.log)->WF2 P G K sz ops ((i,.x W)::D) (i+1) os k (updO f d v) {A with log:=l} Q):WF2 P G K sz ops D i (⟨d,op,ty,pos,af,none⟩::os) k f H Q:=⟨fun t fs ht V=>by
 obtain⟨T,v,A,al,hr⟩:=hc.out
 obtain⟨Z,h0⟩:=h v A hr
 obtain⟨t',h1,h2⟩:=gn (s:=⟨t,sz,A⟩) (v:=v) hd
 have hi:=bt (ops:=ops) (f:=f) (o:=⟨d,op,ty,pos,af,none⟩) rfl hk Z t sz H ht
 obtain⟨E,e,s',h3,h4⟩:=(h0 (cV H.next A.log++H.log) (fun b N=>by
  rcases a07.1 N with N|N
  ·exact .inl (eB N).1
  exact .inr N)).out t' ((i,du ops ⟨d,op,ty,pos,af,none⟩ ⟨t,sz,H⟩ H.next A.log)::fs) (by rw[h2,ht]) ⟨rfl,hi,V⟩
 refine⟨Nat.max T E,e,s',?_,h4⟩
 have ao:step P G (call P G K (Nat.max T E)) ops ⟨d,op,ty,pos,af,none⟩ ⟨t,sz,{H with log:=[]}⟩=some ⟨t',sz,A⟩:=by unfold step bd;simp only[cond_true,ho,dC,ht,ha.eq,dG (a1F T E) _ _ _ _ al];exact h1
 unfold bn fy
 rw[ao]
 simp only[cO hi V an,cond_true]
 refine de (a1k (a1b T E)) k _ _ (fun x U=>?_) _ h3
 cases hq:bn P G (call P G K E) ops (i+1) ((i,du ops ⟨d,op,ty,pos,af,none⟩ ⟨t,sz,H⟩ H.next A.log)::fs) os ⟨t',sz,{A with log:=cV H.next A.log++H.log}⟩ with
 |none=>rw[hq]at U;cases U
 |some y=>
  have:=dD (dG (P:=P) (G:=G) (K:=K) (a1b T E)) _ _ _ _ _ hq
  rw[hq]at U
  rw[this];exact U⟩
end
section
variable {ι β:Type} {Ch:Fz->ι->β->Fp->Prop} {F:Fz}
end
end Go.R
end
namespace Go.R
abbrev iI(n:Int):Value:= .int .i64 n
abbrev pT(b o:Nat):Value:= .pointer (some ⟨b,o,none⟩)
abbrev fP(b:Nat)(l:List Value):Fp:=[(b,.cells l none false)]
abbrev sL(a:Option Addr)(n k:Nat):Value:= .slice a n k
abbrev aG(l:List Value):Value:= .agg ⟨l⟩
theorem fT{a b c:Fz}(h:a.le b)(k:b.le c):a.le c:=Fz.le_trans h k
theorem fR{a:Fz}:a.le a:=Fz.le_refl a
theorem wR{P:Program}{G:Nat}{K:bL}{sz:Nat}{Q:Ex->Fn->Heap->Prop}{f:Fn}{H:Heap}{c1:Code}{k k1:List Fr}(n:Nat){id:Nat}{ops:Array Oper}(hs:List (Nat×Hint))(lo hi:Nat)(ex:List Nat)(l:List (Nat×Value)){p:Prop}(N:p)(A:foc n .skip k=(c1,k1))(E: ∀g,WK P G K sz c1 k1 (kG (hav lo hi ex g f) l) H Q)(h:fF P G K H sz ops f 0 ops.toList hs lo hi ex (eG Prod.fst l)=some (l,p):=by kernel_rfl):WK P G K sz (.region id ops false) k f H Q:=wr n hs lo hi ex l N h A E
theorem wRD{P:Program}{G:Nat}{K:bL}{sz:Nat}{Q:Ex->Fn->Heap->Prop}{f:Fn}{H:Heap}{c1:Code}{k k1:List Fr}(n:Nat){id:Nat}{ops:Array Oper}(hs:List (Nat×Hint))(lo hi:Nat)(ex:List Nat)(l:List (Nat×Value)){p:Prop}(N:p)(T:(aP ops&&P.follows .mixedOrders)=true)(A:foc n .skip k=(c1,k1))(E: ∀g,WK P G K sz c1 k1 (kG (hav lo hi ex g f) l) H Q)(h:fF P G K {H with log:=[]} sz ops f 0 ops.toList hs lo hi ex (eG Prod.fst l)=some (l,p):=by kernel_rfl):WK P G K sz (.region id ops true) k f H Q:=wrD n hs lo hi ex l N T h A E
theorem wRo{P:Program}{G:Nat}{K:bL}{sz:Nat}{Q:Ex->Fn->Heap->Prop}{f:Fn}{H:Heap}{k:List Fr}(n i:Nat){ops:Array Oper}{os A:List Oper}(hs:List (Nat×Hint))(lo hi:Nat)(ex:List Nat)(l:List (Nat×Value)){p:Prop}(T:p)(E:gC os n=A)(N: ∀g,WO P G K sz ops A k (kG (hav lo hi ex g f) l) H Q)(h:fF P G K H sz ops f i (gi os n) hs lo hi ex (eG Prod.fst l)=some (l,p):=by kernel_rfl):WO P G K sz ops os k f H Q:=wro n i hs lo hi ex l T h E N
theorem wT{P:Program}{G:Nat}{K:bL}{sz:Nat}{Q:Ex->Fn->Heap->Prop}{f:Fn}{H:Heap}{c1:Code}{k k1:List Fr}(n:Nat){id:Nat}{ops:Array Oper}(hs:List (Nat×Hint))(lo hi:Nat)(ex:List Nat)(l:List (Nat×Value))(A:foc n .skip k=(c1,k1))(E: ∀g,WK P G K sz c1 k1 (kG (hav lo hi ex g f) l) H Q)(h:fF P G K H sz ops f 0 ops.toList hs lo hi ex (eG Prod.fst l)=some (l,True):=by kernel_rfl):WK P G K sz (.region id ops false) k f H Q:=wR n hs lo hi ex l trivial A E h
theorem wU{P:Program}{G:Nat}{K:bL}{sz:Nat}{Q:Ex->Fn->Heap->Prop}{f:Fn}{H:Heap}{c1:Code}{k k1:List Fr}(n:Nat){id:Nat}{ops:Array Oper}(hs:List (Nat×Hint))(lo hi:Nat)(ex:List Nat)(l:List (Nat×Value)){p:Prop}(N:p)(A:foc n .skip k=(c1,k1))(E: ∀g,WK P G K sz c1 k1 (kG (hav lo hi ex g f) l) H Q)(h:fF P G K H sz ops f 0 ops.toList hs lo hi ex (eG Prod.fst l)=some (l,p/\True):=by kernel_rfl):WK P G K sz (.region id ops false) k f H Q:=wR n hs lo hi ex l ⟨N,trivial⟩ A E h
theorem wTo{P:Program}{G:Nat}{K:bL}{sz:Nat}{Q:Ex->Fn->Heap->Prop}{f:Fn}{H:Heap}{k:List Fr}(n i:Nat){ops:Array Oper}{os A:List Oper}(hs:List (Nat×Hint))(lo hi:Nat)(ex:List Nat)(l:List (Nat×Value))(E:gC os n=A)(N: ∀g,WO P G K sz ops A k (kG (hav lo hi ex g f) l) H Q)(h:fF P G K H sz ops f i (gi os n) hs lo hi ex (eG Prod.fst l)=some (l,True):=by kernel_rfl):WO P G K sz ops os k f H Q:=wRo n i hs lo hi ex l trivial E N h
theorem wUo{P:Program}{G:Nat}{K:bL}{sz:Nat}{Q:Ex->Fn->Heap->Prop}{f:Fn}{H:Heap}{k:List Fr}(n i:Nat){ops:Array Oper}{os A:List Oper}(hs:List (Nat×Hint))(lo hi:Nat)(ex:List Nat)(l:List (Nat×Value)){p:Prop}(T:p)(E:gC os n=A)(N: ∀g,WO P G K sz ops A k (kG (hav lo hi ex g f) l) H Q)(h:fF P G K H sz ops f i (gi os n) hs lo hi ex (eG Prod.fst l)=some (l,p/\True):=by kernel_rfl):WO P G K sz ops os k f H Q:=wRo n i hs lo hi ex l ⟨T,trivial⟩ E N h
end Go.R
