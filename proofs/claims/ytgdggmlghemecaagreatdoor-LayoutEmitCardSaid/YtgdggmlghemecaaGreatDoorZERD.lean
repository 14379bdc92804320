/-
Symbolic runs by computation, data, the laid table.
-/
import Derived.Test.YtgdggmlghemecaaGreatDoorZERC
import Derived.Laws.Bits128
import Derived.OpenShut
import Derived.ReadAgain
import Derived.Test.YtgdggmlghemecaaGreatDoorZERB
import Derived.Deep.Slices
import Derived.JoinedCond
import Derived.LaidLaws
import Derived.KernelRfl
noncomputable section
namespace Go.R
section
variable {P:Program} {f:Fn} {H:Heap} {rs:List ResultVar} {l:List Value}
theorem rN:cr P f H []=some []:=rfl
theorem rT{t:Tmp}{v:Value}(A:f t=v)(h:cr P f H rs=some l):cr P f H (.tmp t::rs)=some (v::l):=by unfold cr;rw[h,A]
theorem rC{a:Tmp}{t:TypeId}{p:Addr}{v:Value}(A:f a= .pointer (some p))(E:H.loadV P t p=some v)(h:cr P f H rs=some l):cr P f H (.cell a t::rs)=some (v::l):=by unfold cr;rw[A];simp only[E,h]
theorem l7{t:TypeId}{b n:Nat}{cs:List Value}(N:e7 P t=some true)(hs:cW P t=some n)(hc:HC H.get b 0 cs)(T:cs.length=n):H.loadV P t ⟨b,0,none⟩=some (.agg ⟨cs⟩):=by obtain⟨all,U,Z,E,A⟩:=hc;unfold Heap.loadV;rw[N];simp only[hs];unfold Heap.loadN;rw[a17]at A;subst T;simp only[E,bS,ca,bG,a17,A,a11,cond_true]
end
section
variable {α:Type} [Rp α] {P:Program} {ρ:Operand->Value} {d:Option Tmp} {ty:TypeId} {pos:String} {af:Array Edge} {gd:Option (Nat×Bool)} {B:Base} {F:Fz} {H:Heap} {L R:List Fp} {v:Value} {l:List α} {p:Fp}
theorem ap_boolNe{t yt:TypeId}{x y:Operand}{a b:Bool}(E:ρ x= .bool a)(N:ρ y= .bool b)(A: ∀a b:Bool,aF P (d5 .neq t x y a b)=some (.value (.bool (a !=b)))):AP P ρ ⟨d,.binOp .neq t x y yt,ty,pos,af,gd⟩ H (.val (.bool (a !=b)),H):=by
 refine⟨?_⟩;show aBin P ρ _ .neq t (ρ x) y H=_;rw[E];show bF P ρ _ H=_;unfold bF;have T:((Op.binOp .neq t x y yt).operands.toList.all fun x=>jI (ρ x))=true:=by simp[Op.operands,E,N,jI,noA0]
 simp only[T,cond_true];have U:aF P (execOp ρ ⟨d,.binOp .neq t x y yt,ty,pos,af,gd⟩)=some (.value (.bool (a !=b))):=by rw[←A a b];unfold execOp d5;simp only[E,N]
 rw[U];rfl
theorem OS.len'{F:Fz}{a:Option Addr}{n k:Nat}{l:List α}{p:Fp}(h:OS F (.slice a n k) l p):l.length=n:=by obtain⟨A,E,e⟩:=h.shape;injection e with _ e _;exact e.symm
theorem OS.norm{F:Fz}{a:Option Addr}{n k:Nat}{l:List α}{p:Fp}(h:OS F (.slice a n k) l p):OS F (.slice a l.length k) l p:=by rw[h.len'];exact h
theorem ap_ixG{x i:Operand}{t:TypeId}{cs:Array Value}{w r:Value}(A:ρ x= .agg cs)(hi:ρ i=w)(h:aF P (Instr.index t (.agg cs) w)=some r):AP P ρ ⟨d,.index t x i,ty,pos,af,gd⟩ H (.val r,H):=by refine⟨?_⟩;show lT P t (ρ x) (ρ i) H=_;rw[A,hi];show lift P (Instr.index t (.agg cs) w) H=_;unfold lift;rw[h]
end
section
variable {α:Type} [Rp α] {P:Program} {ρ:Operand->Value} {d:Option Tmp} {ty:TypeId} {pos:String} {af:Array Edge} {gd:Option (Nat×Bool)} {B:Base} {F:Fz} {H:Heap} {L R:List Fp} {v:Value} {l:List α} {p:Fp} {t e:TypeId} {x:Operand} {i j q:Nat}
theorem rs_cutd{lo:Option Operand}(h:SR F v l)(hs:HS B F H L R)(T:ρ x=v)(N:P.underlying t=some (.slice e))(U:cW P e=some (Rp.sz α))(E:bU 0 (lo.map ρ)=some i)(A:i<=l.length):
  ∃r:Rs,AP P ρ ⟨d,.slice t x lo none none,ty,pos,af,gd⟩ H (.val r.v,r.H)/\(∃a k,r.v= .slice a (l.drop i).length k/\r.H=H/\SR F (.slice a (l.drop i).length k) (l.drop i)):=by
 have:=rs_cut (d:=d) (ty:=ty) (pos:=pos) (af:=af) (gd:=gd) (hi:=none) h hs T N U optN0 E A (a0d _)
 rwa [a0h (a0d _)]at this
theorem jd{hi:Option Operand}(h:SR F v l)(hs:HS B F H L R)(T:ρ x=v)(N:P.underlying t=some (.slice e))(U:cW P e=some (Rp.sz α))(A:bU l.length (hi.map ρ)=some j)(E:j<=l.length):
  ∃r:Rs,AP P ρ ⟨d,.slice t x none hi none,ty,pos,af,gd⟩ H (.val r.v,r.H)/\(∃a k,r.v= .slice a (l.take j).length k/\r.H=H/\SR F (.slice a (l.take j).length k) (l.take j)):=by
 have:=rs_cut (d:=d) (ty:=ty) (pos:=pos) (af:=af) (gd:=gd) (lo:=none) h hs T N U A optN0 (a0r _) E
 rwa [a17]at this
theorem rs_cutOt{hi:Option Operand}(h:OS F v l p)(hs:HS B F H L R)(N:L[q]?=some p)(U:ρ x=v)(T:P.underlying t=some (.slice e))(Z:cW P e=some (Rp.sz α))(A:bU l.length (hi.map ρ)=some j)(E:j<=l.length):
  ∃r:Rs,AP P ρ ⟨d,.slice t x none hi none,ty,pos,af,gd⟩ H (.val r.v,r.H)/\(∃a k,r.v= .slice a (l.take j).length k/\r.H=H/\OS F (.slice a (l.take j).length k) (l.take j) p):=by
 have:=rs_cutO (d:=d) (ty:=ty) (pos:=pos) (af:=af) (gd:=gd) (lo:=none) h hs N U T Z A optN0 (a0r _) E
 rwa [a17]at this
end
def lc(P:Program):List Field->Option (List (Nat×Nat))
 | []=>some []
 |f::fs=>match cW P f.type with
  |some n=>match lc P fs with
   |some l=>some ((f.offset,n)::l)
   |none=>none
  |none=>none
def fillL(pl:Nat->Option (Nat×Nat)):List Value->List (Nat×Value)->Option (List Value)
 |cs,[]=>some cs
 |cs,(i,v)::r=>match pl i with
  |some (off,n)=>bif Nat.beq (eA v.cells.toList) n&&Nat.ble (off+eA v.cells.toList) (eA cs) then fcL (be cs off v.cells.toList) fun cs=>fillL pl cs r else none
  |none=>none
def bldL(P:Program)(t:TypeId)(ps:List (Nat×Value)):Option (List Value):=match P.underlying t with
 |some (.struct fs)=>match cy P t with
  |some z=>match lc P fs.toList with
   |some pl=>fillL (nth pl) z ps
   |none=>none
  |none=>none
 |_=>none
theorem kU: ∀(l:List Value) (s off:Nat) (A:List Value),off+s+l.length<=A.length->((l.zipIdx s).foldl (fun(cs:Array Value) p=>cs.setIfInBounds (off+p.2) p.1) ⟨A⟩)=⟨be A (off+s) l⟩
 | [],s,off,A,h=>by
  have:be A (off+s) []=A:=by rw[kR A [] (off+s) h];simp
  rw[this];rfl
 |v::l,s,off,A,h=>by
  rw[List.zipIdx_cons,a2m];show((l.zipIdx (s+1)).foldl (fun(cs:Array Value) p=>cs.setIfInBounds (off+p.2) p.1) ((⟨A⟩:Array Value).setIfInBounds (off+s) v))=_;rw[show(⟨A⟩:Array Value).setIfInBounds (off+s) v=⟨A.set (off+s) v⟩ from by rw[←a1j,Array.toList_setIfInBounds]];simp only[a04]at h;rw[kU l (s+1) off _ (by rw[a0f];omega),←a1j];show be (A.set (off+s) v) (off+(s+1)) l=be A (off+s) (v::l);apply a1l;intro i;rw[br _ _ _ i (by rw[a0f];omega),br _ _ _ i (by simp only[a04];omega)];simp only[a04,a1T];by_cases E:i=off+s
  ·subst E;rw[if_neg M,if_pos V,if_pos M,if_pos M,a1R,a0V]
  rw[if_neg (show ¬off+s=i from fun e=>E e.symm)];by_cases N:off+(s+1)<=i/\i<off+(s+1)+l.length
  ·rw[if_pos N,if_pos M,show i-(off+s)=(i-(off+(s+1)))+1 by omega,a1K]
  rw[if_neg N,if_neg M]
theorem nL(pl:Nat->Option (Nat×Nat)): ∀(ps:List (Nat×Value)) (cs r:List Value),fillL pl cs ps=some r->Instr.fill pl ⟨cs⟩ ps=some ⟨r⟩
 | [],cs,r,h=>by simp only[fillL,a00]at h;subst h;rfl
 |(i,v)::ps,cs,r,h=>by
  unfold fillL at h;split at h
  ·rename_i off n e;cases A:(Nat.beq (eA v.cells.toList) n&&Nat.ble (off+eA v.cells.toList) (eA cs)) with
   |false=>rw[A]at h;cases h
   |true=>
    rw[A]at h
    simp only[cond_true,mN]at h
    rw[a0a]at A
    have N:=a0c A.1
    have E:=a08 A.2
    rw[bG]at N E
    rw[bG]at E
    unfold Instr.fill
    simp only[e]
    rw[if_neg (by
     simp only[a0C,decide_eq_true_eq,not_or];show ¬(v.cells.size≠n)/\¬(off+v.cells.size>cs.length);rw[←a20];omega)]
    have:=nL pl ps _ _ h
    rw[←this]
    congr 1
    rw[←Array.foldl_toList,Array.toList_zipIdx]
    have:=kU v.cells.toList 0 off cs M
    exact this
  cases h
theorem places_ok{P:Program}: ∀{fs:List Field} {pl:List (Nat×Nat)},lc P fs=some pl->aF P (fs.mapM (m:=Sem) fun f=>do Pure.pure (f.offset,←sizeOf f.type))=some pl
 | [],pl,h=>by simp only[lc,a00]at h;subst h;rfl
 |f::fs,pl,h=>by
  unfold lc at h;split at h
  ·rename_i n e;split at h
   ·rename_i l A;simp only[a00]at h;subst h;rw[a2u];simp only[aL,cw,e,a0n,bJ,places_ok A]
   cases h
  cases h
theorem bldL_ok{P:Program}{t:TypeId}{ps:Array (Nat×Value)}{cs:List Value}(h:bldL P t ps.toList=some cs):aF P (Instr.build t ps)=some (.agg ⟨cs⟩):=by
 unfold bldL at h;split at h
 ·rename_i fs U;split at h
  ·rename_i z A;split at h
   ·rename_i pl Z;have hz: ∃v,aF P (zeroValue t)=some v/\v.cells.toList=z:=by
     unfold cy at A;split at A
     ·rename_i i hi;split at A
      ·rename_i v E;refine⟨v,?_,?_⟩
       ·unfold zeroValue;simp only[aL,cZ,hi,a0n,E];rfl
       cases N:v.cells.toList.all noA0 with
       |true=>rw[N]at A;simpa using A
       |false=>rw[N]at A;cases A
      cases A
     cases A
    obtain⟨v,E,T⟩:=hz;unfold Instr.build;simp only[aL,E,a0n,bE,U];rw[Array.mapM_eq_mapM_toList];simp only[←bind_pure_comp,aL,places_ok Z,a0n,bJ];have:=nL (nth pl) ps.toList z cs h;rw[show nth pl=fun i=>pl.toArray[i]? from funext fun i=>by rw[fZ,a2d]]at this;rw[show v.cells=⟨z⟩ from by rw[←T]];simp only[this];rfl
   cases h
  cases h
 cases h
theorem w64_in(n:Int):in64 (IntKind.i64.wrap n):=by rw[IntKind.wrap_i64];constructor<;>omega
theorem iB(n:Int):IntKind.u64.wrap n=n%18446744073709551616:=rfl
abbrev bv(n:Int):BitVec 64:=BitVec.ofInt 64 n
theorem bv_toNat(a:Int):((bv a).toNat:Int)=a%18446744073709551616:=by rw[bv,BitVec.toNat_ofInt];omega
def valA(n:Nat)(c:UInt8):Nat:=10 *n+(c.toNat-48)
def val(l:List UInt8):Nat:=l.foldl valA 0
open Go.RowKit Go.WideShapes Go.ChangeShapes
structure Em(w:World)(μ:Emb)(H:Heap):Prop where
 rel:WRel μ H w
 ro: ∀b o,H.get b=some o->o.rw=false
 wf:WF H
 dom: ∀b,H.next<=b->μ b=none
 log:H.log=[]
section
variable {w:World} {μ:Emb} {H:Heap}
theorem Em.lt(h:Em w μ H){b:Nat}{o:AObj}(A:H.get b=some o):b<H.next:=by
 rcases a0k b H.next with h1|h1
 ·exact h1
 rw[h.wf b h1]at A;cases A
theorem Em.add(h:Em w μ H){c sh:Nat}{cs:List Value}(hc:c<w.heap.size)(N: ∀(i:Nat) v,cs[i]?=some v->∃v',w.cell? ⟨c,sh+i,none⟩=some v'/\VRel μ v v'):
  Em w (μ.set H.next ⟨c,sh,none,0⟩) (H.push (.cells cs none true)):=by
 have T:=Emb.set_ext (μ:=μ) (b:=H.next) ⟨c,sh,none,0⟩ (h.dom _ (a0d _))
 have U: ∀b o,(H.push (.cells cs none true)).get b=some o->(b=H.next/\o= .cells cs none true)\/(b≠H.next/\H.get b=some o):=by
  intro b o A;by_cases e:b=H.next
  ·subst e;rw[Heap.get_push_same]at A;exact .inl ⟨V,(Option.some.inj A).symm⟩
  rw[Heap.get_push_ne _ _ (Ne.symm e)]at A;exact .inr ⟨e,A⟩
 have Z: ∀b o,(H.push (.cells cs none true)).get b=some o->o.rw=false:=by
  intro b o A;rcases U b o A with⟨_,rfl⟩|⟨_,h1⟩
  ·rfl
  exact h.ro b o h1
 refine⟨⟨fun b l o A ho=>?_,fun b1 b2 l1 l2 o1 o2 _ _ _ h3 _ h5 _=>?_⟩,Z,fun b A=>?_,fun b A=>?_,h.log⟩
 ·rcases U b o ho with⟨rfl,rfl⟩|⟨ag,ai⟩
  ·rw[Emb.set_same]at A;obtain rfl:=Option.some.inj A;refine⟨V,V,hc,fun i v hv=>?_⟩;obtain⟨v',h1,h2⟩:=N i v hv;exact⟨v',h1,h2.mono T⟩
  rcases Emb.set_inv A with⟨e,_⟩|⟨_,E⟩
  ·exact absurd e ag
  exact(h.rel.obj b l o E ai).keep T (a0d _) (fun _=>rfl)
 ·rw[Z b1 o1 h3]at h5;cases h5
 ·have E:H.next+1<=b:=A;rw[Heap.get_push_ne _ _ M];exact h.wf b M
 have E:H.next+1<=b:=A
 unfold Emb.set
 rw[if_neg M];exact h.dom b M
theorem Em.hs(h:Em w μ H):HS (.of H []) H.get H [] []:=
 ⟨fun b o A=>⟨A,h.lt A⟩,fun p E=>by simp at E,by simp,a0d _,fun b A=> .inl A,fun p E=>by simp at E⟩
end
structure EmLe(μ:Emb)(H:Heap)(μ':Emb)(H':Heap):Prop where
 emb: ∀b l,μ b=some l->μ' b=some l
 heap:Fz.le H.get H'.get
theorem EmLe.refl(μ:Emb)(H:Heap):EmLe μ H μ H:=⟨fun _ _ h=>h,fun _ _ h=>h⟩
theorem EmLe.add{w:World}{μ:Emb}{H:Heap}(h:Em w μ H)(l:Loc)(o:AObj):EmLe μ H (μ.set H.next l) (H.push o):=
 ⟨Emb.set_ext l (h.dom _ (a0d _)),fun b x A=>by rw[Heap.get_push_ne _ _ (Nat.ne_of_gt (h.lt A))];exact A⟩
section
variable {c_:Type} {enc:TypeId×Value->c_} {P:Program} {w:World} {μ:Emb} {H:Heap}
theorem wf_in64{n:Int}(h:(Lit.int .i64 n).wf=true):in64 n:=by simp[Lit.wf,IntKind.min,IntKind.max,IntKind.signed,IntKind.bits]at h;exact⟨by omega,by omega⟩
theorem RL_ints{F:Fz}: ∀(l:List Int),(∀n∈l,in64 n)->RL F (l.map fun n=>Value.int .i64 n) l
 | [],_=>rfl
 |n::l,h=>⟨[.int .i64 n],l.map fun n=>Value.int .i64 n,V,⟨V,h n (by simp)⟩,RL_ints l fun m A=>h m (by simp[A])⟩
theorem em_ints{base:Nat}{t e:TypeId}{v:Value}{d:DataW c_}{ps:List MemPlace}(h:Em w μ H)(Z:P.underlying t=some (.slice e))(he:P.underlying e=some (.int .i64))(hc:P.cellsOf e=1)(ag:Value.okWide P w .any base t v)
  (hd:DataW.Trod enc P w 0 (fun _=>true) true t v d ps):
  ∃μ' H' a k,∃l:List Int,Em w μ' H'/\EmLe μ H μ' H'/\VRel μ' (.slice a l.length k) v/\SR H'.get (.slice a l.length k) l/\(l.length<=maxLen)/\(∃av,d= .slice (Go.ChangeShapes.lits .i64 l) av\/d= .nil/\l=[]):=by
 obtain⟨a,len,T,rfl⟩:=okWide_slice Z ag
 obtain⟨fuel,hf⟩:=hd
 rcases Go.ChangeShapes.open_ints Z he hc hf with⟨U,N⟩|⟨a',len',a3,A,U,_,ay,a9,aq,N,al,a2⟩
 ·simp[Value.cells]at U;obtain⟨rfl,rfl,rfl⟩:=U;simp only[a05]at N;exact⟨μ,H,none,0,[],h,.refl _ _,.atom _ V,.nil,a0r _,[],.inr ⟨N.1,V⟩⟩
 simp[Value.cells]at U
 obtain⟨rfl,rfl,rfl⟩:=U
 have a0:a'.spot=none/\a'.block<w.heap.size:=by
  have ad:Cell.ok P w .any base t (.slice (some a') len T):=by have:=ag;unfold Value.okWide at this;rw[Z]at this;simp only at this;unfold Cell.okWide at this;rw[Z]at this;exact this
  unfold Cell.ok at ad;rw[Z]at ad;obtain⟨_,_,_,a1,bb,cells,hs,_⟩:=ad;refine⟨a1,?_⟩;unfold World.shape? at hs;split at hs
  ·rename_i ax;exact(a0G.1 ax).1
  cases hs
 obtain⟨c,off,sp⟩:=a'
 obtain⟨rfl,aw⟩:=a0
 simp only[if_true]at aq
 have ap: ∀n∈A.take len,in64 n:=fun n hn=>wf_in64 (a2 n (a1b hn))
 have hl:(A.take len).length=len:=by rw[a0o];omega
 have hA:=h.add (c:=c) (sh:=off) (cs:=(A.take len).map fun n=>Value.int .i64 n) aw (fun i v hv=>by
  rw[a18]at hv;cases E:(A.take len)[i]? with
  |none=>rw[E]at hv;cases hv
  |some n=>
   rw[E]at hv
   obtain rfl:=Option.some.inj hv
   have hi:=(a0u.1 E).1
   have ao:=al i (by rw[hl]at hi;omega)
   have hn:A.getD i 0=n:=by
    rw[a0A]at E;split at E
    ·rw[a03,E];rfl
    cases E
   refine⟨_,?_,.atom _ V⟩
   rw[hn]at ao
   rw[←ao]
   congr 1
   unfold Addr.add
   split
   ·rename_i h0;subst h0;rfl
   rfl)
 refine⟨_,_,some ⟨H.next,0,none⟩,T,A.take len,hA,.add h _ _,?_,?_,by rw[hl];omega,A.drop len|>Go.ChangeShapes.lits .i64,.inl ?_⟩
 ·rw[hl];have:=VRel.sliceC (μ:=μ.set H.next ⟨c,off,none,0⟩) H.next 0 len T ⟨c,off,none,0⟩ (Emb.set_same _ _ _) V;simpa using this
 ·refine .inr ⟨H.next,0,T,_,V,Heap.get_push_same _ _,_,none,true,V,fun N=>(by cases N),(by rw[hl];exact ay),?_,.inl V⟩;have e1:((A.take len).map fun n=>Value.int .i64 n).length=(A.take len).length *Rp.sz Int:=by rw[a1A];show _=_ *1;omega
  rw[a17,←e1,a1e];exact RL_ints _ ap
 simp only[a05]at N
 exact N.1
end
section
variable {c_:Type} {enc:TypeId×Value->c_} {P:Program}
theorem iZ{w w':World}{base:Nat}{A:Nat->Bool}{held:Bool}: ∀{N:List TypeId} {T:List Value} {ds:List (DataW c_)} {ps:List MemPlace},DataW.TrodAll enc P w base A held N T ds ps->(∀p∈ps,w.sameAt w' p)->DataW.TrodAll enc P w' base A held N T ds ps
 | [],[],[],_,h,_=>h
 |_::_,_::_,_::_,_,⟨p,q,⟨n,h1⟩,h2,e⟩,hs=>⟨p,q,⟨n,DataW.trod_carry n _ _ _ h1 fun x E=>hs x (by rw[e];exact a1W _ E)⟩,iZ h2 fun x E=>hs x (by rw[e];exact a1s _ E),e⟩
theorem post_law{f:Func}{s:ChangeSpec}{N ad T aa:Bool}{W W':World}{args:Array Value}{ds gs:List (DataW c_)}{E:List MemPlace}{tb:TypeId}
  (K:Kids P (· <P.types.size)) (an: ∀t e,t<P.types.size->P.underlying t=some (.slice e)->0<P.cellsOf e) (aq: ∀t∈f.params.toList,t<P.types.size)
  (hW:DataW.Whole enc P f.params.toList s.vars N W args.toList ds gs E) (Z:s.vars=[]) (A:f.resultTypes= #[tb]) (ai:P.underlying tb=some .bool)
  (U:s.fn c_ (ds++gs)={results:=[.lit (.bool true)],args:=ds}) (hb:Below W.heap.size W W'):s.post enc P f N ad T aa W args (.bool true) W':=by
 have ay: ∀p∈E,p.block<W.heap.size:=fun p hp=>by simpa using hW.lt p hp
 have aw:=hW
 obtain⟨p,q,hA,hV,rfl,a7,a8⟩:=hW
 have hq:q=[]/\gs=[]:=by
  rw[Z]at hV;cases gs with
  |nil=>exact⟨hV,V⟩
  |cons _ _=>exact absurd hV id
 obtain⟨rfl,rfl⟩:=hq
 refine nE (pa:=p) (pv:=[]) aw (fun b sp hd=>?_) (fun sp a0=>?_) (fun sp _=>?_) V hb ?_
 ·rw[U,A];exact trodAll_cons_mk (shut_bool ai true) V
 ·rw[U];refine DataW.TrodAll.respare K an aq (iZ hA fun x hx=>hb.same (ay x (by simpa using hx))) fun x hx=>a0 x (by simpa using hx)
 ·rw[Z,U];rfl
 rw[A]
 intro j t r h1 h2
 exact ok_one (f:=f) A V (okWide_bool_mk ai true) j t r (by rw[A];exact h1) (by rw[A];exact h2)
end
open Go
section
variable {P:Program} {d:Nat} {t:TypeId}
theorem eqI{k:IntKind}{a b:Int}(A:P.underlying t=some (.int k)):aF P (Op.equalIn (d+1) t (.int k a) (.int k b))=some (a==b):=by simp[Op.equalIn,underlying,A]
theorem eqB{a b:Bool}(A:P.underlying t=some .bool):aF P (Op.equalIn (d+1) t (.bool a) (.bool b))=some (a==b):=by simp[Op.equalIn,underlying,A]
structure EqF(P:Program)(d:Nat)(xs ys:Array Value)(f:Field)(b:Bool):Prop where
 named:f.name≠ "_"
 ok: ∃u v,aF P (part f.type xs f.offset)=some u/\aF P (part f.type ys f.offset)=some v/\aF P (Op.equalIn d f.type u v)=some b
inductive EqFs(P:Program)(d:Nat)(xs ys:Array Value):List Field->List Bool->Prop
 |nil:EqFs P d xs ys [] []
 |cons {f b fs bs}:EqF P d xs ys f b->EqFs P d xs ys fs bs->EqFs P d xs ys (f::fs) (b::bs)
def eqLoop(d:Nat)(xs ys:Array Value)(fs:List Field):Sem (Option Bool×Unit):=
 forIn fs ((none:Option Bool),()) fun f (_:Option Bool×Unit)=>
  if f.name≠ "_" then do
   if !(←Op.equalIn d f.type (←part f.type xs f.offset) (←part f.type ys f.offset)) then pure (ForInStep.done (some false,()))
   else pure (ForInStep.yield (none,()))
  else pure (ForInStep.yield (none,()))
theorem eq_loop{xs ys:Array Value}{fs:List Field}{bs:List Bool}(h:EqFs P d xs ys fs bs):
  aF P (eqLoop d xs ys fs)=some (if bs.all id=true then none else some false,()):=by
 induction h with
 |nil=>simp[eqLoop]
 | @cons f b fs bs hf _ ih=>
  obtain⟨T,u,v,A,E,N⟩:=hf
  unfold eqLoop at ih⊢
  rw[List.forIn_cons,if_pos T]
  simp only[aL,A,E,N,a0n]
  cases b
  ·simp
  simp only[a1E,a0M,if_false,bJ,a0n,ih]
  simp
theorem eq_struct{fs:Array Field}{xs ys:Array Value}{bs:List Bool}(A:P.underlying t=some (.struct fs))(hs:P.stoodInHeld t=false)
  (h:EqFs P d xs ys fs.toList bs):aF P (Op.equalIn (d+1) t (.agg xs) (.agg ys))=some (bs.all id):=by
 simp only[Op.equalIn,underlying,aL,eF,a0n,A,bJ,hs,a0M,if_false]
 rw[←Array.forIn_toList]
 have:=eq_loop h
 unfold eqLoop at this
 rw[this]
 cases bs.all id<;>rfl
end
section
variable {P:Program} {ρ:Operand->Value} {d:Option Tmp} {ty:TypeId} {pos:String} {af:Array Edge} {gd:Option (Nat×Bool)} {H:Heap}
theorem iL{cs:List Value}(h:cs.all noA0=true):jI (.agg ⟨cs⟩)=true:=h
theorem ap_agEq{t yt:TypeId}{x y:Operand}{xs ys:List Value}{fs:Array Field}{bs:List Bool}(A:ρ x= .agg ⟨xs⟩)(T:ρ y= .agg ⟨ys⟩)
  (E:xs.all noA0=true) (N:ys.all noA0=true)
  (hu:P.underlying t=some (.struct fs)) (hs:P.stoodInHeld t=false) (hg:P.eqGuardType P.depth t=false)
  (h:EqFs P 9999 ⟨xs⟩ ⟨ys⟩ fs.toList bs):AP P ρ ⟨d,.binOp .eql t x y yt,ty,pos,af,gd⟩ H (.val (.bool (bs.all id)),H):=by
 refine⟨?_⟩
 show aBin P ρ _ .eql t (ρ x) y H=_
 rw[A]
 show bF P ρ _ H=_
 unfold bF
 have h1:((Op.binOp .eql t x y yt).operands.toList.all fun x=>jI (ρ x))=true:=by simp[Op.operands,A,T,iL E,iL N]
 simp only[h1,cond_true]
 have h2:aF P (execOp ρ ⟨d,.binOp .eql t x y yt,ty,pos,af,gd⟩)=some (.value (Value.bool (bs.all id))):=by
  unfold execOp;simp only[A,T,aL];have U:aF P (eqGuard .eql t x y (.agg ⟨xs⟩) (.agg ⟨ys⟩))=some ():=by simp[eqGuard,hg]
  have Z:aF P (binOp .eql t (.agg ⟨xs⟩) (.agg ⟨ys⟩))=some (Value.bool (bs.all id)):=by show aF P (Op.equal t (.agg ⟨xs⟩) (.agg ⟨ys⟩)>>=fun b=>(Pure.pure (Value.bool b):Sem Value))=_;rw[aL,show Op.equal t (.agg ⟨xs⟩) (.agg ⟨ys⟩)=Op.equalIn (9999+1) t (.agg ⟨xs⟩) (.agg ⟨ys⟩) from V,eq_struct hu hs h];rfl
  simp only[U,Z,a0n];rfl
 rw[h2];rfl
end
open Go.RowKit
def tcell(n:Nat):AObj:= .cells [.slice (some ⟨1,0,none⟩) n n] none true
open Classical in
def KT(A ex n:Nat)(cells:List Value):bM:=fun f args H=>match args with
 | []=>bif (Nat.ble f A&&Nat.beq f ex) then(if H.get 0=some (tcell n)/\H.get 1=some (.cells cells none true) then some (.bool true) else none) else none
 |_=>none
theorem kt_ok{P:Program}{Z ex n fuel:Nat}{cells:List Value}(h:saysTrue (call P 1 noneKnown fuel ex [] (tabHeap n cells))=true)(T:cells.all noA0=true)(an:cells≠ [])(a5:0<n:=by decide):KnownOK P 1 (KT Z ex n cells):=by
 intro f args H v A;unfold KT at A;split at A
 ·cases hq:(Nat.ble f Z&&Nat.beq f ex) with
  |false=>rw[hq]at A;cases A
  |true=>
   rw[hq]at A
   simp only[cond_true]at A
   split at A
   ·rename_i hT;obtain rfl:=Option.some.inj A;obtain rfl:=a0c (Bool.and_eq_true_iff.1 hq).2;refine⟨V,V,fun μ E w hc hG hw=>?_⟩;obtain rfl:E= #[]:=by cases E;simp_all
    obtain⟨l0,ai,hc0,aq⟩:=hG 0 (Nat.zero_lt_succ _);obtain⟨_,_,_,h4⟩:=hw.obj 0 l0 _ ai hT.1;obtain⟨v',U,hr⟩:=h4 0 _ V;obtain⟨N,al,ap⟩:=hr.slice_inv;obtain⟨ao,_,_,h5⟩:=hw.obj 1 N _ al hT.2;have e1:v'= .slice (some ⟨N.c,N.sh+0,none⟩) n n:=by
     rcases ap with⟨_,e⟩|⟨e,o',k',hx,_⟩|⟨hz,_,_⟩
     rotate_right
     ·omega
     ·exact e
     rw[ao]at hx;cases hx
    subst e1;rw[hc0,aq]at U;refine jU none_ok h T (c:=N.c) (o:=N.sh+0) U an fun i v hv=>?_
    obtain⟨a6,h6,h7⟩:=h5 i v hv;rw[h7.eq0 (a0t.1 T v (a0m hv))]at h6;simpa using h6
   cases A
 cases A
theorem Em.tab{w:World}{n c o:Nat}{cells:List Value}(al:cells.all noA0=true)(ao:cells≠ [])
  (h0:w.cell? ⟨0,0,none⟩=some (.slice (some ⟨c,o,none⟩) n n)) (h1: ∀i v,cells[i]?=some v->w.cell? ⟨c,o+i,none⟩=some v):
  ∃μ,Em w μ (tabHeap n cells)/\GRel μ 1:=by
 have U: ∀{a:Addr} {v:Value},w.cell? a=some v->a.block<w.heap.size:=by
  intro a v E;unfold World.cell? at E;split at E
  ·rename_i an;exact(a0G.1 an).1
  cases E
 let μ:Emb:=fun b=>if b=1 then some ⟨c,o,none,0⟩ else if b=0 then some ⟨0,0,none,0⟩ else none
 have Z: ∀b x,(tabHeap n cells).get b=some x->x.rw=false:=by
  intro b x A;rw[cC]at A;split at A
  ·injection A with A;subst A;rfl
  split at A
  ·injection A with A;subst A;rfl
  cases A
 refine⟨μ,⟨⟨fun b l x T A=>?_,fun b1 b2 l1 l2 o1 o2 _ _ _ h3 _ h5 _=>?_⟩,Z,fun b T=>?_,fun b T=>?_,V⟩,fun g hg=>?_⟩
 ·rw[cC]at A;by_cases e1:b=1
  ·subst e1;rw[if_pos rfl]at A;injection A with A;subst A;have N:l=⟨c,o,none,0⟩:=(Option.some.inj T).symm;subst N;refine⟨V,V,?_,fun i v E=>⟨v,h1 i v E,.atom v (a0t.1 al v (a0m E))⟩⟩;cases cells with
   |nil=>exact absurd V ao
   |cons v r=>exact U (h1 0 v V)
  rw[if_neg e1]at A;by_cases e0:b=0
  ·subst e0;rw[if_pos rfl]at A;injection A with A;subst A;have N:l=⟨0,0,none,0⟩:=(Option.some.inj T).symm;subst N;refine⟨V,V,U h0,fun i v E=>?_⟩;cases i with
   |zero=>
    simp only[a0V,a00]at E;subst E
    exact⟨_,h0,.sliceC 1 0 n n ⟨c,o,none,0⟩ V V⟩
   |succ i=>simp at E
  rw[if_neg e0]at A;cases A
 ·rw[Z b1 o1 h3]at h5;cases h5
 ·have N:2<=b:=T;rw[cC,if_neg M,if_neg M]
 ·have N:2<=b:=T;show(if b=1 then _ else if b=0 then _ else none)=none;rw[if_neg M,if_neg M]
 have:g=0:=M
 subst this
 exact⟨⟨0,0,none,0⟩,V,V,V⟩
theorem walk_of_EmG{P:Program}{G:Nat}{K:bM}{w:World}{μ:Emb}{H:Heap}(Z:KnownOK P G K)(h:Em w μ H)(U:GRel μ G){f:FuncId}{args:List Value}{A:Array Value}(ha:LRel μ args A.toList)(hc:C P G K f args H fun v _=>v= .bool true):
  Calls P f A w fun e w'=>e= .returned (.bool true)/\Below w.heap.size w w':=by
 obtain⟨n,v,H',T,rfl⟩:=hc.out
 obtain⟨_,E⟩:=call_ok Z n f args H (.bool true) H' T h.wf
 refine(E μ w A ha U h.rel (fun b hb _=>h.dom b hb)).mono ?_
 rintro e w' ⟨μ',v',rfl,hr,hp⟩
 rw[hr.eq2 rfl]
 exact⟨V,hp.os,hp.tape,hp.out,hp.grow,fun k hk=>hp.keep k hk fun b l x _ hx N=>by rw[h.ro b x hx]at N;cases N⟩
structure TB(n:Nat)(cells:List Value)(F:Fz):Prop where
 at0:F 0=some (tcell n)
 at1:F 1=some (.cells cells none true)
section
variable {n:Nat} {cells:List Value} {F F':Fz}
theorem TB.mono(h:TB n cells F)(A:Fz.le F F'):TB n cells F':=⟨A _ _ h.at0,A _ _ h.at1⟩
theorem TB.start:TB n cells (tabHeap n cells).get:=⟨by rw[cC,if_neg M,if_pos rfl];rfl,by rw[cC,if_pos rfl]⟩
theorem TB.known{A ex:Nat}{H:Heap}(h:TB n cells H.get)(E:Nat.ble ex A=true):KT A ex n cells ex [] H=some (.bool true):=by show(bif (Nat.ble ex A&&Nat.beq ex ex) then _ else _)=_;rw[E,a11,a13,cond_true,if_pos ⟨h.at0,h.at1⟩]
theorem TB.heap{B:Base}{H:Heap}{L R:List Fp}(h:TB n cells F)(hs:HS B F H L R):TB n cells H.get:=⟨(hs.fz _ _ h.at0).1,(hs.fz _ _ h.at1).1⟩
theorem TB.hc{get:Nat->Option AObj}(h:TB n cells get):HC get 0 0 [.slice (some ⟨1,0,none⟩) n n]:=⟨_,none,true,h.at0,V⟩
theorem TB.sr{α:Type} [Rp α]{l:List α}(h:TB n cells F)(N:l.length=n)(A:RL F cells l):SR F (.slice (some ⟨1,0,none⟩) l.length n) l:=by refine .inr ⟨1,0,n,_,V,h.at1,_,none,true,V,fun T=>(by cases T),Nat.le_of_eq N,?_,.inl V⟩;have E:cells.length=l.length *Rp.sz α:=A.length;rw[a17,←E,a1e];exact A
end
end Go.R
end
noncomputable section
set_option linter.unusedVariables false
set_option linter.unusedSimpArgs false
namespace Go.R
inductive Hint where
 |p
 |w
 |e (n:Int)
 |o (v:Value)
 |r (q:Nat)
abbrev Ch:=List (Nat×Bool)
def bq:Bool->Bool->Bool
 |true,b=>b
 |false,b=> !b
theorem bq_eq{a b:Bool}(h:bq a b=true):a=b:=by cases a<;>cases b<;>first|rfl|cases h
def gl:List (Nat×Bool)->Nat->Option Bool
 | [],_=>none
 |(s,g)::G,t=>bif Nat.beq s t then some g else gl G t
def act(G:List (Nat×Bool)):Ch->Bool
 | []=>true
 |(s,w)::c=>(match gl G s with|some g=>bq g w|none=>false)&&act G c
def memC(s:Nat)(w:Bool):Ch->Bool
 | []=>false
 |(s',w')::c=>(Nat.beq s' s&&bq w' w)||memC s w c
def subC:Ch->Ch->Bool
 | [],_=>true
 |(s,w)::a,c=>memC s w c&&subC a c
def lk:List (Nat×Ch×Value)->Nat->Option (Ch×Value)
 | [],_=>none
 |(s,x)::m,t=>bif Nat.beq s t then some x else lk m t
structure SS where
 m:List (Nat×Ch×Value)
 G:List (Nat×Bool)
def SS.rd(S:SS)(f:Fn):Operand->Value
 | .tmp t=>match lk S.m t with
  |some x=>x.2
  |none=>f t
 | .const v=>v
 | .global g=> .pointer (some ⟨g,0,none⟩)
 | .func i=> .func (.func i) #[] #[]
def SS.can(S:SS)(c:Ch):Operand->Bool
 | .tmp t=>match lk S.m t with
  |some x=>subC x.1 c
  |none=>true
 |_=>true
def impl(G:List (Nat×Bool)):Ch->Prop->Prop
 | [],p=>p
 |(s,w)::c,p=>match gl G s with
  |some g=>g=w->impl G c p
  |none=>True
def kG(G:List (Nat×Bool))(s:Nat)(g:Bool):List (Nat×Bool):=match gl G s with
 |some _=>G
 |none=>(s,g)::G
def gp:Option Prop->Prop
 |none=>True
 |some p=>p
def andO(q:Option Prop)(p:Prop):Prop:=match q with
 |none=>p
 |some q=>q/\p
def rng(k:IntKind)(n:Int):Prop:=match k with
 | .i64=> -9223372036854775808<=n/\n<9223372036854775808
 | .u64=>0<=n/\n<18446744073709551616
 | .u8=>0<=n/\n<256
 |k=>k.wrap n=n
theorem rng_wrap{k:IntKind}{n:Int}(h:rng k n):k.wrap n=n:=by
 cases k with
 |i64=>exact w_i64 h
 |u64=>exact w_u64 h
 |u8=>exact w_u8 h
 |_=>exact h
def kq:IntKind->IntKind->Bool
 | .i64,.i64=>true
 | .u64,.u64=>true
 | .u8,.u8=>true
 | .i32,.i32=>true
 | .u32,.u32=>true
 |_,_=>false
theorem kq_eq{k A:IntKind}(h:kq k A=true):A=k:=by cases k<;>cases A<;>first|rfl|cases h
abbrev VP:=Option (Value×Option Prop)
def ari(h:Hint)(k:IntKind)(n:Int):VP:=match h with
 | .w=>some (.int k (k.wrap n),none)
 | .e m=>some (.int k m,some (n=m/\rng k m))
 |_=>some (.int k n,some (rng k n))
def bi(h:Hint)(k:IntKind)(n:Int):VP:=match h with
 | .e m=>some (.int k m,some (n=m))
 |_=>some (.int k n,none)
def withP(p:Prop):VP->VP
 |some (v,none)=>some (v,some p)
 |some (v,some q)=>some (v,some (p/\q))
 |none=>none
def pint(h:Hint)(op:BinOp)(k:IntKind)(x y:Int):VP:=match op with
 | .add=>ari h k (x+y)
 | .sub=>ari h k (x-y)
 | .mul=>ari h k (x *y)
 | .quo=>withP (y≠0) (ari h k (x.tdiv y))
 | .rem=>withP (y≠0) (bi h k (x.tmod y))
 | .and=>bi h k (aJ .and k x y)
 | .or=>bi h k (aJ .or k x y)
 | .xor=>bi h k (aJ .xor k x y)
 | .andNot=>bi h k (aJ .andNot k x y)
 | .eql=>some (.bool (x==y),none)
 | .neq=>some (.bool (x !=y),none)
 | .lss=>some (.bool (decide (x<y)),none)
 | .leq=>some (.bool (decide (x<=y)),none)
 | .gtr=>some (.bool (decide (y<x)),none)
 | .geq=>some (.bool (decide (y<=x)),none)
 |_=>none
def AGB(P:Program)(op:BinOp)(t:TypeId)(a b v:Value):Prop:= ∀(ρ:Operand->Value) (x y:Operand) (yt:TypeId) (d:Option Tmp) (ty:TypeId) (pos:String) (af:Array Edge) (gd:Option (Nat×Bool)) (H:Heap),ρ x=a->ρ y=b->AP P ρ ⟨d,.binOp op t x y yt,ty,pos,af,gd⟩ H (.val v,H)
def isBT(P:Program)(t:TypeId):Bool:=match P.underlying t with
 |some .bool=> !P.eqGuardType P.depth t
 |_=>false
def pbin(P:Program)(h:Hint)(op:BinOp)(t:TypeId)(a b:Value):VP:=match a,b with
 | .int k x,.int k' y=>match op with
  | .shl=>withP (0<=y) (bi h k (k.wrap (x *2^(Nat.min y.toNat k.bits))))
  | .shr=>withP (0<=y) (bi h k (x.fdiv (2^(Nat.min y.toNat k.bits))))
  |op=>bif kq k k' then pint h op k x y else none
 | .string ⟨⟨x⟩⟩,.string ⟨⟨y⟩⟩=>match op with
  | .eql=>some (.bool (x==y),none)
  | .neq=>some (.bool (x !=y),none)
  | .lss=>some (.bool (Op.bytesLess x y),none)
  | .leq=>some (.bool (Op.bytesLess x y||x==y),none)
  | .add=>some (.string ⟨⟨x++y⟩⟩,some (x.length+y.length<=1099511627776))
  |_=>none
 | .bool x,.bool y=>bif isBT P t then match op with
  | .eql=>some (.bool (x==y),none)
  | .neq=>some (.bool (x !=y),none)
  |_=>none else none
 | .agg x,.agg y=>match h with
  | .o v=>some (v,some (AGB P op t (.agg x) (.agg y) v))
  |_=>none
 | .pointer a,.pointer b=>match nilEq P t (.pointer a) (.pointer b),op with
  |some r,.eql=>some (.bool r,none)
  |some r,.neq=>some (.bool (!r),none)
  |_,_=>none
 | .slice a n k,.slice b n' k'=>match nilEq P t (.slice a n k) (.slice b n' k'),op with
  |some r,.eql=>some (.bool r,none)
  |some r,.neq=>some (.bool (!r),none)
  |_,_=>none
 |_,_=>none
def pun(h:Hint)(op:UnOp)(v:Value):VP:=match op,v with
 | .not,.bool b=>some (.bool (!b),none)
 | .neg,.int k n=>ari h k (0-n)
 | .xor,.int k n=>bi h k (bits .xor k (if k.signed then-1 else k.max) n)
 |_,_=>none
structure FW where
 ld:TypeId->Value->Value->Prop
 cl:FuncId->List Value->Value->Prop
 cv:TypeId->TypeId->Option Addr->Nat->Value->Prop
 sl:TypeId->Value->Option Value->Option Value->Value->Prop
def pconv(P:Program)(W:FW)(h:Hint)(s t:TypeId)(v:Value):VP:=match v with
 | .int _ n=>match P.underlying s,P.underlying t with
  |some _,some (.int k')=>ari h k' n
  |_,_=>none
 | .slice a n k=>match h with
  | .o v=>some (v,some (W.cv s t a n v))
  |_=>none
 |_=>none
def ppick(g:Bool)(a b:Value):Option Value:=match a,b with
 | .bool x,.bool y=>some (.bool (bif g then x else y))
 | .int k x,.int k' y=>bif kq k k' then some (.int k (bif g then x else y)) else none
 | .string x,.string y=>some (.string ⟨⟨bif g then x.data.toList else y.data.toList⟩⟩)
 |_,_=>none
def LDv(P:Program)(H:Heap)(t:TypeId)(a w:Value):Prop:=d9 P t a H=some (.val w,H)
def IX(v:Value)(j:Int):Prop:= ∃b o n k,v= .slice (some ⟨b,o,none⟩) n k/\0<=j/\j<n/\n<=k
def pidx(P:Program)(t:TypeId)(a i:Value):VP:=match a,i with
 | .string ⟨⟨s⟩⟩,.int _ j=>match P.underlying t with
  |some .string=>some (.int .u8 ((s.getD j.toNat 0).toNat:Int),some (0<=j/\j<s.length))
  |_=>none
 | .agg x,w=>match aF P (Instr.index t (.agg x) w) with
  |some r=>some (r,none)
  |none=>none
 |_,_=>none
def pidxA(P:Program)(t:TypeId)(a i:Value):VP:=match a,i with
 | .slice x n k,.int _ j=>match P.underlying t with
  |some (.slice e)=>match cW P e with
   |some z=>some (.pointer (some ⟨sB (.slice x n k),sO (.slice x n k)+j.toNat *z,none⟩),some (IX (.slice x n k) j))
   |none=>none
  |_=>none
 | .pointer (some ⟨b,o,none⟩),.int _ j=>match P.underlying t with
  |some (.array n e)=>match cW P e with
   |some z=>some (.pointer (some ⟨b,o+j.toNat *z,none⟩),some (0<=j/\j<n))
   |none=>none
  |_=>none
 |_,_=>none
def pslice(P:Program)(W:FW)(h:Hint)(t:TypeId)(x:Value)(lo hi:Option Value):VP:=match x with
 | .string ⟨⟨s⟩⟩=>match P.underlying t with
  |some .string=>match lo,hi with
   |none,none=>some (.string ⟨⟨s⟩⟩,none)
   |some (.int _ i),none=>some (.string ⟨⟨s.drop i.toNat⟩⟩,some (0<=i/\i<=s.length))
   |none,some (.int _ j)=>some (.string ⟨⟨s.take j.toNat⟩⟩,some (0<=j/\j<=s.length))
   |some (.int _ i),some (.int _ j)=>some (.string ⟨⟨(s.drop i.toNat).take (j.toNat-i.toNat)⟩⟩,some (0<=i/\i<=j/\j<=s.length))
   |_,_=>none
  |_=>none
 |x=>match h with
  | .o v=>some (v,some (W.sl t x lo hi v))
  |_=>none
def plen(P:Program)(t:TypeId)(x:Value):VP:=match x with
 | .string ⟨⟨s⟩⟩=>match P.underlying t with
  |some .string=>some (.int .i64 (s.length:Int),none)
  |_=>none
 | .slice _ n _=>match P.underlying t with
  |some (.slice _)=>some (.int .i64 (n:Int),none)
  |_=>none
 |_=>none
def pmm(w:Bool)(a b:Value):VP:=match a,b with
 | .int k x,.int _ y=>some (.int k (bif w then(if y<x then y else x) else(if y>x then y else x)),none)
 |_,_=>none
def pcall(P:Program)(W:FW)(h:Hint)(ρ:Operand->Value)(c:Call):VP:=match c.callee with
 | .builtin .len=>match c.argTypes.toList,c.args.toList with
  | [t],[x]=>plen P t (ρ x)
  |_,_=>none
 | .builtin .min=>match c.args.toList with
  | [x,y]=>pmm true (ρ x) (ρ y)
  |_=>none
 | .builtin .max=>match c.args.toList with
  | [x,y]=>pmm false (ρ x) (ρ y)
  |_=>none
 | .value f=>match fV P (ρ f) (dJ ρ c.args.toList),h with
  |some (.enter g args),.o v=>some (v,some (W.cl g args v))
  |_,_=>none
 |_=>none
def ppk(a b:Operand)(g:Bool)(x y:Value):Option Value:=match b,x with
 | .const (.bool false),.bool x=>some (.bool (g&&x))
 |_,_=>match a,y with
  | .const (.bool true),.bool y=>some (.bool (g||y))
  |_,_=>ppick g x y
def optV{α:Type}(r:Option α):Option (α×Option Prop):=match r with
 |some v=>some (v,none)
 |none=>none
def W0(P:Program)(G0:Nat)(K:bM)(H:Heap):FW:=⟨LDv P H,fun g args v=>C P G0 K g args H fun v' H'=>v'=v/\H'=H,fun s t a n v=>eK P s t a n H=some v,fun t x lo hi v=>bA P t x lo hi none H=some v⟩
def WJ(P:Program)(G0:Nat)(K:bM)(d_:Heap->Prop):FW:=⟨fun t a v=> ∀H,d_ H->LDv P H t a v,fun g args v=> ∀H,d_ H->C P G0 K g args H fun v' H'=>v'=v/\d_ H',fun s t a n v=> ∀H,d_ H->eK P s t a n H=some v,fun t x lo hi v=> ∀H,d_ H->bA P t x lo hi none H=some v⟩
structure FW.OK(P:Program)(G0:Nat)(K:bM)(d_:Heap->Prop)(W:FW):Prop where
 ld: ∀{t a v},W.ld t a v->∀H,d_ H->LDv P H t a v
 cl: ∀{g args v},W.cl g args v->∀H,d_ H->C P G0 K g args H fun v' H'=>v'=v/\d_ H'
 cv: ∀{s t a n v},W.cv s t a n v->∀H,d_ H->eK P s t a n H=some v
 sl: ∀{t x lo hi v},W.sl t x lo hi v->∀H,d_ H->bA P t x lo hi none H=some v
theorem ok0{P:Program}{G0:Nat}{K:bM}{H:Heap}:(W0 P G0 K H).OK P G0 K (· =H):=⟨fun h _ e=>e▸h,fun h _ e=>e▸h,fun h _ e=>e▸h,fun h _ e=>e▸h⟩
theorem okJ{P:Program}{G0:Nat}{K:bM}{d_:Heap->Prop}:(WJ P G0 K d_).OK P G0 K d_:=⟨fun h=>h,fun h=>h,fun h=>h,fun h=>h⟩
def pop(P:Program)(W:FW)(h:Hint)(ρ:Operand->Value)(op:Op):VP:=match op with
 | .move x=>some (ρ x,none)
 | .assign x=>some (ρ x,none)
 | .binOp op t x y _=>pbin P h op t (ρ x) (ρ y)
 | .unOp op _ x=>pun h op (ρ x)
 | .convert s t x=>pconv P W h s t (ρ x)
 | .load t a=>match h with
  | .o v=>some (v,some (W.ld t (ρ a) v))
  |_=>none
 | .index t x i=>pidx P t (ρ x) (ρ i)
 | .indexAddr t x i=>pidxA P t (ρ x) (ρ i)
 | .field t x f=>optV (ir P t (ρ x) f)
 | .fieldAddr s x f=>optV (iY P s (ρ x) f)
 | .extract x i=>optV (gI (ρ x) i)
 | .build t parts=>match cy P t with
  |some _=>match bldL P t (dJ (fun p=>(p.1,ρ p.2)) parts.toList) with
   |some cs=>some (.agg ⟨cs⟩,none)
   |none=>optV (aF P (Instr.build t (parts.map fun p=>(p.1,ρ p.2))))
  |none=>none
 | .slice t x lo hi none=>pslice P W h t (ρ x) (lo.map ρ) (hi.map ρ)
 | .call c=>pcall P W h ρ c
 | .nilCheck x=>match ρ x with
  | .pointer (some a)=>some (.pointer (some a),none)
  | .func (.func f) a c=>some (.func (.func f) a c,none)
  |_=>none
 | .makeFunc fn first cap=>some (.func fn (first.map ρ) (cap.map ρ),none)
 |_=>none
def nT(ops:Array Oper)(f:Fn)(S:SS):Option (Nat×Bool)->Option (Ch×List (Nat×Bool))
 |none=>some ([],S.G)
 |some (j,w)=>match (ops[j]?).bind (·.dst) with
  |some d=>match lk S.m d with
   |some (c,.bool g)=>some ((d,w)::c,kG S.G d g)
   |some _=>none
   |none=>match f d with
    | .bool g=>some ([(d,w)],kG S.G d g)
    |_=>none
  |none=>none
def putS(q:Option Prop)(c:Ch)(G:List (Nat×Bool))(m:List (Nat×Ch×Value))(d:Nat)(v:Value):Option (SS×Option Prop):=
 match gl G d with
 |some _=>none
 |none=>fcL G fun G=>fcL c fun c=>some (⟨(d,c,v)::m,G⟩,match q with
  |none=>none
  |some p=>some (impl G c p))
def fcC{β:Type}(v:Value)(k:Value->β):β:=match v with
 | .int a n=>k (.int a n)
 | .bool b=>k (.bool b)
 | .string ⟨⟨l⟩⟩=>k (.string ⟨⟨l⟩⟩)
 | .pointer a=>k (.pointer a)
 | .slice a n m=>k (.slice a n m)
 |v=>k v
theorem fcC_eq{β:Type}(v:Value)(k:Value->β):fcC v k=k v:=by cases v<;>rfl
def fcM{β:Type}:List Value->(List Value->β)->β
 | [],k=>k []
 |a::l,k=>fcC a fun a=>fcM l fun r=>k (a::r)
theorem fcM_eq{β:Type}: ∀(l:List Value) (k:List Value->β),fcM l k=k l
 | [],_=>rfl
 |a::l,k=>by unfold fcM;rw[fcC_eq,fcM_eq l]
def fcV{β:Type}(v:Value)(k:Value->β):β:=match v with
 | .agg ⟨l⟩=>fcM l fun l=>k (.agg ⟨l⟩)
 |v=>fcC v k
theorem fcV_eq{β:Type}(v:Value)(k:Value->β):fcV v k=k v:=by
 unfold fcV;split
 ·exact fcM_eq _ _
 exact fcC_eq _ _
def fcH{β:Type}(h:Hint)(v:Value)(k:Value->β):β:=match h with
 | .o _=>k v
 |_=>fcV v k
theorem fcH_eq{β:Type}(h:Hint)(v:Value)(k:Value->β):fcH h v k=k v:=by cases h<;>first|rfl|exact fcV_eq _ _
def stepS(P:Program)(G0:Nat)(W:FW)(sz:Nat)(ops:Array Oper)(f:Fn)(S:SS)(h:Hint)(o:Oper):Option (SS×Option Prop):=
 match o.dst with
 |none=>none
 |some d=>
  bif Nat.ble (d+1) sz&&o.op.operands.toList.all (bo G0) then
   match nT ops f S o.guard with
   |none=>none
   |some (c,G1)=>
    match o.op with
    | .pick (.tmp s) a b=>
     match lk S.m s with
     |some (cc,.bool g)=>
      bif subC cc c&&(S.can ((s,true)::c) a&&S.can ((s,false)::c) b) then
       match ppk a b g (S.rd f a) (S.rd f b) with
       |some v=>fcV v fun v=>putS none c (kG G1 s g) S.m d v
       |none=>none
      else none
     |_=>none
    |op=>
     bif op.operands.toList.all (S.can c) then
      match pop P W h (S.rd f) op with
      |some (v,q)=>fcH h v fun v=>putS q c G1 S.m d v
      |none=>none
     else none
  else none
def hintAt:List (Nat×Hint)->Nat->Hint
 | [],_=> .p
 |(i,h)::l,j=>bif Nat.beq i j then h else hintAt l j
def rgL(P:Program)(G0:Nat)(W:FW)(sz:Nat)(ops:Array Oper)(f:Fn)(hs:List (Nat×Hint)):Nat->List Oper->SS->Option (SS×Prop)
 |_,[],S=>some (S,True)
 |i,o::os,S=>match stepS P G0 W sz ops f S (hintAt hs i) o with
  |none=>none
  |some (S1,q)=>match rgL P G0 W sz ops f hs (i+1) os S1 with
   |none=>none
   |some (S2,p)=>some (S2,andO q p)
def fins(m:List (Nat×Ch×Value)):List Nat->Option (List (Nat×Value))
 | []=>some []
 |d::ds=>match lk m d,fins m ds with
  |some ([],v),some l=>some ((d,v)::l)
  |_,_=>none
def ge(P:Program)(G0:Nat)(W:FW)(sz:Nat)(ops:Array Oper)(f:Fn)(i:Nat)(os:List Oper)(hs:List (Nat×Hint))(lo hi:Nat)(ex:List Nat)(A:List Nat):Option (List (Nat×Value)×Prop):=
 match rgL P G0 W sz ops f hs i os ⟨[],[]⟩ with
 |none=>none
 |some (S,p)=>bif S.m.all (fun e=>inR lo hi ex e.1) then
   match fins S.m A with
   |some l=>some (l,p)
   |none=>none
  else none
section
variable {P:Program} {G0:Nat} {K:bM} {d_:Heap->Prop} {W:FW} {H:Heap} {ρ:Operand->Value} {d:Option Tmp} {ty:TypeId} {pos:String} {af:Array Edge} {gd:Option (Nat×Bool)} {v:Value} {q:Option Prop} {hi:Hint}
theorem mZ{k:IntKind}{n:Int}(h:ari hi k n=some (v,q))(A:gp q):v= .int k (k.wrap n):=by
 unfold ari at h;split at h
 ·simp only[a00,a05]at h;exact h.1.symm
 ·simp only[a00,a05]at h;obtain⟨rfl,rfl⟩:=h;obtain⟨rfl,E⟩:=A;rw[rng_wrap E]
 simp only[a00,a05]at h;obtain⟨rfl,rfl⟩:=h;rw[rng_wrap A]
theorem bi_ok{k:IntKind}{n:Int}(h:bi hi k n=some (v,q))(E:gp q):v= .int k n:=by
 unfold bi at h;split at h
 ·simp only[a00,a05]at h;obtain⟨rfl,rfl⟩:=h;have A:n=_:=E;rw[A]
 simp only[a00,a05]at h;exact h.1.symm
theorem j6{p:Prop}{r:VP}(h:withP p r=some (v,q))(A:gp q):p/\∃E,r=some (v,E)/\gp E:=by
 match r,h with
 |some (v',none),h=>
  simp only[withP,a00,a05]at h
  obtain⟨rfl,rfl⟩:=h
  exact⟨A,none,V,trivial⟩
 |some (v',some p'),h=>
  simp only[withP,a00,a05]at h
  obtain⟨rfl,rfl⟩:=h
  exact⟨A.1,some p',V,A.2⟩
 |none,h=>simp[withP]at h
theorem beq0{b:Int}(A:b≠0):(b==0)=false:=by simpa using A
variable {x y:Operand} {t yt:TypeId}
theorem pint_ok{op:BinOp}{k:IntKind}{a b:Int}(hx:ρ x= .int k a)(hy:ρ y= .int k b)(h:pint hi op k a b=some (v,q))(E:gp q):
  AP P ρ ⟨d,.binOp op t x y yt,ty,pos,af,gd⟩ H (.val v,H):=by
 have A: ∀{v':Value},lC op=false->mJ op k a b=some v'->AP P ρ ⟨d,.binOp op t x y yt,ty,pos,af,gd⟩ H (.val v',H):=by intro v' hs Z;exact ap_int hx hy (by rw[hs,hZ];exact Z)
 cases op with
 |add=>rw[mZ (n:=a+b) h E];exact A V V
 |sub=>rw[mZ (n:=a-b) h E];exact A V V
 |mul=>rw[mZ (n:=a *b) h E];exact A V V
 |quo=>
  obtain⟨N,q',T,U⟩:=j6 (p:=b≠0) (r:=ari hi k (a.tdiv b)) h E
  rw[mZ T U]
  exact A V (by show(bif b==0 then none else some (Value.int k (k.wrap (a.tdiv b))))=_;rw[beq0 N];rfl)
 |rem=>
  obtain⟨N,q',T,U⟩:=j6 (p:=b≠0) (r:=bi hi k (a.tmod b)) h E
  rw[bi_ok T U]
  exact A V (by show(bif b==0 then none else some (Value.int k (a.tmod b)))=_;rw[beq0 N];rfl)
 |and=>rw[bi_ok (n:=aJ .and k a b) h E];exact A V V
 |or=>rw[bi_ok (n:=aJ .or k a b) h E];exact A V V
 |xor=>rw[bi_ok (n:=aJ .xor k a b) h E];exact A V V
 |andNot=>rw[bi_ok (n:=aJ .andNot k a b) h E];exact A V V
 |shl=>cases h
 |shr=>cases h
 |_=>
  simp only[pint,a00,a05]at h
  obtain⟨rfl,_⟩:=h
  exact A V V
theorem bool_run{a b:Bool}(h:isBT P t=true):aF P (d5 .eql t x y a b)=some (.value (.bool (a==b)))/\aF P (d5 .neq t x y a b)=some (.value (.bool (a !=b))):=by
 unfold isBT at h;split at h
 ·rename_i T;have U:P.eqGuardType P.depth t=false:=by simpa using h
  have E:aF P (eqGuard .eql t x y (.bool a) (.bool b))=some ():=by simp[eqGuard]
  have N:aF P (eqGuard .neq t x y (.bool a) (.bool b))=some ():=by simp[eqGuard]
  have A:aF P (Op.equal t (.bool a) (.bool b))=some (a==b):=eqB (d:=9999) T;constructor
  ·unfold d5;simp only[aL,E,a0n];have:aF P (binOp .eql t (.bool a) (.bool b))=some (Value.bool (a==b)):=by show aF P (Op.equal t (.bool a) (.bool b)>>=fun b=>(Pure.pure (Value.bool b):Sem Value))=_;rw[aL,A];rfl
   rw[this];rfl
  unfold d5;simp only[aL,N,a0n];have:aF P (binOp .neq t (.bool a) (.bool b))=some (Value.bool (a !=b)):=by show aF P (Op.equal t (.bool a) (.bool b)>>=fun b=>(Pure.pure (Value.bool (!b)):Sem Value))=_;rw[aL,A];rfl
  rw[this];rfl
 cases h
theorem pbin_ok{op:BinOp}{a b:Value}(A:ρ x=a)(E:ρ y=b)(h:pbin P hi op t a b=some (v,q))(hq:gp q):
  AP P ρ ⟨d,.binOp op t x y yt,ty,pos,af,gd⟩ H (.val v,H):=by
 have T: ∀(a b:Value) (r:Bool),ρ x=a->ρ y=b->(∃p,a= .pointer p)\/(∃p n k,a= .slice p n k)->nilEq P t a b=some r->(op= .eql->v= .bool r)->(op= .neq->v= .bool (!r))->(op= .eql\/op= .neq)->
   AP P ρ ⟨d,.binOp op t x y yt,ty,pos,af,gd⟩ H (.val v,H):=by
  intro a b r A E ha N Z h2 h3
  refine⟨?_⟩
  show aBin P ρ _ op t (ρ x) y H=_
  have:aBin P ρ ⟨d,.binOp op t x y yt,ty,pos,af,gd⟩ op t (ρ x) y H=nilBin op (nilEq P t a b) H:=by rw[A];rcases ha with⟨p,rfl⟩|⟨p,n,k,rfl⟩<;>(rw[←E];rfl)
  rw[this,N]
  rcases h3 with rfl|rfl
  ·rw[Z rfl];rfl
  rw[h2 rfl];rfl
 unfold pbin at h
 split at h
 ·--integers
  split at h
  ·obtain⟨Z,q',h2,h3⟩:=j6 h hq;rw[bi_ok h2 h3];exact ap_shl A E Z
  ·obtain⟨Z,q',h2,h3⟩:=j6 h hq;rw[bi_ok h2 h3];exact ap_shr A E Z
  rename_i k a k' b _ _ _;cases hk:kq k k' with
  |false=>rw[hk]at h;cases h
  |true=>
   rw[hk]at h
   have:=kq_eq hk;subst this
   exact pint_ok A E h hq
 ·split at h<;>simp only[a00,a05,reduceCtorEq]at h
  ·obtain⟨rfl,_⟩:=h;exact ap_eqS A E
  ·obtain⟨rfl,_⟩:=h;exact ap_neS A E
  ·obtain⟨rfl,_⟩:=h;exact ap_ltS A E
  ·obtain⟨rfl,_⟩:=h;exact ap_leS A E
  obtain⟨rfl,rfl⟩:=h;exact ap_addS A E hq
 ·cases U:isBT P t with
  |false=>rw[U]at h;cases h
  |true=>
   rw[U]at h
   simp only[cond_true]at h
   split at h<;>simp only[a00,a05,reduceCtorEq]at h
   ·obtain⟨rfl,_⟩:=h;exact ap_boolEq A E (fun a b=>(bool_run U).1)
   obtain⟨rfl,_⟩:=h;exact ap_boolNe A E (fun a b=>(bool_run U).2)
 ·split at h<;>simp only[a00,a05,reduceCtorEq]at h;obtain⟨rfl,rfl⟩:=h;exact hq ρ x y yt d ty pos af gd H A E
 ·split at h<;>simp only[a00,a05,reduceCtorEq]at h
  ·rename_i N;obtain⟨rfl,_⟩:=h;exact T _ _ _ A E (.inl ⟨_,V⟩) N (fun _=>rfl) (fun e=>by cases e) (.inl V)
  rename_i N;obtain⟨rfl,_⟩:=h;exact T _ _ _ A E (.inl ⟨_,V⟩) N (fun e=>by cases e) (fun _=>rfl) (.inr V)
 ·split at h<;>simp only[a00,a05,reduceCtorEq]at h
  ·rename_i N;obtain⟨rfl,_⟩:=h;exact T _ _ _ A E (.inr ⟨_,_,_,V⟩) N (fun _=>rfl) (fun e=>by cases e) (.inl V)
  rename_i N;obtain⟨rfl,_⟩:=h;exact T _ _ _ A E (.inr ⟨_,_,_,V⟩) N (fun e=>by cases e) (fun _=>rfl) (.inr V)
 cases h
theorem pun_ok{op:UnOp}{a:Value}(A:ρ x=a)(h:pun hi op a=some (v,q))(E:gp q):AP P ρ ⟨d,.unOp op t x,ty,pos,af,gd⟩ H (.val v,H):=by
 unfold pun at h;split at h
 ·simp only[a00,a05]at h;obtain⟨rfl,_⟩:=h;exact ne A
 ·rw[mZ h E];exact ap_neg A
 ·rw[bi_ok h E];exact ap_cpl A
 cases h
theorem pconv_ok(hW:W.OK P G0 K d_)(Z:d_ H){s:TypeId}{a:Value}(N:ρ x=a)(h:pconv P W hi s t a=some (v,q))(A:gp q):AP P ρ ⟨d,.convert s t x,ty,pos,af,gd⟩ H (.val v,H):=by
 unfold pconv at h;split at h
 ·split at h
  ·rename_i T U;rw[mZ h A];exact ap_conv N T U
  cases h
 ·split at h
  ·simp only[a00,a05]at h;obtain⟨rfl,rfl⟩:=h;refine⟨?_⟩;show fS P ρ _ s t (ρ x) H=_;rw[N];show ovl (eK P s t _ _ H) H=_;have E:eK P s t _ _ H=_:=hW.cv A H Z;rw[E];rfl
  cases h
 cases h
theorem ppick_ok{g:Bool}{a b v:Value}(h:ppick g a b=some v):v=bif g then a else b:=by
 unfold ppick at h;split at h
 ·simp only[a00]at h;subst h;cases g<;>rfl
 ·rename_i k x E y;cases A:kq k E with
  |false=>rw[A]at h;cases h
  |true=>
   rw[A]at h
   have:=kq_eq A;subst this
   simp only[cond_true,a00]at h;subst h;cases g<;>rfl
 ·simp only[a00]at h;subst h;cases g<;>rfl
 cases h
theorem ppk_ok{g:Bool}{a b:Operand}{v:Value}{r:Operand->Value}(hc: ∀w,r (.const w)=w)(h:ppk a b g (r a) (r b)=some v):v=bif g then r a else r b:=by
 unfold ppk at h;split at h
 ·rename_i x e;simp only[a00]at h;subst h;rw[hc,e];cases g<;>rfl
 split at h
 ·rename_i y e _;simp only[a00]at h;subst h;rw[hc,e];cases g<;>rfl
 exact ppick_ok h
theorem pidx_ok{i:Operand}{a b:Value}(N:ρ x=a)(A:ρ i=b)(h:pidx P t a b=some (v,q))(T:gp q):AP P ρ ⟨d,.index t x i,ty,pos,af,gd⟩ H (.val v,H):=by
 unfold pidx at h;split at h
 ·rename_i s _ j;split at h
  ·rename_i E;simp only[a00,a05]at h;obtain⟨rfl,rfl⟩:=h;obtain⟨U,Z⟩:=T;have q3:j<(s.length:Int):=Z;exact ap_idxS (s:=s) N A E U (aO M)
  cases h
 ·split at h
  ·rename_i E;simp only[a00,a05]at h;obtain⟨rfl,rfl⟩:=h;exact ap_ixG N A E
  cases h
 cases h
theorem pidxA_ok{i:Operand}{a b:Value}(Z:ρ x=a)(A:ρ i=b)(h:pidxA P t a b=some (v,q))(U:gp q):AP P ρ ⟨d,.indexAddr t x i,ty,pos,af,gd⟩ H (.val v,H):=by
 unfold pidxA at h;split at h
 ·split at h
  ·rename_i E;split at h
   ·rename_i N;simp only[a00,a05]at h;obtain⟨rfl,rfl⟩:=h;obtain⟨b,o,n,k,e,T,q2,q3⟩:=U;cases e
    exact jP Z A E N T q2 q3
   cases h
  cases h
 ·split at h
  ·rename_i E;split at h
   ·rename_i N;simp only[a00,a05]at h;obtain⟨rfl,rfl⟩:=h;obtain⟨T,q2⟩:=U;refine⟨?_⟩;rename_i kk j n e z _;obtain⟨m,rfl⟩:=a19 T;show ovl (du P t (ρ x) (ρ i)) H=_;rw[Z,A];unfold du;rw[E];have h3:Nat.ble (m+1) n=true:=a0y M;show ovl (match cW P e with|some sz=>bif Nat.ble (m+1) n then some (.pointer (some ⟨_,_+m *sz,none⟩)) else none|none=>none) H=_;rw[N];simp only[h3,cond_true];rfl
   cases h
  cases h
 cases h
theorem sl_str{lo hi:Option Operand}{s:ByteArray}{i j:Nat}(Z:ρ x= .string s)(U:P.underlying t=some .string)(E:bU s.data.toList.length (hi.map ρ)=some j)(N:bU 0 (lo.map ρ)=some i)(A:i<=j)(T:j<=s.data.toList.length):
  AP P ρ ⟨d,.slice t x lo hi none,ty,pos,af,gd⟩ H (.val (.string ⟨⟨(s.data.toList.drop i).take (j-i)⟩⟩),H):=by
 obtain⟨⟨s⟩⟩:=s
 exact ap_slS Z U E N A T
theorem pslice_ok(hW:W.OK P G0 K d_)(hH:d_ H){lo A:Option Operand}{a:Value}(T:ρ x=a)(h:pslice P W hi t a (lo.map ρ) (A.map ρ)=some (v,q))(hq:gp q):AP P ρ ⟨d,.slice t x lo A none,ty,pos,af,gd⟩ H (.val v,H):=by
 unfold pslice at h;split at h
 ·rename_i s;split at h
  ·rename_i Z;split at h
   ·rename_i E N;simp only[a00,a05]at h;obtain⟨rfl,rfl⟩:=h;have:=sl_str (d:=d) (ty:=ty) (pos:=pos) (af:=af) (gd:=gd) (H:=H) (lo:=lo) (hi:=A) (i:=0) (s:=⟨⟨s⟩⟩) (j:=s.length) T Z (by rw[N];rfl) (by rw[E];rfl) (a0r _) (a0d _);rw[a17,Nat.sub_zero,a1e]at this;exact this
   ·rename_i k i E N;simp only[a00,a05]at h;obtain⟨rfl,rfl⟩:=h;obtain⟨U,q2⟩:=hq;have:=sl_str (d:=d) (ty:=ty) (pos:=pos) (af:=af) (gd:=gd) (H:=H) (lo:=lo) (hi:=A) (i:=i.toNat) (s:=⟨⟨s⟩⟩) (j:=s.length) T Z (by rw[N];rfl) (by rw[E];exact optN U) M (a0d _);rw[a0h (by rw[a0H];exact a0d _)]at this;exact this
   ·rename_i k j E N;simp only[a00,a05]at h;obtain⟨rfl,rfl⟩:=h;obtain⟨U,q2⟩:=hq;have:=sl_str (d:=d) (ty:=ty) (pos:=pos) (af:=af) (gd:=gd) (H:=H) (lo:=lo) (hi:=A) (i:=0) (j:=j.toNat) (s:=⟨⟨s⟩⟩) T Z (by rw[N];exact optN U) (by rw[E];rfl) (a0r _) (show j.toNat<=s.length by omega);simpa using this
   ·rename_i k i k' j E N;simp only[a00,a05]at h;obtain⟨rfl,rfl⟩:=h;obtain⟨U,q2,q3⟩:=hq;exact sl_str (s:=⟨⟨s⟩⟩) (lo:=lo) (hi:=A) (i:=i.toNat) (j:=j.toNat) T Z (by rw[N];exact optN M) (by rw[E];exact optN U) M (show j.toNat<=s.length by omega)
   cases h
  cases h
 split at h
 ·simp only[a00,a05]at h;obtain⟨rfl,rfl⟩:=h;refine⟨?_⟩;show ovl (bA P t (ρ x) (lo.map ρ) (A.map ρ) (Option.map ρ none) H) H=_;have ad:bA P t _ (lo.map ρ) (A.map ρ) none H=_:=hW.sl hq H hH;rw[T,a25,ad];rfl
 cases h
theorem plen_ok{a:Value}(E:ρ x=a)(h:plen P t a=some (v,q)):AP P ρ ⟨d,.call ⟨.builtin .len, #[x], #[t]⟩,ty,pos,af,gd⟩ H (.val v,H):=by
 unfold plen at h;split at h
 ·rename_i s;split at h
  ·rename_i A;simp only[a00,a05]at h;obtain⟨rfl,rfl⟩:=h;exact ap_lenS (s:=s) E A
  cases h
 ·split at h
  ·rename_i A;simp only[a00,a05]at h;obtain⟨rfl,rfl⟩:=h;refine⟨?_⟩;show ovl (aLen P t (ρ x) H) H=_;rw[E];unfold aLen;rw[A];rfl
  cases h
 cases h
inductive PRes(P:Program)(G0:Nat)(K:bM)(d_:Heap->Prop)(ρ:Operand->Value)(o:Oper)(H:Heap)(v:Value):Prop where
 |val (h:AP P ρ o H (.val v,H))
 |call (g:FuncId) (args:List Value) (h:AP P ρ o H (.enter g args,H)) (hk:gj o.op=true) (hc:C P G0 K g args H fun v' H'=>v'=v/\d_ H')
theorem mB{ρ ρ':Operand->Value}: ∀{l:List Operand},(∀x,x∈l->ρ x=ρ' x)->dJ ρ l=dJ ρ' l
 | [],_=>rfl
 |x::l,h=>by show ρ x::dJ ρ l=ρ' x::dJ ρ' l;rw[h x (by simp),mB fun y A=>h y (by simp[A])]
theorem pmm_ok{w:Bool}{y:Operand}{A:Array TypeId}{a b:Value}(E:ρ x=a)(N:ρ y=b)(h:pmm w a b=some (v,q)):AP P ρ ⟨d,.call ⟨.builtin (bif w then .min else .max), #[x,y],A⟩,ty,pos,af,gd⟩ H (.val v,H):=by
 unfold pmm at h;split at h
 ·rename_i k n k' m;simp only[a00,a05]at h;obtain⟨rfl,rfl⟩:=h;have Z:([ρ x,ρ y].all fun z=>jI z)=true:=by simp[E,N,jI,noA0]
  cases w with
  |true=>
   refine⟨?_⟩
   show bF P ρ ⟨d,.call ⟨.builtin .min, #[x,y],A⟩,ty,pos,af,gd⟩ H=_
   unfold bF
   have U:((Op.call ⟨.builtin .min, #[x,y],A⟩).operands.toList.all fun x=>jI (ρ x))=true:=by simp[Op.operands,Call.operands,E,N,jI,noA0]
   simp only[U,cond_true]
   have T:aF P (execOp ρ ⟨d,.call ⟨.builtin .min, #[x,y],A⟩,ty,pos,af,gd⟩)=some (.value (.int k (if m<n then m else n))):=by unfold execOp;simp[resolve,invoke,builtin,Builtin.min_,Builtin.min2,E,N]
   rw[T];rfl
  |false=>
   refine⟨?_⟩
   show bF P ρ ⟨d,.call ⟨.builtin .max, #[x,y],A⟩,ty,pos,af,gd⟩ H=_
   unfold bF
   have U:((Op.call ⟨.builtin .max, #[x,y],A⟩).operands.toList.all fun x=>jI (ρ x))=true:=by simp[Op.operands,Call.operands,E,N,jI,noA0]
   simp only[U,cond_true]
   have T:aF P (execOp ρ ⟨d,.call ⟨.builtin .max, #[x,y],A⟩,ty,pos,af,gd⟩)=some (.value (.int k (if m>n then m else n))):=by unfold execOp;simp[resolve,invoke,builtin,Builtin.max_,Builtin.max2,E,N]
   rw[T];rfl
 cases h
theorem pcall_ok(hW:W.OK P G0 K d_)(Z:d_ H){ρ ρ':Operand->Value}{c:Call}(A: ∀x,x∈(Op.call c).operands.toList->ρ x=ρ' x)(h:pcall P W hi ρ' c=some (v,q))(hq:gp q):
  PRes P G0 K d_ ρ ⟨d,.call c,ty,pos,af,gd⟩ H v:=by
 obtain⟨N,args,E⟩:=c
 cases N with
 |builtin b=>
  cases b with
  |len=>
   obtain⟨E⟩:=E
   obtain⟨args⟩:=args
   simp only[pcall]at h
   split at h
   ·exact .val (plen_ok (A _ (by simp[Op.operands,Call.operands])) h)
   cases h
  |min=>
   obtain⟨args⟩:=args
   simp only[pcall]at h
   split at h
   ·exact .val (pmm_ok (w:=true) (A _ (by simp[Op.operands,Call.operands])) (A _ (by simp[Op.operands,Call.operands])) h)
   cases h
  |max=>
   obtain⟨args⟩:=args
   simp only[pcall]at h
   split at h
   ·exact .val (pmm_ok (w:=false) (A _ (by simp[Op.operands,Call.operands])) (A _ (by simp[Op.operands,Call.operands])) h)
   cases h
  |_=>cases h
 |value f=>
  simp only[pcall]at h
  split at h
  ·rename_i U;simp only[a00,a05]at h;obtain⟨rfl,rfl⟩:=h;refine .call _ _ ⟨?_⟩ V (hW.cl hq H Z);show fE (fV P (ρ f) (dJ ρ args.toList)) H=_;rw[A f (by simp[Op.operands,Call.operands]),mB (ρ':=ρ') (fun x T=>A x (by simp[Op.operands,Call.operands]at T⊢;exact .inr T)),U];rfl
  cases h
 |invoke r m=>cases h
theorem pop_ok(Z:W.OK P G0 K d_)(U:d_ H){ρ ρ':Operand->Value}{op:Op}(A: ∀x,x∈op.operands.toList->ρ x=ρ' x)(h:pop P W hi ρ' op=some (v,q))(T:gp q):
  PRes P G0 K d_ ρ ⟨d,op,ty,pos,af,gd⟩ H v:=by
 cases op with
 |move x=>
  simp only[pop,a00,a05]at h;obtain⟨rfl,rfl⟩:=h
  exact .val (ap_move (A x (by simp[Op.operands])))
 |assign x=>
  simp only[pop,a00,a05]at h;obtain⟨rfl,rfl⟩:=h
  exact .val (lR (A x (by simp[Op.operands])))
 |binOp op t x y yt=>exact .val (pbin_ok (A x (by simp[Op.operands])) (A y (by simp[Op.operands])) h T)
 |unOp op t x=>exact .val (pun_ok (A x (by simp[Op.operands])) h T)
 |convert s t x=>exact .val (pconv_ok Z U (A x (by simp[Op.operands])) h T)
 |load t a=>
  simp only[pop]at h
  split at h
  ·simp only[a00,a05]at h;obtain⟨rfl,rfl⟩:=h;refine .val ⟨?_⟩;show d9 P t (ρ a) H=_;rw[A a (by simp[Op.operands])];exact Z.ld T H U
  cases h
 |lookup t m x ok=>simp only[pop]at h;cases h
 |index t x i=>exact .val (pidx_ok (A x (by simp[Op.operands])) (A i (by simp[Op.operands])) h T)
 |indexAddr t x i=>exact .val (pidxA_ok (A x (by simp[Op.operands])) (A i (by simp[Op.operands])) h T)
 |field t x f=>
  simp only[pop,optV]at h
  split at h
  ·rename_i E;simp only[a00,a05]at h;obtain⟨rfl,rfl⟩:=h;exact .val (ap_fv (A x (by simp[Op.operands])) E)
  cases h
 |fieldAddr s x f=>
  simp only[pop,optV]at h
  split at h
  ·rename_i E;simp only[a00,a05]at h;obtain⟨rfl,rfl⟩:=h;refine .val ⟨?_⟩;show ovl (iY P s (ρ x) f) H=_;rw[A x (by simp[Op.operands]),E];rfl
  cases h
 |extract x i=>
  simp only[pop,optV]at h
  split at h
  ·rename_i E;simp only[a00,a05]at h;obtain⟨rfl,rfl⟩:=h;exact .val (ap_ex (A x (by simp[Op.operands])) E)
  cases h
 |build t parts=>
  have aa:parts.map (fun p=>(p.1,ρ p.2))=parts.map (fun p=>(p.1,ρ' p.2)):=by apply a2i;intro p hp;rw[A p.2 (by simp only[Op.operands,a0v];exact⟨p,by simpa using hp,V⟩)]
  simp only[pop,optV]at h
  split at h
  ·rename_i z hz;split at h
   ·rename_i cs E;simp only[a00,a05]at h;obtain⟨rfl,rfl⟩:=h;exact .val (ap_bld aa hz (bldL_ok (by rw[ji]at E;rw[a2e];exact E)))
   split at h
   ·rename_i E;simp only[a00,a05]at h;obtain⟨rfl,rfl⟩:=h;exact .val (ap_bld aa hz E)
   cases h
  cases h
 |slice t x lo hi2 mx=>
  cases mx with
  |some _=>simp only[pop]at h;cases h
  |none=>
   simp only[pop]at h
   have e1:lo.map ρ=lo.map ρ':=by
    cases lo with
    |none=>rfl
    |some o=>simp only[a2p];rw[A o (by simp[Op.operands])]
   have e2:hi2.map ρ=hi2.map ρ':=by
    cases hi2 with
    |none=>rfl
    |some o=>simp only[a2p];rw[A o (by simp[Op.operands])]
   rw[←e1,←e2]at h
   exact .val (pslice_ok Z U (A x (by simp[Op.operands])) h T)
 |call c=>exact pcall_ok Z U A h T
 |nilCheck x=>
  simp only[pop]at h
  have N:=A x (by simp[Op.operands])
  split at h
  ·rename_i a ha;simp only[a00,a05]at h;obtain⟨rfl,rfl⟩:=h;refine .val ⟨?_⟩;show opNil (ρ x) H=_;rw[N,ha];rfl
  ·rename_i f a c ha;simp only[a00,a05]at h;obtain⟨rfl,rfl⟩:=h;refine .val ⟨?_⟩;show opNil (ρ x) H=_;rw[N,ha];rfl
  cases h
 |makeFunc fn first cap=>
  simp only[pop,a00,a05]at h;obtain⟨rfl,rfl⟩:=h
  refine .val ⟨?_⟩
  show some (AN.val (.func fn (first.map ρ) (cap.map ρ)),H)=_
  have e1:first.map ρ=first.map ρ':=a2i fun x N=>A x (by simp[Op.operands]at N⊢;first|exact .inl N|exact .inr N)
  have e2:cap.map ρ=cap.map ρ':=a2i fun x N=>A x (by simp[Op.operands]at N⊢;first|exact .inl N|exact .inr N)
  rw[e1,e2]
 |_=>cases h
end
structure SS.Rel(S:SS)(f fr:Fn):Prop where
 sl: ∀t c v,lk S.m t=some (c,v)->fr t=(bif act S.G c then v else undef)
 no: ∀t,lk S.m t=none->fr t=f t
 gs: ∀s g,gl S.G s=some g->(∃c,lk S.m s=some (c,.bool g))\/(lk S.m s=none/\f s= .bool g)
 ks: ∀t c v,lk S.m t=some (c,v)->∀s w,(s,w)∈c->∃g,gl S.G s=some g
theorem gl_add{G:List (Nat×Bool)}{d s:Nat}{g r:Bool}(h:gl G s=some r):gl (kG G d g) s=some r:=by
 unfold kG;split
 ·exact h
 rename_i E;show(bif Nat.beq d s then some g else gl G s)=_;cases A:Nat.beq d s with
 |true=>have:=a0c A;subst this;rw[E]at h;cases h
 |false=>exact h
theorem lE{G:List (Nat×Bool)}{d:Nat}{g:Bool}(h: ∀r,gl G d=some r->r=g):gl (kG G d g) d=some g:=by
 unfold kG;split
 ·rename_i r A;rw[A,h r A]
 show(bif Nat.beq d d then some g else gl G d)=_;rw[a11];rfl
theorem gl_add_inv{G:List (Nat×Bool)}{d s:Nat}{g r:Bool}(h:gl (kG G d g) s=some r):gl G s=some r\/(s=d/\r=g):=by
 unfold kG at h;split at h
 ·exact .inl h
 have A:(bif Nat.beq d s then some g else gl G s)=some r:=h;cases E:Nat.beq d s with
 |true=>rw[E]at A;exact .inr ⟨(a0c E).symm,(Option.some.inj A).symm⟩
 |false=>rw[E]at A;exact .inl A
theorem om{G:List (Nat×Bool)}{d:Nat}{g:Bool}: ∀{c:Ch},(∀s w,(s,w)∈c->∃r,gl G s=some r)->act (kG G d g) c=act G c
 | [],_=>rfl
 |(s,w)::c,h=>by
  obtain⟨r,A⟩:=h s w (by simp);show((match gl (kG G d g) s with|some g=>bq g w|none=>false)&&act (kG G d g) c)=((match gl G s with|some g=>bq g w|none=>false)&&act G c)
  rw[gl_add A,A,om fun s w E=>h s w (by simp[E])]
theorem act_mem{G:List (Nat×Bool)}: ∀{c:Ch} {s:Nat} {w:Bool},act G c=true->memC s w c=true->gl G s=some w
 |(s',w')::c,s,w,h,A=>by
  simp only[act,a0a]at h;simp only[memC,a0C,a0a]at A;rcases A with⟨U,Z⟩|A
  ·have N:=a0c U;have T:=bq_eq Z;subst N T;have E:=h.1;split at E
   ·rename_i g hg;rw[hg,bq_eq E]
   cases E
  exact act_mem h.2 A
 | [],s,w,_,A=>by cases A
theorem act_sub{G:List (Nat×Bool)}: ∀{a c:Ch},act G c=true->subC a c=true->act G a=true
 | [],_,_,_=>rfl
 |(s,w)::a,c,h,hs=>by simp only[subC,a0a]at hs;have A:=act_mem h hs.1;simp only[act,A,act_sub h hs.2,a13];cases w<;>rfl
theorem impl_act{G:List (Nat×Bool)}{p:Prop}: ∀{c:Ch},act G c=true->impl G c p->p
 | [],_,h=>h
 |(s,w)::c,ha,h=>by
  simp only[act,a0a]at ha;obtain⟨A,E⟩:=ha;unfold impl at h;split at A
  ·rename_i g N;rw[N]at h;exact impl_act E (h (bq_eq A))
  cases A
section
variable {P:Program} {G0:Nat} {K:bM} {d_:Heap->Prop} {W:FW} {sz:Nat} {Q:Ex->Fn->Heap->Prop} {ops:Array Oper} {os:List Oper} {k:List Fr} {f fr:Fn} {H:Heap} {S S':SS}
theorem SS.Rel.add(h:S.Rel f fr){d:Nat}{g:Bool}(N:(∃c,lk S.m d=some (c,.bool g))\/(lk S.m d=none/\f d= .bool g)):SS.Rel ⟨S.m,kG S.G d g⟩ f fr:=by
 refine⟨fun t c v A=>?_,h.no,fun s r E=>?_,fun t c v A s w T=>?_⟩
 ·rw[h.sl t c v A];show _=bif act (kG S.G d g) c then v else undef
  rw[om (h.ks t c v A)]
 ·rcases gl_add_inv E with h1|⟨rfl,rfl⟩
  ·exact h.gs s r h1
  exact N
 obtain⟨r,E⟩:=h.ks t c v A s w T;exact⟨r,gl_add E⟩
theorem SS.Rel.same(h:S.Rel f fr){d:Nat}{g:Bool}(U:(∃c,lk S.m d=some (c,.bool g))\/(lk S.m d=none/\f d= .bool g)): ∀r,gl S.G d=some r->r=g:=by
 intro r Z;rcases h.gs d r Z with⟨c,E⟩|⟨E,T⟩<;>rcases U with⟨c',A⟩|⟨A,N⟩
 ·rw[E]at A;simp only[a00,a05,Value.bool.injEq]at A;exact A.2
 ·rw[E]at A;cases A
 ·rw[E]at A;cases A
 rw[T]at N;simpa using N
structure GOK(ops:Array Oper)(f fr:Fn)(S:SS)(g:Option (Nat×Bool))(c:Ch)(G1:List (Nat×Bool)):Prop where
 rel:SS.Rel ⟨S.m,G1⟩ f fr
 ks: ∀s w,(s,w)∈c->∃g,gl G1 s=some g
 on:act G1 c=true->match g with
  |none=>True
  |some (j,w)=>cQ ops fr j=some w
 off:act G1 c=false->match g with
  |none=>False
  |some (j,w)=>cQ ops fr j=none\/cQ ops fr j=some (!w)
theorem fJ(Z:S.Rel f fr){g:Option (Nat×Bool)}{c:Ch}{G1:List (Nat×Bool)}(h:nT ops f S g=some (c,G1)):GOK ops f fr S g c G1:=by
 unfold nT at h;split at h
 ·simp only[a00,a05]at h;obtain⟨rfl,rfl⟩:=h;exact⟨Z,fun s w N=>by simp at N,fun _=>trivial,fun h=>by cases h⟩
 rename_i j w;split at h
 ·rename_i d hd;have ai: ∀(A:Ch) (γ:Bool),((∃c,lk S.m d=some (c,.bool γ))\/(lk S.m d=none/\f d= .bool γ))->(∀s w,(s,w)∈A->∃g,gl S.G s=some g)->(fr d=bif act S.G A then .bool γ else undef)->GOK ops f fr S (some (j,w)) ((d,w)::A) (kG S.G d γ):=by
   intro A γ ad ag E;have hG:=lE (G:=S.G) (d:=d) (g:=γ) (Z.same ad);have ha:act (kG S.G d γ) ((d,w)::A)=(bq γ w&&act S.G A):=by show((match gl (kG S.G d γ) d with|some g=>bq g w|none=>false)&&act (kG S.G d γ) A)=_;rw[hG,om ag]
   have hy: ∀v,fr d=v->cQ ops fr j=match v with| .bool b=>some b|_=>none:=by intro v hv;unfold cQ;rw[hd];show(match fr d with| .bool b=>some b|_=>none)=_;rw[hv]
   refine⟨Z.add ad,fun s w' N=>?_,fun aa=>?_,fun T=>?_⟩
   ·rcases a0w.1 N with e|N
    ·injection e with e1 e2;subst e1;exact⟨γ,hG⟩
    obtain⟨r,ar⟩:=ag s w' N;exact⟨r,gl_add ar⟩
   ·rw[ha,a0a]at aa;rw[aa.2]at E;show cQ ops fr j=some w;rw[hy _ E,bq_eq aa.1];rfl
   rw[ha]at T;show cQ ops fr j=none\/cQ ops fr j=some (!w);cases hc:act S.G A with
   |false=>rw[hc]at E;left;rw[hy _ E];rfl
   |true=>
    rw[hc]at E T
    right
    rw[hy _ E]
    cases γ<;>cases w<;>first|rfl|cases T
  split at h
  ·rename_i A γ U;simp only[a00,a05]at h;obtain⟨rfl,rfl⟩:=h;exact ai A γ (.inl ⟨_,U⟩) (Z.ks d A _ U) (Z.sl d A _ U)
  ·cases h
  rename_i U;split at h
  ·rename_i γ hf;simp only[a00,a05]at h;obtain⟨rfl,rfl⟩:=h;exact ai [] γ (.inr ⟨U,hf⟩) (fun s w N=>by simp at N) (by rw[Z.no d U,hf];rfl)
  cases h
 cases h
theorem kX{m:List (Nat×Ch×Value)}{G:List (Nat×Bool)}{q q':Option Prop}{c:Ch}{d:Nat}{v:Value}(U:SS.Rel ⟨m,G⟩ f fr)(hk: ∀s w,(s,w)∈c->∃g,gl G s=some g)(h:putS q c G m d v=some (S',q')):
  SS.Rel S' f (upd fr d (bif act G c then v else undef))/\(gp q'->act G c=true->gp q):=by
 unfold putS at h
 simp only[mN]at h
 split at h
 ·cases h
 rename_i hd
 simp only[a00,a05]at h
 obtain⟨rfl,rfl⟩:=h
 refine⟨⟨fun t N v' T=>?_,fun t T=>?_,fun s g Z=>?_,fun t N v' T s w hm=>?_⟩,fun hq ha=>?_⟩
 ·have A:(bif Nat.beq d t then some (c,v) else lk m t)=some (N,v'):=T;unfold upd;cases E:Nat.beq d t with
  |true=>
   rw[E]at A
   simp only[cond_true,a00,a05]at A
   obtain⟨rfl,rfl⟩:=A
   rfl
  |false=>rw[E]at A;exact U.sl t N v' A
 ·have A:(bif Nat.beq d t then some (c,v) else lk m t)=none:=T;unfold upd;cases E:Nat.beq d t with
  |true=>rw[E]at A;cases A
  |false=>rw[E]at A;exact U.no t A
 ·have ad:Nat.beq d s=false:=by
   cases E:Nat.beq d s with
   |false=>rfl
   |true=>have:=a0c E;subst this;rw[hd]at Z;cases Z
  have e:lk ((d,c,v)::m) s=lk m s:=by show(bif Nat.beq d s then some (c,v) else lk m s)=_;rw[ad];rfl
  rcases U.gs s g Z with⟨c0,h0⟩|h0
  ·exact .inl ⟨c0,e.trans h0⟩
  exact .inr ⟨e.trans h0.1,h0.2⟩
 ·have A:(bif Nat.beq d t then some (c,v) else lk m t)=some (N,v'):=T;cases E:Nat.beq d t with
  |true=>
   rw[E]at A
   simp only[cond_true,a00,a05]at A
   obtain⟨rfl,rfl⟩:=A
   exact hk s w hm
  |false=>rw[E]at A;exact U.ks t N v' A s w hm
 cases q with
 |none=>trivial
 |some p=>exact impl_act ha hq
theorem rd_ok(N:S.Rel f fr){c:Ch}(U:act S.G c=true){x:Operand}(Z:S.can c x=true):cJ fr x=S.rd f x:=by
 cases x with
 |tmp t=>
  show fr t=match lk S.m t with|some x=>x.2|none=>f t
  have A:(match lk S.m t with|some x=>subC x.1 c|none=>true)=true:=Z
  cases E:lk S.m t with
  |none=>exact N.no t E
  |some y=>
   obtain⟨T,v⟩:=y
   rw[E]at A
   rw[N.sl t T v E,act_sub U A];rfl
 |_=>rfl
theorem gA(hW:W.OK P G0 K d_){o:Oper}{q:Option Prop}{hi:Hint}(hr:S.Rel f fr)(h:stepS P G0 W sz ops f S hi o=some (S',q))(hq:gp q):
  ∃d c A v,o.dst=some d/\Nat.ble (d+1) sz=true/\o.op.operands.toList.all (bo G0)=true/\nT ops f S o.guard=some (c,A)/\
   (act A c=true->∀H,d_ H->PRes P G0 K d_ (cJ fr) ⟨some d,o.op,o.type,o.pos,o.after,none⟩ H v)/\SS.Rel S' f (upd fr d (bif act A c then v else undef)):=by
 unfold stepS at h
 simp only[fcH_eq,fcV_eq]at h
 split at h
 ·cases h
 rename_i d hd
 cases T:(Nat.ble (d+1) sz&&o.op.operands.toList.all (bo G0)) with
 |false=>rw[T]at h;cases h
 |true=>
  rw[T]at h
  simp only[cond_true]at h
  rw[a0a]at T
  split at h
  ·cases h
  rename_i c A hc
  have N:=fJ hr hc
  split at h
  ·rename_i s a b aw;split at h
   ·rename_i cc γ hl;cases E:(subC cc c&&(S.can ((s,true)::c) a&&S.can ((s,false)::c) b)) with
    |false=>rw[E]at h;cases h
    |true=>
     rw[E]at h
     simp only[cond_true]at h
     simp only[a0a]at E
     split at h
     ·rename_i v hv;have al:(∃c,lk S.m s=some (c,.bool γ))\/(lk S.m s=none/\f s= .bool γ):= .inl ⟨_,hl⟩;have ad:=SS.Rel.add (S:=⟨S.m,A⟩) N.rel (d:=s) (g:=γ) al;have hG:=lE (G:=A) (d:=s) (g:=γ) (N.rel.same al);have an: ∀s' w,(s',w)∈c->∃g,gl (kG A s γ) s'=some g:=fun s' w hm=>by obtain⟨r,ax⟩:=N.ks s' w hm;exact⟨r,gl_add ax⟩
      have Z:act (kG A s γ) c=act A c:=om N.ks;obtain⟨h1,_⟩:=kX ad an h;rw[Z]at h1;refine⟨d,c,A,v,hd,T.1,T.2,hc,fun U H hH=>?_,h1⟩;refine .val ⟨?_⟩;rw[aw];show gm (cJ fr) (.tmp s) a b H=_;have e0:cJ fr (.tmp s)= .bool γ:=by have:=N.rel.sl s cc _ hl;rw[act_sub U E.1]at this;exact this
      unfold gm;rw[e0];show some (AN.val (bif γ then cJ fr a else cJ fr b),H)=_;rw[ppk_ok (fun _=>rfl) hv];have aa: ∀(w:Bool) (x:Operand),γ=w->S.can ((s,w)::c) x=true->cJ fr x=S.rd f x:=by intro w x hw hx;have ay:SS.Rel ⟨S.m,kG A s γ⟩ f fr:=ad;refine rd_ok (S:=⟨S.m,kG A s γ⟩) ay (c:=(s,w)::c) ?_ hx;show((match gl (kG A s γ) s with|some g=>bq g w|none=>false)&&act (kG A s γ) c)=true;rw[hG,Z,U,hw];cases w<;>rfl
      cases γ with
      |true=>rw[cond_true,cond_true,aa true a V E.2.1]
      |false=>rw[cond_false,cond_false,aa false b V E.2.2]
     cases h
   cases h
  cases E:o.op.operands.toList.all (S.can c) with
  |false=>rw[E]at h;cases h
  |true=>
   rw[E]at h
   simp only[cond_true]at h
   split at h
   ·rename_i v q0 hp;obtain⟨h1,h2⟩:=kX N.rel N.ks h;refine⟨d,c,A,v,hd,T.1,T.2,hc,fun U H hH=>?_,h1⟩;refine pop_ok hW hH (fun x hx=>?_) hp (h2 hq U);have:=a0t.1 E x hx;exact rd_ok (S:=⟨S.m,A⟩) N.rel U this
   cases h
theorem wo_do{d:Nat}{o:Oper}{c:Ch}{E:List (Nat×Bool)}{v:Value}(hd:o.dst=some d)(T:Nat.ble (d+1) sz=true)(Z:o.op.operands.toList.all (bo G0)=true)(U:GOK ops f fr S o.guard c E)
  (hp:act E c=true->∀H,d_ H->PRes P G0 K d_ (cJ fr) ⟨some d,o.op,o.type,o.pos,o.after,none⟩ H v) (N:d_ H) (h: ∀H,d_ H->WO P G0 K sz ops os k (upd fr d (bif act E c then v else undef)) H Q):WO P G0 K sz ops (o::os) k fr H Q:=by
 obtain⟨ag,op,ty,pos,af,gd⟩:=o
 simp only at hd Z U hp
 subst hd
 cases A:act E c with
 |true=>
  rw[A]at h
  have base:WO P G0 K sz ops (⟨some d,op,ty,pos,af,none⟩::os) k fr H Q:=by
   cases hp A H N with
   |val hv=>exact cd hv Z T (h H N)
   |call g args he _ hc=>exact wo_callG he Z T hc (by rintro v' H' ⟨rfl,hJ⟩;exact h H' hJ)
  cases gd with
  |none=>exact base
  |some jw=>
   obtain⟨j,w⟩:=jw
   exact eT (U.on A) V base
 |false=>
  rw[A]at h
  have:=U.off A
  cases gd with
  |none=>exact absurd this id
  |some jw=>
   obtain⟨j,w⟩:=jw
   rcases this with h1|h1
   ·exact wo_gn h1 T (h H N)
   exact wo_gf h1 V T (h H N)
def bnD:ID->Bool
 | .x []=>true
 | .x _=>false
 | .s _=>false
 |_=>true
theorem okD_r{i:Nat}: ∀{D:List (Nat×ID)},D.all (fun e=>bnD e.2)=true->okD ops i .r D
 | [],_=>trivial
 |(j,e)::D,h=>by
  simp only[a0E,a0a]at h;refine⟨.inr ?_,okD_r h.2⟩;cases e with
  |x W=>
   cases W with
   |nil=>trivial
   |cons a b=>exact absurd h.1 (by simp[bnD])
  |s W=>exact absurd h.1 (by simp[bnD])
  |_=>trivial
theorem okD_x{i:Nat}: ∀{D:List (Nat×ID)},D.all (fun e=>bnD e.2)=true->okD ops i (.x []) D
 | [],_=>trivial
 |(j,e)::D,h=>by
  simp only[a0E,a0a]at h;refine⟨.inr ?_,okD_x h.2⟩;cases e with
  |x W=>
   cases W with
   |nil=>exact⟨trivial,trivial⟩
   |cons a b=>exact absurd h.1 (by simp[bnD])
  |s W=>exact absurd h.1 (by simp[bnD])
  |l b=>exact a0g
  |q S=>exact fun b A=>absurd A a0g
  |n B=>exact fun b A=>absurd A a0g
  |_=>trivial
theorem wf_weak{D:List (Nat×ID)}{i j:Nat}{e:ID}(U: ∀g,e.fits g->gv g=true)(h:WF2 P G0 K sz ops ((j,.r)::D) i os k f H Q):WF2 P G0 K sz ops ((j,e)::D) i os k f H Q:=⟨fun t fs Z A=>by
 refine h.out t fs Z ?_;cases fs with
 |nil=>exact absurd A id
 |cons x fs=>
  obtain⟨a,g⟩:=x
  obtain⟨E,N,T⟩:=A
  exact⟨E,U g N,T⟩⟩
theorem wf_callx{d:Tmp}{op:Op}{ty:TypeId}{pos:String}{af:Array Edge}{D:List (Nat×ID)}{i:Nat}{v:Value}{g:FuncId}{args:List Value}(ha:AP P (cJ f) ⟨some d,op,ty,pos,af,none⟩ {H with log:=[]} (.enter g args,{H with log:=[]}))(ho:op.operands.toList.all (bo G0)=true)(hd:Nat.ble (d+1) sz=true)(hk:gj op=true)
  (hc:C P G0 K g args {H with log:=[]} fun v' H'=>v'=v/\H'={H with log:=[]}) (ag:okD ops i (.x []) D)
  (h:WF2 P G0 K sz ops ((i,.x [])::D) (i+1) os k (upd f d v) H Q):WF2 P G0 K sz ops D i (⟨some d,op,ty,pos,af,none⟩::os) k f H Q:=⟨fun t fs ht U=>by
 obtain⟨E,v',H2,ad,rfl,rfl⟩:=hc.out
 obtain⟨T,h1,h2⟩:=jG (s:=⟨t,sz,{H with log:=[]}⟩) (d:=some d) (v:=v') hd
 have hi:=dh (ops:=ops) (f:=f) (o:=⟨some d,op,ty,pos,af,none⟩) (n:=H.next) (log:=[]) (W:=[]) V hk (fun b hb=>by simp at hb) t sz H ht
 obtain⟨A,e,s',h3,h4⟩:=h.out T ((i,d8 ops ⟨some d,op,ty,pos,af,none⟩ ⟨t,sz,H⟩ H.next [])::fs) (by rw[h2,ht];rfl) ⟨V,hi,U⟩
 refine⟨Nat.max E A,e,s',?_,h4⟩
 have ai:step P G0 (call P G0 K (Nat.max E A)) ops ⟨some d,op,ty,pos,af,none⟩ ⟨t,sz,{H with log:=[]}⟩=some ⟨T,sz,{H with log:=[]}⟩:=by unfold step bf;simp only[cond_true,ho,ew,ht,ha.eq,fl (a23 E A) _ _ _ _ ad];exact h1
 unfold bC gP
 rw[ai]
 simp only[dT hi U ag,cond_true,dK,a14]
 refine dY (a1C (a1t E A)) k _ _ (fun x N=>?_) _ h3
 cases Z:bC P G0 (call P G0 K A) ops (i+1) ((i,d8 ops ⟨some d,op,ty,pos,af,none⟩ ⟨t,sz,H⟩ H.next [])::fs) os ⟨T,sz,H⟩ with
 |none=>rw[Z]at N;cases N
 |some y=>
  have:=eO (fl (P:=P) (G:=G0) (K:=K) (a1t E A)) _ _ _ _ _ Z
  rw[Z]at N
  show dW (bC P G0 (call P G0 K (Nat.max E A)) ops (i+1) _ os ⟨T,sz,H⟩)=_
  rw[this];exact N⟩
theorem wf_do{D:List (Nat×ID)}{i d:Nat}{o:Oper}{c:Ch}{T:List (Nat×Bool)}{v:Value}(hD:D.all (fun e=>bnD e.2)=true)(hd:o.dst=some d)(E:Nat.ble (d+1) sz=true)(U:o.op.operands.toList.all (bo G0)=true)(A:GOK ops f fr S o.guard c T)
  (hp:act T c=true->PRes P G0 K (· ={H with log:=[]}) (cJ fr) ⟨some d,o.op,o.type,o.pos,o.after,none⟩ {H with log:=[]} v) (h:WF2 P G0 K sz ops ((i,.r)::D) (i+1) os k (upd fr d (bif act T c then v else undef)) H Q):WF2 P G0 K sz ops D i (o::os) k fr H Q:=by
 obtain⟨al,op,ty,pos,af,gd⟩:=o
 simp only at hd U A hp
 subst hd
 cases N:act T c with
 |true=>
  rw[N]at h
  have base:WF2 P G0 K sz ops D i (⟨some d,op,ty,pos,af,none⟩::os) k fr H Q:=by
   cases hp N with
   |val hv=>exact bj (id:= .r) hv U E (did_r fun b E=>by simp at E) (okD_r hD) h
   |call g args he hk hc=>
    exact wf_callx he U E hk hc (okD_x hD) (wf_weak (fun g A=>by obtain⟨w,rfl,hw⟩:=A;cases w with
     |nil=>rfl
     |cons a b=>exact absurd (hw a (by simp)) a0g) h)
  cases gd with
  |none=>exact base
  |some jw=>
   obtain⟨j,w⟩:=jw
   exact wf_gt (A.on N) V base
 |false=>
  rw[N]at h
  have:=A.off N
  cases gd with
  |none=>exact absurd this id
  |some jw=>
   obtain⟨j,w⟩:=jw
   have Z:=wf_weak (e:= .v) (fun g A=>by rw[show g= .v from A];rfl) h
   rcases this with h1|h1
   ·exact wf_gn h1 E Z
   exact wf_gf h1 V E Z
theorem fg{q:Option Prop}{p:Prop}(h:andO q p):gp q/\p:=by
 cases q with
 |none=>exact⟨trivial,h⟩
 |some q=>exact h
theorem wo_row(N:W.OK P G0 K d_){hs:List (Nat×Hint)}: ∀{a:List Oper} {i:Nat} {S S':SS} {p:Prop} {fr:Fn} {H:Heap},d_ H->rgL P G0 W sz ops f hs i a S=some (S',p)->p->S.Rel f fr->
  (∀A H,d_ H->S'.Rel f A->WO P G0 K sz ops os k A H Q)->WO P G0 K sz ops (a++os) k fr H Q
 | [],i,S,S',p,fr,H,hH,h,_,hr,hk=>by simp only[rgL,a00,a05]at h;obtain⟨rfl,_⟩:=h;exact hk fr H hH hr
 |o::a,i,S,S',p,fr,H,hH,h,hp,hr,hk=>by
  unfold rgL at h;split at h
  ·cases h
  rename_i S1 q h1;split at h
  ·cases h
  rename_i S2 p2 h2;simp only[a00,a05]at h;obtain⟨rfl,rfl⟩:=h;obtain⟨hq,T⟩:=fg hp;obtain⟨d,c,G1,v,U,Z,e3,e4,e5,e6⟩:=gA N hr h1 hq;exact wo_do U Z e3 (fJ hr e4) e5 hH fun H' E=>wo_row N E h2 T e6 hk
def rs(i:Nat):List Oper->List (Nat×ID)->List (Nat×ID)
 | [],D=>D
 |_::a,D=>rs (i+1) a ((i,.r)::D)
theorem wf_row{hs:List (Nat×Hint)}: ∀{a:List Oper} {i:Nat} {D:List (Nat×ID)} {S S':SS} {p:Prop} {fr:Fn},D.all (fun e=>bnD e.2)=true->rgL P G0 (W0 P G0 K {H with log:=[]}) sz ops f hs i a S=some (S',p)->p->S.Rel f fr->
  (∀A,S'.Rel f A->WF2 P G0 K sz ops (rs i a D) (i+a.length) os k A H Q)->WF2 P G0 K sz ops D i (a++os) k fr H Q
 | [],i,D,S,S',p,fr,_,h,_,hr,hk=>by simp only[rgL,a00,a05]at h;obtain⟨rfl,_⟩:=h;exact hk fr hr
 |o::a,i,D,S,S',p,fr,hD,h,hp,hr,hk=>by
  unfold rgL at h;split at h
  ·cases h
  rename_i S1 q h1;split at h
  ·cases h
  rename_i S2 p2 h2;simp only[a00,a05]at h;obtain⟨rfl,rfl⟩:=h;obtain⟨hq,E⟩:=fg hp;obtain⟨d,c,G1,v,T,U,Z,e4,e5,e6⟩:=gA ok0 hr h1 hq;refine wf_do hD T U Z (fJ hr e4) (fun ha=>e5 ha _ V) (wf_row (by simp only[a0E,hD,a13];rfl) h2 E e6 fun A N=>?_);have:=hk A N;rw[a04,show i+(a.length+1)=i+1+a.length by omega]at this;exact this
theorem nK{m:List (Nat×Ch×Value)}{G:List (Nat×Bool)}(E:SS.Rel ⟨m,G⟩ f fr): ∀{A:List Nat} {l:List (Nat×Value)},fins m A=some l->aA fr l
 | [],l,h=>by simp only[fins,a00]at h;subst h;trivial
 |d::A,l,h=>by
  unfold fins at h;split at h
  ·rename_i v l' N T;simp only[a00]at h;subst h;exact⟨by have:=E.sl d [] v N;exact this,nK E T⟩
  cases h
theorem je{m:List (Nat×Ch×Value)}{G:List (Nat×Bool)}(U:SS.Rel ⟨m,G⟩ f fr){lo hi:Nat}{ex:List Nat}(h:m.all (fun e=>inR lo hi ex e.1)=true):Leaves lo hi ex f fr:=⟨fun j T=>by
 refine U.no j ?_;have E: ∀(m:List (Nat×Ch×Value)),m.all (fun e=>inR lo hi ex e.1)=true->lk m j=none:=by
  intro m;induction m with
  |nil=>intro _;rfl
  |cons e m ih=>
   obtain⟨s,x⟩:=e
   intro A
   simp only[a0E,a0a]at A
   show(bif Nat.beq s j then some x else lk m j)=none
   cases N:Nat.beq s j with
   |true=>have:=a0c N;subst this;rw[T]at A;cases A.1
   |false=>exact ih A.2
 exact E m h⟩
theorem rel0:SS.Rel ⟨[],[]⟩ f f:=⟨fun t c v h=>(by cases h),fun _ _=>rfl,fun s g h=>(by cases h),fun t c v h=>(by cases h)⟩
theorem top_ok{i:Nat}{a:List Oper}{hs:List (Nat×Hint)}{lo hi:Nat}{ex N:List Nat}{l:List (Nat×Value)}{p:Prop}(h:ge P G0 W sz ops f i a hs lo hi ex N=some (l,p)):
  ∃S,rgL P G0 W sz ops f hs i a ⟨[],[]⟩=some (S,p)/\∀fr,S.Rel f fr->∃g,fr=gJ (hav lo hi ex g f) l:=by
 unfold ge at h
 split at h
 ·cases h
 rename_i S Z T
 cases A:S.m.all (fun e=>inR lo hi ex e.1) with
 |false=>rw[A]at h;cases h
 |true=>
  rw[A]at h
  simp only[cond_true]at h
  split at h
  ·rename_i l' U;simp only[a00,a05]at h;obtain⟨rfl,rfl⟩:=h;refine⟨S,T,fun fr E=>⟨fr,?_⟩⟩;rw[←(je E A).eq,fb (nK E U)]
  cases h
theorem wk_rg{id:Nat}(hs:List (Nat×Hint))(lo hi:Nat)(ex:List Nat){A:List Nat}{l:List (Nat×Value)}{p:Prop}(h:ge P G0 (W0 P G0 K H) sz ops f 0 ops.toList hs lo hi ex A=some (l,p))(U:p)
  (T: ∀g,WK P G0 K sz .skip k (gJ (hav lo hi ex g f) l) H Q):WK P G0 K sz (.region id ops false) k f H Q:=by
 obtain⟨S,E,N⟩:=top_ok h
 refine ab ?_
 have:=wo_row (os:=[]) (k:=k) (Q:=Q) ok0 V E U rel0 (fun fr H' e Z=>by obtain⟨g,rfl⟩:=N fr Z;subst e;exact gL (T g))
 rwa [a0p]at this
theorem wk_rgD{id:Nat}(A:(bg ops&&P.follows .mixedOrders)=true)(hs:List (Nat×Hint))(lo hi:Nat)(ex:List Nat){E:List Nat}{l:List (Nat×Value)}{p:Prop}(h:ge P G0 (W0 P G0 K {H with log:=[]}) sz ops f 0 ops.toList hs lo hi ex E=some (l,p))(Z:p)
  (U: ∀g,WK P G0 K sz .skip k (gJ (hav lo hi ex g f) l) H Q):WK P G0 K sz (.region id ops true) k f H Q:=by
 obtain⟨S,N,T⟩:=top_ok h
 refine aC A ?_
 have:=wf_row (os:=[]) (k:=k) (Q:=Q) (D:=[]) V N Z rel0 (fun fr A=>by obtain⟨g,rfl⟩:=T fr A;exact gM (U g))
 rwa [a0p]at this
theorem wo_rg(n i:Nat)(hs:List (Nat×Hint))(lo hi:Nat)(ex:List Nat){os:List Oper}{A:List Nat}{l:List (Nat×Value)}{p:Prop}(h:ge P G0 (W0 P G0 K H) sz ops f i (dX os n) hs lo hi ex A=some (l,p))(U:p)
  (T: ∀g,WO P G0 K sz ops (d3 os n) k (gJ (hav lo hi ex g f) l) H Q):WO P G0 K sz ops os k f H Q:=by
 obtain⟨S,E,N⟩:=top_ok h
 have:=wo_row (os:=d3 os n) (k:=k) (Q:=Q) ok0 V E U rel0 (fun fr H' e Z=>by obtain⟨g,rfl⟩:=N fr Z;subst e;exact T g)
 rwa [bS,ca,a1f]at this
end
def foc:Nat->Code->List Fr->Code×List Fr
 |0,c,k=>(c,k)
 |n+1,.seq a b,k=>foc n a (.seq b::k)
 |n+1,.block id b,k=>foc n b (.block id::k)
 |n+1,.skip,.seq b::k=>foc n b k
 |n+1,.skip,.block _::k=>foc n .skip k
 |n+1,.exit id,.seq _::k=>foc n (.exit id) k
 |n+1,.exit id,.block id'::k=>bif Nat.beq id id' then foc n .skip k else foc n (.exit id) k
 |_+1,c,k=>(c,k)
section
variable {P:Program} {G:Nat} {K:bM} {sz:Nat} {Q:Ex->Fn->Heap->Prop} {f:Fn} {H:Heap}
theorem wk_foc': ∀(n:Nat) (c:Code) (k:List Fr),WK P G K sz (foc n c k).1 (foc n c k).2 f H Q->WK P G K sz c k f H Q:=by
 intro n;induction n with
 |zero=>intro c k h;exact h
 |succ n ih=>
  intro c k h
  cases c with
  |seq a b=>exact wk_seq (ih _ _ h)
  |block id b=>exact wk_block (ih _ _ h)
  |skip=>
   cases k with
   |nil=>exact h
   |cons x k=>
    cases x with
    |seq b=>exact wk_skip_seq (ih _ _ h)
    |block id=>exact nj (ih _ _ h)
  |exit id=>
   cases k with
   |nil=>exact h
   |cons x k=>
    cases x with
    |seq b=>exact wk_exit_seq (ih _ _ h)
    |block id'=>
     have A:WK P G K sz (bif Nat.beq id id' then foc n .skip k else foc n (.exit id) k).1 (bif Nat.beq id id' then foc n .skip k else foc n (.exit id) k).2 f H Q:=h
     cases E:Nat.beq id id' with
     |true=>
      have:=a0c E
      subst this
      rw[E]at A
      exact nk (ih _ _ A)
     |false=>
      rw[E]at A
      exact jT E (ih _ _ A)
  |_=>exact h
variable {c c1 c2:Code} {k k1 k2:List Fr}
theorem am(n:Nat)(A:foc n c k=(c1,k1))(h:WK P G K sz c1 k1 f H Q):WK P G K sz c k f H Q:=wk_foc' n c k (by rw[A];exact h)
theorem wk_if(n m:Nat){x:Operand}{a b:Code}{v:Bool}(hx:cJ f x= .bool v)(U:bo G x=true)(E:foc n a k=(c1,k1))(N:foc m b k=(c2,k2))(Z:v=true->WK P G K sz c1 k1 f H Q)(T:v=false->WK P G K sz c2 k2 f H Q):WK P G K sz (.cond x a b) k f H Q:=
 wk_cond hx U (fun A=>am n E (Z A)) (fun A=>am m N (T A))
theorem aX(n:Nat){x:Operand}{a b:Code}{v:Bool}(T:cJ f x= .bool v)(N:v=true)(E:bo G x=true)(A:foc n a k=(c1,k1))(h:WK P G K sz c1 k1 f H Q):WK P G K sz (.cond x a b) k f H Q:=wk_true T N E (am n A h)
theorem dy(n:Nat){x:Operand}{a b:Code}{v:Bool}(T:cJ f x= .bool v)(N:v=false)(E:bo G x=true)(A:foc n b k=(c1,k1))(h:WK P G K sz c1 k1 f H Q):WK P G K sz (.cond x a b) k f H Q:=wk_false T N E (am n A h)
theorem ba(d_:Fn->Heap->Prop)(E:(∀A H',d_ A H'->WK P G K sz .skip k A H' Q)->WK P G K sz c k f H Q)(N: ∀A H',d_ A H'->WK P G K sz .skip k A H' Q):WK P G K sz c k f H Q:=E N
theorem wr(n:Nat){id:Nat}{ops:Array Oper}(hs:List (Nat×Hint))(lo hi:Nat)(ex:List Nat)(l:List (Nat×Value)){p:Prop}(N:p)(h:ge P G (W0 P G K H) sz ops f 0 ops.toList hs lo hi ex (dJ Prod.fst l)=some (l,p))(A:foc n .skip k=(c1,k1))
  (E: ∀g,WK P G K sz c1 k1 (gJ (hav lo hi ex g f) l) H Q):WK P G K sz (.region id ops false) k f H Q:=wk_rg hs lo hi ex h N fun g=>am n A (E g)
theorem wrD(n:Nat){id:Nat}{ops:Array Oper}(hs:List (Nat×Hint))(lo hi:Nat)(ex:List Nat)(l:List (Nat×Value)){p:Prop}(N:p)(T:(bg ops&&P.follows .mixedOrders)=true)(h:ge P G (W0 P G K {H with log:=[]}) sz ops f 0 ops.toList hs lo hi ex (dJ Prod.fst l)=some (l,p))(A:foc n .skip k=(c1,k1))
  (E: ∀g,WK P G K sz c1 k1 (gJ (hav lo hi ex g f) l) H Q):WK P G K sz (.region id ops true) k f H Q:=wk_rgD T hs lo hi ex h N fun g=>am n A (E g)
theorem wro(n i:Nat){ops:Array Oper}{os A:List Oper}(hs:List (Nat×Hint))(lo hi:Nat)(ex:List Nat)(l:List (Nat×Value)){p:Prop}(T:p)(h:ge P G (W0 P G K H) sz ops f i (dX os n) hs lo hi ex (dJ Prod.fst l)=some (l,p))(E:d3 os n=A)
  (N: ∀g,WO P G K sz ops A k (gJ (hav lo hi ex g f) l) H Q):WO P G K sz ops os k f H Q:=wo_rg n i hs lo hi ex h T (by rw[E];exact N)
def HP(_:List (Nat×Hint))(p:Prop):Prop:=p
theorem Hn_:HP [] True:=trivial
theorem Ha_{hs:List (Nat×Hint)}{p q:Prop}(h:q)(r:HP hs p):HP hs (q/\p):=⟨h,r⟩
theorem Hl_(i:Nat){H:Heap}{t:TypeId}{a v:Value}{hs:List (Nat×Hint)}{p:Prop}(h:LDv P H t a v)(r:HP hs p):HP ((i,.o v)::hs) (LDv P H t a v/\p):=⟨h,r⟩
theorem Hc_(i:Nat){H:Heap}{g:FuncId}{args:List Value}{v:Value}{hs:List (Nat×Hint)}{p:Prop}(h:C P G K g args H fun v' H'=>v'=v/\H'=H)(r:HP hs p):HP ((i,.o v)::hs) ((C P G K g args H fun v' H'=>v'=v/\H'=H)/\p):=⟨h,r⟩
theorem Ho_(i:Nat)(x:Hint){hs:List (Nat×Hint)}{p q:Prop}(h:q)(r:HP hs p):HP ((i,x)::hs) (q/\p):=⟨h,r⟩
theorem Hw_(i:Nat)(x:Hint){hs:List (Nat×Hint)}{p:Prop}(r:HP hs p):HP ((i,x)::hs) p:=r
theorem wrp(n:Nat){id:Nat}{ops:Array Oper}{hs:List (Nat×Hint)}(lo hi:Nat)(ex:List Nat)(l:List (Nat×Value)){p:Prop}(N:HP hs p)(h:ge P G (W0 P G K H) sz ops f 0 ops.toList hs lo hi ex (dJ Prod.fst l)=some (l,p))(A:foc n .skip k=(c1,k1))
  (E: ∀g,WK P G K sz c1 k1 (gJ (hav lo hi ex g f) l) H Q):WK P G K sz (.region id ops false) k f H Q:=wr n hs lo hi ex l N h A E
theorem wrDp(n:Nat){id:Nat}{ops:Array Oper}{hs:List (Nat×Hint)}(lo hi:Nat)(ex:List Nat)(l:List (Nat×Value)){p:Prop}(N:HP hs p)(T:(bg ops&&P.follows .mixedOrders)=true)(h:ge P G (W0 P G K {H with log:=[]}) sz ops f 0 ops.toList hs lo hi ex (dJ Prod.fst l)=some (l,p))(A:foc n .skip k=(c1,k1))
  (E: ∀g,WK P G K sz c1 k1 (gJ (hav lo hi ex g f) l) H Q):WK P G K sz (.region id ops true) k f H Q:=wrD n hs lo hi ex l N T h A E
theorem bK(n i:Nat){ops:Array Oper}{os A:List Oper}{hs:List (Nat×Hint)}(lo hi:Nat)(ex:List Nat)(l:List (Nat×Value)){p:Prop}(T:HP hs p)(h:ge P G (W0 P G K H) sz ops f i (dX os n) hs lo hi ex (dJ Prod.fst l)=some (l,p))(E:d3 os n=A)
  (N: ∀g,WO P G K sz ops A k (gJ (hav lo hi ex g f) l) H Q):WO P G K sz ops os k f H Q:=wro n i hs lo hi ex l T h E N
theorem ae(n:Nat){ops:Array Oper}(A:foc n .skip k=(c1,k1))(h:WK P G K sz c1 k1 f H Q):WO P G K sz ops [] k f H Q:=gL (am n A h)
theorem aW(n:Nat){ops:Array Oper}{D:List (Nat×ID)}{i:Nat}(A:foc n .skip k=(c1,k1))(h:WK P G K sz c1 k1 f H Q):WF2 P G K sz ops D i [] k f H Q:=gM (am n A h)
end
theorem vA{a b:Prop}(h:a)(k:b):a/\b:=⟨h,k⟩
theorem vi{n:Int}(h: -9223372036854775808<=n/\n<9223372036854775808:=by first|(dsimp only;omega)|omega):rng .i64 n:=h
theorem vu{n:Int}(h:0<=n/\n<18446744073709551616):rng .u64 n:=h
section
variable {P:Program} {G:Nat} {K:bM} {H:Heap} {F:Fz} {B:Base} {L R:List Fp}
theorem ld1{b o i:Nat}{cs:List Value}{w:Value}{t:TypeId}(hc:HC H.get b o cs)(N:e7 P t=some false)(T:cs[i]?=some w):LDv P H t (.pointer (some ⟨b,o+i,none⟩)) w:=by obtain⟨all,U,Z,A,E⟩:=hc.get T;show ovl (H.loadV P t ⟨b,o+i,none⟩) H=_;unfold Heap.loadV;rw[N];simp only;unfold Heap.cellAt;simp only[A,fZ,E];rfl
theorem ldN{b o i n:Nat}{cs l:List Value}{t:TypeId}(hc:HC H.get b o cs)(U:e7 P t=some true)(hs:cW P t=some n)(Z:Nat.ble (i+n) cs.length=true)(A:dX (d3 cs i) n=l):LDv P H t (.pointer (some ⟨b,o+i,none⟩)) (.agg ⟨l⟩):=by obtain⟨all,aa,ro,E,N,T⟩:=hc.part (a08 Z);rw[bS,ca]at A;show ovl (H.loadV P t ⟨b,o+i,none⟩) H=_;unfold Heap.loadV;rw[U];simp only[hs];unfold Heap.loadN;rw[←A];simp only[E,bS,ca,bG,N,T,a11,cond_true];rfl
theorem hc0{b o:Nat}{cs:List Value}(h:HC H.get b o cs):HC ({H with log:=[]}:Heap).get b o cs:=h
theorem cq{f:FuncId}{args:List Value}{Q:Value->Heap->Prop}{v:Value}(h:C P G K f args H Q)(A: ∀v' H',Q v' H'->v'=v/\H'=H):C P G K f args H fun v' H'=>v'=v/\H'=H:=h.mono A
section
variable {α:Type} [Rp α] {v:Value} {l:List α}
theorem Sv.view{get:Nat->Option AObj}(h:Sv F get v l): ∃cf:Nat->List Value,∀(j:Nat),(∀d:α,j<l.length->Rp.rep F (cf j) (l.getD j d)/\HC get (sB v) (sO v+j *Rp.sz α) (cf j))/\(l.length<=j->cf j=[]):=by
 have h0: ∀j,∃cs,(∀(d:α),j<l.length->Rp.rep F cs (l.getD j d)/\HC get (sB v) (sO v+j *Rp.sz α) cs)/\(l.length<=j->cs=[]):=by
  intro j;by_cases A:j<l.length
  ·obtain⟨cs,N,T⟩:=h.at (a06 A);refine⟨cs,fun d _=>⟨?_,T⟩,fun h=>absurd h M⟩;rw[a03,a06 A];exact N
  exact⟨[],fun _ E=>absurd E A,fun _=>rfl⟩
 exact⟨fun j=>(h0 j).choose,fun j=>(h0 j).choose_spec⟩
abbrev VW(F:Fz)(get:Nat->Option AObj)(v:Value)(l:List α)(cf:Nat->List Value)(j:Nat):Prop:=(∀d:α,j<l.length->Rp.rep F (cf j) (l.getD j d)/\HC get (sB v) (sO v+j *Rp.sz α) (cf j))/\(l.length<=j->cf j=[])
theorem Sv.ix{get:Nat->Option AObj}(h:Sv F get v l){j:Int}(h0:0<=j:=by first|(dsimp only;omega)|omega)(A:j<l.length:=by first|(dsimp only;omega)|omega):IX v j:=by
 rcases h with⟨_,rfl⟩|⟨b,off,k,o,rfl,T,cs,N,ro,rfl,U,E,Z,h6⟩
 ·simp at A;omega
 exact⟨b,off,_,k,V,h0,A,E⟩
end
def sA:Value->Option Addr
 | .slice a _ _=>a
 |_=>none
def sK:Value->Nat
 | .slice _ _ k=>k
 |_=>0
abbrev cA(cs:List Value)(i:Nat):Option Addr:=sA (cs.getD i undef)
abbrev cK(cs:List Value)(i:Nat):Nat:=sK (cs.getD i undef)
end
theorem bZ{α:Type}{l:List α}{j:Nat}{d:α}(h:l.length<=j):l.getD j d=d:=by rw[a03,a0J h];rfl
section
variable {F:Fz} {get:Nat->Option AObj} {v:Value} {cf:Nat->List Value} {j:Nat}
theorem vI{l:List Int}(h:VW F get v l cf j)(N:j<l.length:=by first|(dsimp only;omega)|omega):HC get (sB v) (sO v+j *Rp.sz Int) [.int .i64 (l.getD j 0)]:=by obtain⟨⟨E,_⟩,A⟩:=h.1 0 N;rw[E]at A;exact A
theorem fI{l:List Int}(h:VW F get v l cf j):in64 (l.getD j 0):=by
 rcases a0k j l.length with hj|hj
 ·exact(h.1 0 hj).1.2
 rw[bZ hj];decide
theorem vB{l:List Bool}(h:VW F get v l cf j)(N:j<l.length:=by first|(dsimp only;omega)|omega):HC get (sB v) (sO v+j *Rp.sz Bool) [.bool (l.getD j false)]:=by obtain⟨E,A⟩:=h.1 false N;rw[show cf j=_ from E]at A;exact A
theorem vS{l:List Str}(h:VW F get v l cf j)(N:j<l.length:=by first|(dsimp only;omega)|omega):HC get (sB v) (sO v+j *Rp.sz Str) [.string ⟨⟨(l.getD j default).b⟩⟩]:=by obtain⟨E,A⟩:=h.1 default N;rw[show cf j=_ from E]at A;exact A
theorem vU{l:List U64}(h:VW F get v l cf j)(N:j<l.length:=by first|(dsimp only;omega)|omega):HC get (sB v) (sO v+j *Rp.sz U64) [.int .u64 (l.getD j default).n]:=by obtain⟨⟨E,_⟩,A⟩:=h.1 default N;rw[E]at A;exact A
theorem fU{l:List U64}(h:VW F get v l cf j):0<=(l.getD j default).n/\(l.getD j default).n<18446744073709551616:=by
 rcases a0k j l.length with hj|hj
 ·exact(h.1 default hj).1.2
 rw[bZ hj];exact⟨a1G _,by decide⟩
theorem vL{α:Type} [Rp α]{l:List (List α)}(h:VW F get v l cf j)(N:j<l.length:=by first|(dsimp only;omega)|omega):HC get (sB v) (sO v+j *Rp.sz (List α)) [.slice (cA (cf j) 0) (l.getD j default).length (cK (cf j) 0)]:=by obtain⟨⟨a,k,E,_⟩,A⟩:=h.1 default N;rw[E]at A⊢;exact A
theorem fL{α:Type} [Rp α]{l:List (List α)}(h:VW F get v l cf j):SR F (.slice (cA (cf j) 0) (l.getD j default).length (cK (cf j) 0)) (l.getD j default):=by
 rcases a0k j l.length with hj|hj
 ·obtain⟨⟨a,k,A,E⟩,_⟩:=h.1 default hj;rw[A];exact E
 rw[bZ hj,h.2 hj];exact SR.nil
theorem ap_callc{P:Program}{A:Operand}{d:Option Tmp}{ty:TypeId}{pos:String}{af:Array Edge}{gd:Option (Nat×Bool)}{H:Heap}{args:Array Operand}{E:Array TypeId}{i:FuncId}{fn:Func}{f:Fn}{l:List Value}{x y:Array Value}(Z:cJ f A= .func (.func i) x y)(T:P.funcs[i]?=some fn)(N:(fn.body.isSome&& !(fn.name== "runtime.NumGoroutine"))=true)(U:appL x.toList (appL (dJ (cJ f) args.toList) y.toList)=l):
  AP P (cJ f) ⟨d,.call ⟨.value A,args,E⟩,ty,pos,af,gd⟩ H (.enter i l,H):=by
 refine⟨?_⟩
 show fE (fV P (cJ f A) (dJ (cJ f) args.toList)) H=_
 rw[Z]
 unfold fV
 simp only[T,N,cond_true,U]
 rfl
end
theorem vq{a b:Int}(E:in64 a)(hb:b≠ -1):rng .i64 (a.tdiv b):=by
 show in64 _;by_cases h0:b=0
 ·subst h0;rw[Int.tdiv_zero];decide
 have A:(a.tdiv b).natAbs=a.natAbs/b.natAbs:=Int.natAbs_tdiv a b;by_cases N:b=1
 ·subst N;rw[Int.tdiv_one];exact E
 have T:2<=b.natAbs:=M
 have U:(a.tdiv b).natAbs *2<=a.natAbs:=by rw[A];exact a0e (Nat.mul_le_mul_left _ T) (Nat.div_mul_le_self _ _)
 obtain⟨Z,h7⟩:=E;clear A;constructor<;>omega
theorem ve{n m:Int}(h:n=m)(A: -9223372036854775808<=m/\m<9223372036854775808):n=m/\rng .i64 m:=⟨h,A⟩
section
variable {P:Program} {t:TypeId} {fs:Array Field} {xs ys:List Value} {bs:List Bool}
theorem agEq(A:xs.all noA0=true)(E:ys.all noA0=true)(T:P.underlying t=some (.struct fs))(hs:P.stoodInHeld t=false)(N:P.eqGuardType P.depth t=false)(h:EqFs P 9999 ⟨xs⟩ ⟨ys⟩ fs.toList bs):AGB P .eql t (.agg ⟨xs⟩) (.agg ⟨ys⟩) (.bool (bs.all id)):=
 fun _ _ _ _ _ _ _ _ _ _ U Z=>ap_agEq U Z A E T hs N h
theorem agNe(E:xs.all noA0=true)(N:ys.all noA0=true)(hu:P.underlying t=some (.struct fs))(hs:P.stoodInHeld t=false)(hg:P.eqGuardType P.depth t=false)(h:EqFs P 9999 ⟨xs⟩ ⟨ys⟩ fs.toList bs):AGB P .neq t (.agg ⟨xs⟩) (.agg ⟨ys⟩) (.bool (!bs.all id)):=by
 intro ρ x y yt d ty pos af gd H A T;refine⟨?_⟩;show aBin P ρ _ .neq t (ρ x) y H=_;rw[A];show bF P ρ _ H=_;unfold bF;have h1:((Op.binOp .neq t x y yt).operands.toList.all fun x=>jI (ρ x))=true:=by simp[Op.operands,A,T,iL E,iL N]
 simp only[h1,cond_true];have h2:aF P (execOp ρ ⟨d,.binOp .neq t x y yt,ty,pos,af,gd⟩)=some (.value (Value.bool (!bs.all id))):=by
  unfold execOp;simp only[A,T,aL];have U:aF P (eqGuard .neq t x y (.agg ⟨xs⟩) (.agg ⟨ys⟩))=some ():=by simp[eqGuard,hg]
  have Z:aF P (binOp .neq t (.agg ⟨xs⟩) (.agg ⟨ys⟩))=some (Value.bool (!bs.all id)):=by show aF P (Op.equal t (.agg ⟨xs⟩) (.agg ⟨ys⟩)>>=fun b=>(Pure.pure (Value.bool (!b)):Sem Value))=_;rw[aL,show Op.equal t (.agg ⟨xs⟩) (.agg ⟨ys⟩)=Op.equalIn (9999+1) t (.agg ⟨xs⟩) (.agg ⟨ys⟩) from V,eq_struct hu hs h];rfl
  simp only[U,Z,a0n];rfl
 rw[h2];rfl
end
section
variable {B:Base} {F:Fz} {H:Heap} {L R:List Fp} {x:Fp}
theorem HS.first(h:HS B F H (x::L) R):HS B F H [x] R:=HS.sub h (by simp)
theorem HS.didW{A:Heap}{W:List Nat}(h:HS (.of {A with log:=[]} W) F H L R): ∀b,b∈H.log->A.next<=b\/b∈W:=fun b E=>by
 rcases h.log b E with h1|h1|h1
 ·simp[Base.of]at h1
 ·exact .inl h1
 exact .inr h1
end
end Go.R
end
namespace Go.R
theorem over_all: ∀(cs A:List Value),cs.length=A.length->over cs A=A
 | [],[],_=>rfl
 | [],_::_,h=>by simp at h
 |_::_,[],h=>by simp at h
 |c::cs,v::A,h=>by show v::over cs A=_;rw[over_all cs A (by simpa using h)]
theorem iE{α:Type} [Rp α]{F:Fz}{c_ Y:α}{cl:List Value}(h:Rp.rep F cl Y): ∀cs,Rp.rep F cs c_->0+cl.length<=cs.length/\Rp.rep F (be cs 0 cl) Y:=by
 intro cs hc;have A:=Rp.len h;have E:=Rp.len hc;refine⟨by omega,?_⟩;have:be cs 0 cl=over cs cl:=by cases cs<;>rfl
 rw[this,over_all _ _ M];exact h
theorem HS.nin{B:Base}{F:Fz}{H:Heap}{L R:List Fp}(h:HS B F H L R){i j:Nat}{p q:Fp}(hi:L[i]?=some p)(hj:L[j]?=some q)(N:i≠j){b:Nat}(Z:b∈p.map Prod.fst):b∉q.map Prod.fst:=by
 intro hq;have hc:=h.callOwn hi;have A:=hc.nd;have T:q∈L.set i []:=by refine a0m (i:=j) ?_;rw[a1X N];exact hj
 simp only[a0X,a14,a0N,a0Z,a1m]at A;refine A.2.2 b Z b ?_ V;obtain⟨⟨U,o⟩,E,rfl⟩:=a0v.1 hq;exact a0v.2 ⟨(U,o),a0R.2 ⟨q,a1W _ T,E⟩,V⟩
theorem SR.len'{α:Type} [Rp α]{F:Fz}{a:Option Addr}{n k:Nat}{l:List α}(h:SR F (.slice a n k) l):l.length=n:=by obtain⟨A,E,e⟩:=Sv.shape h;injection e with _ e _;exact e.symm
theorem SR.norm{α:Type} [Rp α]{F:Fz}{a:Option Addr}{n k:Nat}{l:List α}(h:SR F (.slice a n k) l):SR F (.slice a l.length k) l:=by rw[h.len'];exact h
theorem HS.apq{B:Base}{F:Fz}{H:Heap}{L R:List Fp}(h:HS B F H L R){i:Nat}{p:Fp}(hi:L[i]?=some p): ∀b,b∈p.map Prod.fst->¬F b≠none:=by intro b N T;obtain⟨⟨E,o⟩,A,rfl⟩:=a0v.1 N;exact T (h.own p (.inl (a0m hi)) E o A).2.2
theorem SR.q{α:Type} [Rp α]{F:Fz}{a:Option Addr}{n k:Nat}{l:List α}(h:SR F (.slice a n k) l): ∀p,a=some p->F p.block≠none:=by
 intro p A;rcases h with⟨e,_⟩|⟨b,off,T,o,e,E,_⟩
 ·injection e with e1;rw[e1]at A;cases A
 injection e with e1;rw[e1]at A;obtain rfl:=Option.some.inj A;rw[show F b=some o from E];exact fun N=>by cases N
end Go.R
noncomputable section
set_option linter.unusedVariables false
namespace Go.R
open Go
section
variable {P:Program} {G:Nat} {K:bM} {sz:Nat} {Q:Ex->Fn->Heap->Prop} {ops:Array Oper} {D:List (Nat×ID)} {i:Nat} {os:List Oper} {k k1 k2:List Fr} {c c1 c2:Code} {f:Fn} {H H1:Heap} {v:Value}
variable {d:Tmp} {ty:TypeId} {pos:String} {af:Array Edge} {x y:Operand}
theorem zi(n m:Nat){a b:Code}{v:Bool}(U:v=true->WK P G K sz c1 k1 f H Q)(N:v=false->WK P G K sz c2 k2 f H Q)(Z:cJ f x= .bool v:=by rfl)(T:bo G x=true:=by rfl)(A:foc n a k=(c1,k1):=by rfl)(E:foc m b k=(c2,k2):=by rfl):WK P G K sz (.cond x a b) k f H Q:=wk_if n m Z T A E U N
theorem zd(n m:Nat){a b:Code}{p:Prop}{i:Decidable p}(U:p->WK P G K sz c1 k1 f H Q)(N: ¬p->WK P G K sz c2 k2 f H Q)(Z:cJ f x= .bool (@decide p i):=by rfl)(T:bo G x=true:=by rfl)(A:foc n a k=(c1,k1):=by rfl)(E:foc m b k=(c2,k2):=by rfl):WK P G K sz (.cond x a b) k f H Q:=wk_if n m Z T A E (fun h=>U (of_decide_eq_true h)) fun h=>N (of_decide_eq_false h)
theorem za(v:Value)(h:WO P G K sz ops os k (upd f d v) H Q)(N:cJ f x=v:=by rfl)(E:(Op.assign x).operands.toList.all (bo G)=true:=by rfl)(A:Nat.ble (d+1) sz=true:=by rfl):WO P G K sz ops (⟨some d,.assign x,ty,pos,af,none⟩::os) k f H Q:=wa v N E A h
theorem zm(v:Value)(h:WO P G K sz ops os k (upd f d v) H Q)(N:cJ f x=v:=by rfl)(E:(Op.move x).operands.toList.all (bo G)=true:=by rfl)(A:Nat.ble (d+1) sz=true:=by rfl):WO P G K sz ops (⟨some d,.move x,ty,pos,af,none⟩::os) k f H Q:=wm v N E A h
theorem zfm(v:Value)(h:WF2 P G K sz ops ((i,.v)::D) (i+1) os k (upd f d v) H Q)(N:cJ f x=v:=by rfl)(E:(Op.move x).operands.toList.all (bo G)=true:=by rfl)(A:Nat.ble (d+1) sz=true:=by rfl):WF2 P G K sz ops D i (⟨some d,.move x,ty,pos,af,none⟩::os) k f H Q:=fm v N E A h
theorem zc{args:Array Operand}{A:Array TypeId}{g:FuncId}{fn:Func}{l:List Value}{R:Value->Heap->Prop}(hc:C P G K g l H R)(h: ∀v E,R v E->WO P G K sz ops os k (upd f d v) E Q)(U:P.funcs[g]?=some fn:=by rfl)(N:(fn.body.isSome&& !(fn.name== "runtime.NumGoroutine"))=true:=by rfl)(Z:dJ (cJ f) args.toList=l:=by rfl)(ho:(Op.call ⟨.value (.func g),args,A⟩).operands.toList.all (bo G)=true:=by rfl)(T:Nat.ble (d+1) sz=true:=by rfl):
  WO P G K sz ops (⟨some d,.call ⟨.value (.func g),args,A⟩,ty,pos,af,none⟩::os) k f H Q:=kH (aP U N Z) ho T hc h
theorem zp{s:TypeId}{b o n:Nat}(A:Nat)(h:WF2 P G K sz ops ((i,.v)::D) (i+1) os k (upd f d (.pointer (some ⟨b,A,none⟩))) H Q)(U:cJ f x= .pointer (some ⟨b,o,none⟩):=by rfl)(E:iY P s (.pointer (some ⟨b,o,none⟩)) n=some (.pointer (some ⟨b,A,none⟩)):=by rfl)(T:(Op.fieldAddr s x n).operands.toList.all (bo G)=true:=by rfl)(N:Nat.ble (d+1) sz=true:=by rfl):WF2 P G K sz ops D i (⟨some d,.fieldAddr s x n,ty,pos,af,none⟩::os) k f H Q:=bj (ap_fa U E) T N (did_v V) (jg _) h
theorem zl{t:TypeId}{b o E:Nat}(j:Nat){cs:List Value}{w:Value}(hc:HC ({H with log:=[]}:Heap).get b o cs)(h:WF2 P G K sz ops ((i,.l b)::D) (i+1) os k (upd f d w) H Q)(A:cJ f x= .pointer (some ⟨b,E,none⟩):=by rfl)(N:e7 P t=some false:=by rfl)(U:E=o+j:=by rfl)(hv:cs[j]?=some w:=by rfl)(ho:(Op.load t x).operands.toList.all (bo G)=true:=by rfl)(T:Nat.ble (d+1) sz=true:=by rfl)(Z:okB ops i (.l b) D=true:=by rfl):WF2 P G K sz ops D i (⟨some d,.load t x,ty,pos,af,none⟩::os) k f H Q:=bj (fp (H:={H with log:=[]}) A N hc U hv) ho T (gf A) (kb Z) h
theorem zx(α:Type) [Rp α]{t e:TypeId}{ki:IntKind}{F:Fz}{l:List α}(j:Nat)(hs:Sv F ({H with log:=[]}:Heap).get v l)(h:WF2 P G K sz ops ((i,.v)::D) (i+1) os k (upd f d (.pointer (some ⟨sB v,sO v+j *Rp.sz α,none⟩))) H Q)(E:(j:Int)<l.length:=by first|(dsimp only;omega)|omega)(U:cJ f x=v:=by rfl)(hi:cJ f y= .int ki (j:Int):=by rfl)(T:P.underlying t=some (.slice e):=by rfl)(Z:cW P e=some (Rp.sz α):=by rfl)(N:(Op.indexAddr t x y).operands.toList.all (bo G)=true:=by rfl)(A:Nat.ble (d+1) sz=true:=by rfl):
  WF2 P G K sz ops D i (⟨some d,.indexAddr t x y,ty,pos,af,none⟩::os) k f H Q:=bj (ap_idxV (H:={H with log:=[]}) U hi T Z hs M E) N A (did_v rfl) (jg _) h
theorem zy(α:Type) [Rp α]{t e:TypeId}{ki:IntKind}{F:Fz}{l:List α}(j:Int)(hs:Sv F ({H with log:=[]}:Heap).get v l)(h:WF2 P G K sz ops ((i,.v)::D) (i+1) os k (upd f d (.pointer (some ⟨sB v,sO v+j.toNat *Rp.sz α,none⟩))) H Q)(h0:0<=j:=by first|(dsimp only;omega)|omega)(E:j<l.length:=by first|(dsimp only;omega)|omega)(U:cJ f x=v:=by rfl)(hi:cJ f y= .int ki j:=by rfl)(T:P.underlying t=some (.slice e):=by rfl)(Z:cW P e=some (Rp.sz α):=by rfl)(N:(Op.indexAddr t x y).operands.toList.all (bo G)=true:=by rfl)(A:Nat.ble (d+1) sz=true:=by rfl):
  WF2 P G K sz ops D i (⟨some d,.indexAddr t x y,ty,pos,af,none⟩::os) k f H Q:=bj (ap_idxV (H:={H with log:=[]}) U hi T Z hs h0 E) N A (did_v rfl) (jg _) h
end
open Go
class BV(v:Bool)(p q:outParam Prop):Prop where
 t:(v=true)=p
 e:(v=false)=q
instance (priority:=low) {v:Bool}:BV v (v=true) (v=false):=⟨V,V⟩
instance {p:Prop} {i:Decidable p}:BV (@decide p i) p (¬p):=⟨by simp,by simp⟩
instance {a b:Int}:BV (a==b) (a=b) (a≠b):=⟨by simp,by simp⟩
instance {a b:Int}:BV (a !=b) (a≠b) (a=b):=⟨by simp,by simp⟩
instance {a:Bool} {p q:Prop} [h:BV a p q]:BV (!a) q p:=⟨by rw[←h.e];simp,by rw[←h.t];simp⟩
instance {a b:Bool} {p q r s:Prop} [h:BV a p q] [k:BV b r s]:BV (a&&b) (p/\r) (p->s):=⟨by rw[←h.t,←k.t];simp,by rw[←h.t,←k.e];simp⟩
instance {a b:Bool} {p q r s:Prop} [h:BV a p q] [k:BV b r s]:BV (a||b) (p\/r) (q/\s):=⟨by rw[←h.t,←k.t];simp,by rw[←h.e,←k.e];simp⟩
section
variable {P:Program} {G:Nat} {K:bM} {sz:Nat} {Q:Ex->Fn->Heap->Prop} {k k1 k2:List Fr} {c1 c2:Code} {f:Fn} {H:Heap} {v:Bool} {x:Operand}
theorem zI(n m:Nat){a b:Code}{p q:Prop} [i:BV v p q](U:p->WK P G K sz c1 k1 f H Q)(N:q->WK P G K sz c2 k2 f H Q)(Z:cJ f x= .bool v:=by rfl)(T:bo G x=true:=by rfl)(A:foc n a k=(c1,k1):=by rfl)(E:foc m b k=(c2,k2):=by rfl):WK P G K sz (.cond x a b) k f H Q:=wk_if n m Z T A E (fun h=>U (i.t▸h)) fun h=>N (i.e▸h)
end
end Go.R
noncomputable section
set_option linter.unusedVariables false
namespace Go.R
def ownAt(L:List Fp)(q:Nat):Option (Nat×List Value):=match nth L q with
 |some [(b,.cells cs none false)]=>some (b,cs)
 |_=>none
theorem nF{L:List Fp}{q b:Nat}{cs:List Value}(h:ownAt L q=some (b,cs)):L[q]?=some [(b,.cells cs none false)]:=by
 unfold ownAt at h;split at h
 ·rename_i A;simp only[a00,a05]at h;obtain⟨rfl,rfl⟩:=h;rw[←fZ];exact A
 cases h
def WN:FW:=⟨fun _ _ _=>False,fun _ _ _=>False,fun _ _ _ _ _=>False,fun _ _ _ _ _=>False⟩
theorem okN{P:Program}{G0:Nat}{K:bM}{d_:Heap->Prop}:WN.OK P G0 K d_:=⟨fun h=>h.elim,fun h=>h.elim,fun h=>h.elim,fun h=>h.elim⟩
def ldR(P:Program)(t:TypeId)(cs:List Value)(o:Nat):Option Value:=match e7 P t with
 |some false=>nth cs o
 |some true=>match cW P t with
  |some n=>bif Nat.ble (o+n) (eA cs) then fcM (dX (d3 cs o) n) fun l=>some (.agg ⟨l⟩) else none
  |none=>none
 |none=>none
def stR(P:Program)(L:List Fp)(q b:Nat)(cs:List Value)(t:TypeId)(o:Nat)(v:Value):Option (List Fp):=match cW P t with
 |some n=>fcV v fun v=>fcM v.cells.toList fun cl=>bif Nat.beq (eA cl) n&&(Nat.ble (o+eA cl) (eA cs)&&ng Value.oneCell' cl) then
   fcL (be cs o cl) fun A=>fcL (L.set q [(b,.cells A none false)]) some
  else none
 |none=>none
def sgL(P:Program)(G0:Nat)(W:FW)(sz:Nat)(ops:Array Oper)(f:Fn)(hs:List (Nat×Hint)):Nat->List Oper->SS->List Fp->Option (SS×List Fp×Prop)
 |_,[],S,L=>some (S,L,True)
 |i,o::os,S,L=>match hintAt hs i with
  | .r q=>match ownAt L q,o.guard,o.op.operands.toList.all (bo G0)&&o.op.operands.toList.all (S.can []) with
   |some (b,cs),none,true=>match o.dst,o.op with
    |some d,.load t a=>match S.rd f a with
     | .pointer (some ⟨b',o',none⟩)=>match ldR P t cs o' with
      |some v=>bif Nat.ble (d+1) sz then match putS none [] S.G S.m d v with
        |some (S1,_)=>match sgL P G0 W sz ops f hs (i+1) os S1 L with
         |some (S2,L2,p)=>some (S2,L2,b'=b/\p)
         |none=>none
        |none=>none else none
      |none=>none
     |_=>none
    |none,.store t a x=>match S.rd f a with
     | .pointer (some ⟨b',o',none⟩)=>match stR P L q b cs t o' (S.rd f x) with
      |some L1=>match sgL P G0 WN sz ops f hs (i+1) os S L1 with
       |some (S2,L2,p)=>some (S2,L2,b'=b/\p)
       |none=>none
      |none=>none
     |_=>none
    |_,_=>none
   |_,_,_=>none
  |h=>match stepS P G0 W sz ops f S h o with
   |some (S1,q)=>match sgL P G0 W sz ops f hs (i+1) os S1 L with
    |some (S2,L2,p)=>some (S2,L2,andO q p)
    |none=>none
   |none=>none
section
variable {P:Program} {G0:Nat} {K:bM} {sz:Nat} {Q:Ex->Fn->Heap->Prop} {ops:Array Oper} {os:List Oper} {k:List Fr} {f fr:Fn} {H:Heap} {S:SS} {B:Base} {F:Fz} {L R:List Fp}
theorem ldR_ok{t:TypeId}{cs:List Value}{o b:Nat}{v:Value}{a:Operand}{ρ:Operand->Value}{d:Option Tmp}{ty:TypeId}{pos:String}{af:Array Edge}{gd:Option (Nat×Bool)}(hc:HC H.get b 0 cs)(N:ρ a= .pointer (some ⟨b,o,none⟩))(h:ldR P t cs o=some v):AP P ρ ⟨d,.load t a,ty,pos,af,gd⟩ H (.val v,H):=by
 unfold ldR at h;split at h
 ·rename_i A;exact fp (i:=o) N A hc (a1c _).symm (by rw[←fZ];exact h)
 ·rename_i A;split at h
  ·rename_i n T;cases E:Nat.ble (o+n) (eA cs) with
   |false=>rw[E]at h;cases h
   |true=>
    rw[E]at h
    simp only[cond_true,fcM_eq,a00]at h
    subst h
    exact gw (i:=o) N A T hc (a1c _).symm (by rw[←bG];exact E) V
  cases h
 cases h
theorem stR_ok{q b o:Nat}{cs:List Value}{t:TypeId}{v:Value}{E:List Fp}{a x:Operand}{ρ:Operand->Value}{d:Option Tmp}{ty:TypeId}{pos:String}{af:Array Edge}{gd:Option (Nat×Bool)}(hs:HS B F H L R)(U:L[q]?=some [(b,.cells cs none false)])(N:ρ a= .pointer (some ⟨b,o,none⟩))(Z:ρ x=v)(h:stR P L q b cs t o v=some E):
  ∃r:Rs,AP P ρ ⟨d,.store t a x,ty,pos,af,gd⟩ H (.skip,r.H)/\(HS B F r.H E R/\Wr H r.H [b]):=by
 unfold stR at h
 split at h
 ·rename_i n T;simp only[fcV_eq,fcM_eq,mN]at h;cases A:(Nat.beq (eA v.cells.toList) n&&(Nat.ble (o+eA v.cells.toList) (eA cs)&&ng Value.oneCell' v.cells.toList)) with
  |false=>rw[A]at h;cases h
  |true=>
   rw[A]at h
   simp only[cond_true,a00]at h
   subst h
   simp only[a0a,bG]at A
   exact rs_rec hs U N Z T V A.1 A.2.1 A.2.2 (by rw[mN])
 cases h
theorem io{a:Operand}(A:S.Rel f fr)(h:S.can [] a=true):cJ fr a=S.rd f a:=rd_ok (c:=[]) A V h
theorem kT{hs:List (Nat×Hint)}: ∀{a:List Oper} {i:Nat} {W:FW} {S S':SS} {L L':List Fp} {p:Prop} {fr:Fn} {H:Heap},W.OK P G0 K (· =H)->sgL P G0 W sz ops f hs i a S L=some (S',L',p)->p->S.Rel f fr->HS B F H L R->
  (∀A H',HS B F H' L' R->(a.all (fun o=>o.dst.isSome)=true->H'=H)->S'.Rel f A->WO P G0 K sz ops os k A H' Q)->WO P G0 K sz ops (a++os) k fr H Q
 | [],i,W,S,S',L,L',p,fr,H,hW,h,_,hr,hh,hk=>by simp only[sgL,a00,a05]at h;obtain⟨rfl,rfl,_⟩:=h;exact hk fr H hh (fun _=>rfl) hr
 |o::a,i,W,S,S',L,L',p,fr,H,hW,h,E,hr,hh,hk=>by
  unfold sgL at h;split at h
  ·rename_i q _;split at h
   ·rename_i b cs ho hg hc;rw[a0a]at hc;have hq:=nF ho;obtain⟨bk,op,ty,pos,af,gd⟩:=o;simp only at hg hc h;subst hg;split at h
    ·rename_i d t x;simp only[Op.operands,a0E,a1F,a13]at hc;split at h
     ·rename_i b' o' Z;split at h
      ·rename_i v e2;cases hb:Nat.ble (d+1) sz with
       |false=>rw[hb]at h;cases h
       |true=>
        rw[hb]at h
        simp only[cond_true]at h
        split at h
        ·rename_i S1 q1 e3;split at h
         ·rename_i S2 L2 p2 e4;simp only[a00,a05]at h;obtain⟨rfl,rfl,rfl⟩:=h;obtain⟨rfl,E⟩:=E;have h1:=(kX (m:=S.m) (G:=S.G) hr (c:=[]) (fun _ _ hm=>(a0g hm).elim) e3).1;exact cd (ldR_ok (HS.hc hh hq) (by rw[io hr hc.2];exact Z) e2) (by simp only[Op.operands,a0E,a1F,a13];exact hc.1) hb (kT hW e4 E h1 hh fun A H' T a2 U=>hk A H' T (fun N=>a2 (by simpa using N)) U)
         cases h
        cases h
      cases h
     cases h
    ·rename_i t x y;simp only[Op.operands,a0E,a1F,a13,a0a]at hc;split at h
     ·rename_i b' o' Z;split at h
      ·rename_i L1 e2;split at h
       ·rename_i S2 L2 p2 e4;simp only[a00,a05]at h;obtain⟨rfl,rfl,rfl⟩:=h;obtain⟨rfl,E⟩:=E;refine cL (stR_ok hh hq (by rw[io hr hc.2.1];exact Z) (io hr hc.2.2) e2) (by simp only[Op.operands,a0E,a1F,a13,a0a];exact hc.1) ?_;rintro _ H1 _ ⟨h5,_⟩;exact kT okN e4 E hr h5 fun A H' T a2 U=>hk A H' T (fun N=>by simp at N) U
       cases h
      cases h
     cases h
    cases h
   cases h
  split at h
  ·rename_i S1 q h1;split at h
   ·rename_i S2 L2 p2 h2;simp only[a00,a05]at h;obtain⟨rfl,rfl,rfl⟩:=h;obtain⟨hq,ax⟩:=fg E;obtain⟨d,c,G1,v,Z,e2,e3,e4,e5,e6⟩:=gA hW hr h1 hq;exact wo_do (d_:=(· =H)) Z e2 e3 (fJ hr e4) e5 V fun H' av=>by subst av;exact kT hW h2 ax e6 hh fun A H' T a2 U=>hk A H' T (fun N=>a2 (by simp only[a0E,a0a]at N;exact N.2)) U
   cases h
  cases h
def sdL(P:Program)(G0:Nat)(W:FW)(sz:Nat)(ops:Array Oper)(f:Fn)(hs:List (Nat×Hint)):Nat->List Oper->SS->List Fp->List (Nat×ID)->Option (SS×List Fp×List (Nat×ID)×Prop)
 |_,[],S,L,D=>some (S,L,D,True)
 |i,o::os,S,L,D=>match hintAt hs i with
  | .r q=>match ownAt L q,o.guard,o.op.operands.toList.all (bo G0)&&o.op.operands.toList.all (S.can []) with
   |some (b,cs),none,true=>match o.dst,o.op with
    |some d,.load t a=>match S.rd f a with
     | .pointer (some ⟨b',o',none⟩)=>match ldR P t cs o' with
      |some v=>bif Nat.ble (d+1) sz&&okB ops i (.l b') D then match putS none [] S.G S.m d v with
        |some (S1,_)=>match sdL P G0 W sz ops f hs (i+1) os S1 L ((i,.l b')::D) with
         |some (S2,L2,D2,p)=>some (S2,L2,D2,b'=b/\p)
         |none=>none
        |none=>none else none
      |none=>none
     |_=>none
    |none,.store t a x=>match S.rd f a with
     | .pointer (some ⟨b',o',none⟩)=>match stR P L q b cs t o' (S.rd f x),okB ops i (.x [b']) D with
      |some L1,true=>match sdL P G0 WN sz ops f hs (i+1) os S L1 ((i,.x [b'])::D) with
       |some (S2,L2,D2,p)=>some (S2,L2,D2,b'=b/\p)
       |none=>none
      |_,_=>none
     |_=>none
    |_,_=>none
   |_,_,_=>none
  |h=>match stepS P G0 W sz ops f S h o with
   |some (S1,q)=>bif aY o.op then match sdL P G0 W sz ops f hs (i+1) os S1 L ((i,.v)::D) with
     |some (S2,L2,D2,p)=>some (S2,L2,D2,andO q p)
     |none=>none
    else bif D.all (fun e=>bnD e.2) then match sdL P G0 W sz ops f hs (i+1) os S1 L ((i,.r)::D) with
     |some (S2,L2,D2,p)=>some (S2,L2,D2,andO q p)
     |none=>none
    else none
   |none=>none
theorem wf_doV{D:List (Nat×ID)}{i d:Nat}{o:Oper}{c:Ch}{E:List (Nat×Bool)}{v:Value}(U:aY o.op=true)(Z:o.dst=some d)(N:Nat.ble (d+1) sz=true)(ho:o.op.operands.toList.all (bo G0)=true)(T:GOK ops f fr S o.guard c E)
  (hp:act E c=true->PRes P G0 K (· ={H with log:=[]}) (cJ fr) ⟨some d,o.op,o.type,o.pos,o.after,none⟩ {H with log:=[]} v) (h:WF2 P G0 K sz ops ((i,.v)::D) (i+1) os k (upd fr d (bif act E c then v else undef)) H Q):WF2 P G0 K sz ops D i (o::os) k fr H Q:=by
 obtain⟨ag,op,ty,pos,af,gd⟩:=o
 simp only at U Z ho T hp
 subst Z
 cases A:act E c with
 |true=>
  rw[A]at h
  have base:WF2 P G0 K sz ops D i (⟨some d,op,ty,pos,af,none⟩::os) k fr H Q:=by
   cases hp A with
   |val hv'=>exact bj (id:= .v) hv' ho N (did_v U) (jg _) h
   |call g args he hk hc=>
    exfalso
    cases op<;>first|(cases hk;done)|(cases U;done)
  cases gd with
  |none=>exact base
  |some jw=>exact wf_gt (T.on A) V base
 |false=>
  rw[A]at h
  have:=T.off A
  cases gd with
  |none=>exact absurd this id
  |some jw=>
   rcases this with h1|h1
   ·exact wf_gn h1 N h
   exact wf_gf h1 V N h
theorem jD{hs:List (Nat×Hint)}: ∀{a:List Oper} {i:Nat} {W:FW} {S S':SS} {L L':List Fp} {D D':List (Nat×ID)} {p:Prop} {fr:Fn} {H:Heap},W.OK P G0 K (· ={H with log:=[]})->sdL P G0 W sz ops f hs i a S L D=some (S',L',D',p)->p->S.Rel f fr->HS B F H L R->
  (∀A H',HS B F H' L' R->(a.all (fun o=>o.dst.isSome)=true->H'=H)->S'.Rel f A->WF2 P G0 K sz ops D' (i+a.length) os k A H' Q)->WF2 P G0 K sz ops D i (a++os) k fr H Q
 | [],i,W,S,S',L,L',D,D',p,fr,H,hW,h,_,hr,hh,hk=>by simp only[sdL,a00,a05]at h;obtain⟨rfl,rfl,rfl,_⟩:=h;exact hk fr H hh (fun _=>rfl) hr
 |o::a,i,W,S,S',L,L',D,D',p,fr,H,hW,h,N,hr,hh,hk=>by
  rw[a04,show i+(a.length+1)=i+1+a.length by omega]at hk;unfold sdL at h;split at h
  ·rename_i q _;split at h
   ·rename_i b cs ho hg hc;rw[a0a]at hc;have hq:=nF ho;obtain⟨bz,op,ty,pos,af,gd⟩:=o;simp only at hg hc h;subst hg;split at h
    ·rename_i d t x;simp only[Op.operands,a0E,a1F,a13]at hc;split at h
     ·rename_i b' o' Z;split at h
      ·rename_i v e2;cases hb:(Nat.ble (d+1) sz&&okB ops i (.l b') D) with
       |false=>rw[hb]at h;cases h
       |true=>
        rw[hb]at h
        rw[a0a]at hb
        simp only[cond_true]at h
        split at h
        ·rename_i S1 q1 e3;split at h
         ·rename_i S2 L2 D2 p2 e4;simp only[a00,a05]at h;obtain⟨rfl,rfl,rfl,rfl⟩:=h;obtain⟨rfl,N⟩:=N;have h1:=(kX (m:=S.m) (G:=S.G) hr (c:=[]) (fun _ _ hm=>(a0g hm).elim) e3).1;have e5:cJ fr x= .pointer (some ⟨b',o',none⟩):=by rw[io hr hc.2];exact Z
          exact bj (id:= .l b') (ldR_ok (HS.hc hh.log0 hq) e5 e2) (by simp only[Op.operands,a0E,a1F,a13];exact hc.1) hb.1 (gf e5) (kb hb.2) (jD hW e4 N h1 hh fun A H' T a2 U=>hk A H' T (fun E=>a2 (by simpa using E)) U)
         cases h
        cases h
      cases h
     cases h
    ·rename_i t x y;simp only[Op.operands,a0E,a1F,a13,a0a]at hc;split at h
     ·rename_i b' o' Z;split at h
      ·rename_i L1 e2 e3;split at h
       ·rename_i S2 L2 D2 p2 e4;simp only[a00,a05]at h;obtain⟨rfl,rfl,rfl,rfl⟩:=h;obtain⟨rfl,N⟩:=N;refine gc (id:= .x [b']) (stR_ok hh.log0 hq (by rw[io hr hc.2.1];exact Z) (io hr hc.2.2) e2) (by simp only[Op.operands,a0E,a1F,a13,a0a];exact hc.1) ?_ (kb e3) ?_
        ·rintro _ H1 _ ⟨_,hwr⟩;exact dh V V (Wr.did hwr)
        rintro _ H1 _ ⟨h5,_⟩ l hl;exact jD okN e4 N hr (HS.lg h5 hh hl) fun A H' T a2 U=>hk A H' T (fun E=>by simp at E) U
       cases h
      cases h
     cases h
    cases h
   cases h
  split at h
  ·rename_i S1 q h1;cases hv:aY o.op with
   |true=>
    rw[hv]at h
    simp only[cond_true]at h
    split at h
    ·rename_i S2 L2 D2 p2 h2;simp only[a00,a05]at h;obtain⟨rfl,rfl,rfl,rfl⟩:=h;obtain⟨hq,aq⟩:=fg N;obtain⟨d,c,G1,v,Z,e2,e3,e4,e5,e6⟩:=gA hW hr h1 hq;exact wf_doV hv Z e2 e3 (fJ hr e4) (fun E=>e5 E _ V) (jD hW h2 aq e6 hh fun A H' T a2 U=>hk A H' T (fun E=>a2 (by simp only[a0E,a0a]at E;exact E.2)) U)
    cases h
   |false=>
    rw[hv]at h
    simp only[cond_false]at h
    cases hD:D.all (fun e=>bnD e.2) with
    |false=>rw[hD]at h;cases h
    |true=>
     rw[hD]at h
     simp only[cond_true]at h
     split at h
     ·rename_i S2 L2 D2 p2 h2;simp only[a00,a05]at h;obtain⟨rfl,rfl,rfl,rfl⟩:=h;obtain⟨hq,aq⟩:=fg N;obtain⟨d,c,G1,v,Z,e2,e3,e4,e5,e6⟩:=gA hW hr h1 hq;exact wf_do hD Z e2 e3 (fJ hr e4) (fun E=>e5 E _ V) (jD hW h2 aq e6 hh fun A H' T a2 U=>hk A H' T (fun E=>a2 (by simp only[a0E,a0a]at E;exact E.2)) U)
     cases h
  cases h
theorem Hr_(i q:Nat){b:Nat}{hs:List (Nat×Hint)}{p:Prop}(r:HP hs p):HP ((i,.r q)::hs) (b=b/\p):=⟨V,r⟩
def sgE(lo hi:Nat)(ex A:List Nat)(r:Option (SS×List Fp×Prop)):Option (List (Nat×Value)×List Fp×Prop):=match r with
 |none=>none
 |some (S,L,p)=>bif S.m.all (fun e=>inR lo hi ex e.1) then
   match fins S.m A with
   |some l=>some (l,L,p)
   |none=>none
  else none
def sdE(lo hi:Nat)(ex A:List Nat)(r:Option (SS×List Fp×List (Nat×ID)×Prop)):Option (List (Nat×Value)×List Fp×List (Nat×ID)×Prop):=match r with
 |none=>none
 |some (S,L,D,p)=>bif S.m.all (fun e=>inR lo hi ex e.1) then
   match fins S.m A with
   |some l=>some (l,L,D,p)
   |none=>none
  else none
theorem sgE_ok{lo hi:Nat}{ex T:List Nat}{r:Option (SS×List Fp×Prop)}{l:List (Nat×Value)}{E:List Fp}{p:Prop}(h:sgE lo hi ex T r=some (l,E,p)): ∃S,r=some (S,E,p)/\∀fr,S.Rel f fr->∃g,fr=gJ (hav lo hi ex g f) l:=by
 unfold sgE at h;split at h
 ·cases h
 rename_i S Z p1;cases A:S.m.all (fun e=>inR lo hi ex e.1) with
 |false=>rw[A]at h;cases h
 |true=>
  rw[A]at h
  simp only[cond_true]at h
  split at h
  ·rename_i l' U;simp only[a00,a05]at h;obtain⟨rfl,rfl,rfl⟩:=h;refine⟨S,V,fun fr N=>⟨fr,?_⟩⟩;rw[←(je N A).eq,fb (nK N U)]
  cases h
theorem sdE_ok{lo hi:Nat}{ex U:List Nat}{r:Option (SS×List Fp×List (Nat×ID)×Prop)}{l:List (Nat×Value)}{N:List Fp}{E:List (Nat×ID)}{p:Prop}(h:sdE lo hi ex U r=some (l,N,E,p)): ∃S,r=some (S,N,E,p)/\∀fr,S.Rel f fr->∃g,fr=gJ (hav lo hi ex g f) l:=by
 unfold sdE at h;split at h
 ·cases h
 rename_i S L1 D1 p1;cases A:S.m.all (fun e=>inR lo hi ex e.1) with
 |false=>rw[A]at h;cases h
 |true=>
  rw[A]at h
  simp only[cond_true]at h
  split at h
  ·rename_i l' Z;simp only[a00,a05]at h;obtain⟨rfl,rfl,rfl,rfl⟩:=h;refine⟨S,V,fun fr T=>⟨fr,?_⟩⟩;rw[←(je T A).eq,fb (nK T Z)]
  cases h
variable {c1:Code} {k1:List Fr}
theorem sgo(n i:Nat){A:List Oper}{hs:List (Nat×Hint)}(lo hi:Nat)(ex:List Nat)(l:List (Nat×Value)){E:List Fp}{p:Prop}(hp:HP hs p)(hh:HS B F H L R)(h:sgE lo hi ex (dJ Prod.fst l) (sgL P G0 (W0 P G0 K H) sz ops f hs i (dX os n) ⟨[],[]⟩ L)=some (l,E,p))(Z:d3 os n=A)
  (hk: ∀g H',HS B F H' E R->WO P G0 K sz ops A k (gJ (hav lo hi ex g f) l) H' Q):WO P G0 K sz ops os k f H Q:=by
 subst Z
 obtain⟨S,T,U⟩:=sgE_ok (f:=f) h
 have:=kT (os:=d3 os n) (k:=k) (Q:=Q) ok0 T hp rel0 hh (fun fr H' N _ hr=>by obtain⟨g,rfl⟩:=U fr hr;exact hk g H' N)
 rwa [bS,ca,a1f]at this
theorem sgr(n:Nat){id:Nat}{hs:List (Nat×Hint)}(lo hi:Nat)(ex:List Nat)(l:List (Nat×Value)){A:List Fp}{p:Prop}(hp:HP hs p)(Z:HS B F H L R)(h:sgE lo hi ex (dJ Prod.fst l) (sgL P G0 (W0 P G0 K H) sz ops f hs 0 ops.toList ⟨[],[]⟩ L)=some (l,A,p))(U:foc n .skip k=(c1,k1))
  (hk: ∀g H',HS B F H' A R->WK P G0 K sz c1 k1 (gJ (hav lo hi ex g f) l) H' Q):WK P G0 K sz (.region id ops false) k f H Q:=by
 obtain⟨S,N,T⟩:=sgE_ok (f:=f) h
 refine ab ?_
 have:=kT (os:=[]) (k:=k) (Q:=Q) ok0 N hp rel0 Z (fun fr H' E _ hr=>by obtain⟨g,rfl⟩:=T fr hr;exact gL (am n U (hk g H' E)))
 rwa [a0p]at this
theorem sdo(n:Nat){i i':Nat}{A:List Oper}{hs:List (Nat×Hint)}(lo hi:Nat)(ex:List Nat)(l:List (Nat×Value)){N:List Fp}{D E:List (Nat×ID)}{p:Prop}(hp:HP hs p)(hh:HS B F H L R)(h:sdE lo hi ex (dJ Prod.fst l) (sdL P G0 (W0 P G0 K {H with log:=[]}) sz ops f hs i (dX os n) ⟨[],[]⟩ L D)=some (l,N,E,p))(T:(d3 os n,i+(dX os n).length)=(A,i'))
  (hk: ∀g H',HS B F H' N R->WF2 P G0 K sz ops E i' A k (gJ (hav lo hi ex g f) l) H' Q):WF2 P G0 K sz ops D i os k f H Q:=by
 simp only[a05]at T
 obtain⟨rfl,rfl⟩:=T
 obtain⟨S,Z,h2⟩:=sdE_ok (f:=f) h
 have:=jD (os:=d3 os n) (k:=k) (Q:=Q) ok0 Z hp rel0 hh (fun fr H' U _ hr=>by obtain⟨g,rfl⟩:=h2 fr hr;exact hk g H' U)
 rwa [bS,ca,a1f]at this
theorem sdr(n:Nat){id:Nat}{hs:List (Nat×Hint)}(lo hi:Nat)(ex:List Nat)(l:List (Nat×Value)){E:List Fp}{T:List (Nat×ID)}{p:Prop}(hp:HP hs p)(hh:HS B F H L R)(A:(bg ops&&P.follows .mixedOrders)=true)(h:sdE lo hi ex (dJ Prod.fst l) (sdL P G0 (W0 P G0 K {H with log:=[]}) sz ops f hs 0 ops.toList ⟨[],[]⟩ L [])=some (l,E,T,p))(hf:foc n .skip k=(c1,k1))
  (hk: ∀g H',HS B F H' E R->WK P G0 K sz c1 k1 (gJ (hav lo hi ex g f) l) H' Q):WK P G0 K sz (.region id ops true) k f H Q:=by
 obtain⟨S,U,Z⟩:=sdE_ok (f:=f) h
 refine aC A ?_
 have:=jD (os:=[]) (k:=k) (Q:=Q) ok0 U hp rel0 hh (fun fr H' N _ A=>by obtain⟨g,rfl⟩:=Z fr A;exact gM (am n hf (hk g H' N)))
 rwa [a0p]at this
theorem aS(n i:Nat){E:List Oper}{hs:List (Nat×Hint)}(lo hi:Nat)(ex:List Nat)(l:List (Nat×Value)){N:List Fp}{p:Prop}(hp:HP hs p)(Z:HS B F H L R)(h:sgE lo hi ex (dJ Prod.fst l) (sgL P G0 (W0 P G0 K H) sz ops f hs i (dX os n) ⟨[],[]⟩ L)=some (l,N,p))(A:(d3 os n,(dX os n).all (fun o=>o.dst.isSome))=(E,true))
  (hk: ∀g,WO P G0 K sz ops E k (gJ (hav lo hi ex g f) l) H Q):WO P G0 K sz ops os k f H Q:=by
 simp only[a05]at A
 obtain⟨rfl,A⟩:=A
 obtain⟨S,T,U⟩:=sgE_ok (f:=f) h
 have:=kT (os:=d3 os n) (k:=k) (Q:=Q) ok0 T hp rel0 Z (fun fr H' ai e hr=>by obtain⟨g,rfl⟩:=U fr hr;rw[e A];exact hk g)
 rwa [bS,ca,a1f]at this
theorem aU(n:Nat){id:Nat}{hs:List (Nat×Hint)}(lo hi:Nat)(ex:List Nat)(l:List (Nat×Value)){E:List Fp}{p:Prop}(hp:HP hs p)(U:HS B F H L R)(h:sgE lo hi ex (dJ Prod.fst l) (sgL P G0 (W0 P G0 K H) sz ops f hs 0 ops.toList ⟨[],[]⟩ L)=some (l,E,p))(A:(foc n .skip k,ops.toList.all (fun o=>o.dst.isSome))=((c1,k1),true))
  (Z: ∀g,WK P G0 K sz c1 k1 (gJ (hav lo hi ex g f) l) H Q):WK P G0 K sz (.region id ops false) k f H Q:=by
 rw[a05]at A
 obtain⟨S,N,T⟩:=sgE_ok (f:=f) h
 refine ab ?_
 have:=kT (os:=[]) (k:=k) (Q:=Q) ok0 N hp rel0 U (fun fr H' ag e hr=>by obtain⟨g,rfl⟩:=T fr hr;rw[e A.2];exact gL (am n A.1 (Z g)))
 rwa [a0p]at this
theorem cN(n:Nat){i i':Nat}{E:List Oper}{hs:List (Nat×Hint)}(lo hi:Nat)(ex:List Nat)(l:List (Nat×Value)){T:List Fp}{D N:List (Nat×ID)}{p:Prop}(hp:HP hs p)(hh:HS B F H L R)(h:sdE lo hi ex (dJ Prod.fst l) (sdL P G0 (W0 P G0 K {H with log:=[]}) sz ops f hs i (dX os n) ⟨[],[]⟩ L D)=some (l,T,N,p))(A:(d3 os n,i+(dX os n).length,(dX os n).all (fun o=>o.dst.isSome))=(E,i',true))
  (hk: ∀g,WF2 P G0 K sz ops N i' E k (gJ (hav lo hi ex g f) l) H Q):WF2 P G0 K sz ops D i os k f H Q:=by
 simp only[a05]at A
 obtain⟨rfl,rfl,A⟩:=A
 obtain⟨S,U,Z⟩:=sdE_ok (f:=f) h
 have:=jD (os:=d3 os n) (k:=k) (Q:=Q) ok0 U hp rel0 hh (fun fr H' al e hr=>by obtain⟨g,rfl⟩:=Z fr hr;rw[e A];exact hk g)
 rwa [bS,ca,a1f]at this
theorem sdr0(n:Nat){id:Nat}{hs:List (Nat×Hint)}(lo hi:Nat)(ex:List Nat)(l:List (Nat×Value)){T:List Fp}{N:List (Nat×ID)}{p:Prop}(hp:HP hs p)(hh:HS B F H L R)(E:(bg ops&&P.follows .mixedOrders)=true)(h:sdE lo hi ex (dJ Prod.fst l) (sdL P G0 (W0 P G0 K {H with log:=[]}) sz ops f hs 0 ops.toList ⟨[],[]⟩ L [])=some (l,T,N,p))(A:(foc n .skip k,ops.toList.all (fun o=>o.dst.isSome))=((c1,k1),true))
  (hk: ∀g,WK P G0 K sz c1 k1 (gJ (hav lo hi ex g f) l) H Q):WK P G0 K sz (.region id ops true) k f H Q:=by
 rw[a05]at A
 obtain⟨S,U,Z⟩:=sdE_ok (f:=f) h
 refine aC E ?_
 have:=jD (os:=[]) (k:=k) (Q:=Q) ok0 U hp rel0 hh (fun fr H' ai e E=>by obtain⟨g,rfl⟩:=Z fr E;rw[e A.2];exact gM (am n A.1 (hk g)))
 rwa [a0p]at this
theorem wcD{D:List (Nat×ID)}{i j:Nat}{d:Tmp}{ty:TypeId}{pos:String}{af:Array Edge}{args:Array Operand}{N:Array TypeId}{g:FuncId}{fn:Func}{al:List Value}{T:Value->Heap->Prop}{q:Fp}(W:List Nat)(hh:HS B F H L R)(hq:L[j]?=some q)(hw:q.map Prod.fst=W)(hc:C P G0 K g al {H with log:=[]} T)
  (A:(P.funcs[g]?,dJ (cJ f) args.toList,Nat.ble (d+1) sz,(Op.call ⟨.value (.func g),args,N⟩).operands.toList.all (bo G0))=(some fn,al,true,true)) (U:(fn.body.isSome&& !(fn.name== "runtime.NumGoroutine"))=true) (an:okD ops i (.x W) D)
  (h: ∀v E,T v E->∃F' Z b_,HS (.of {H with log:=[]} W) F' E (Z::b_) (L.set j []++R)/\∀H3,HS B F' H3 (L.set j Z++b_) R->WF2 P G0 K sz ops ((i,.x W)::D) (i+1) os k (upd f d v) H3 Q):
  WF2 P G0 K sz ops D i (⟨some d,.call ⟨.value (.func g),args,N⟩,ty,pos,af,none⟩::os) k f H Q:=by
 subst hw
 simp only[a05]at A
 refine aQ (W:=q.map Prod.fst) (aP A.1 U A.2.1) A.2.2.2 A.2.2.1 V hc an ?_
 intro v E hT
 obtain⟨F',Z,b_,h1,h2⟩:=h v E hT
 refine⟨HS.didW h1,fun l hl=>h2 _ ?_⟩
 exact HS.lg (HS.backOwn hh.log0 hq V (fun _ U=>U) h1) hh hl
theorem HS.bO{W:List Nat}{p q:Fp}{b_:List Fp}{i:Nat}{F':Fz}{A H':Heap}(h:HS B F H L R)(k:HS (.of A W) F' H' (q::b_) (L.set i []++R))(hi:L[i]?=some p:=by rfl)(E:A=H:=by rfl)(N: ∀b,b∈W->b∈p.map Prod.fst:=by exact fun _ h=>h):HS B F' H' (L.set i q++b_) R:=by exact HS.backOwn h hi E N k
theorem zn{e:TypeId}{d:Tmp}{ty:TypeId}{pos:String}{af:Array Edge}{z:List Value}(E:HS B F H L R)(A:(cy P e,Nat.ble (d+1) sz)=(some z,true))(N: ∀b H1,HS B F H1 (L++[[(b,.cells z none false)]]) R->WO P G0 K sz ops os k (upd f d (.pointer (some ⟨b,0,none⟩))) H1 Q):WO P G0 K sz ops (⟨some d,.alloc e,ty,pos,af,none⟩::os) k f H Q:=by simp only[a05]at A;refine aT (rs_new E A.1) V A.2 ?_;rintro _ H1 _ ⟨b,rfl,h1,_⟩;exact N b H1 h1
theorem znD{D:List (Nat×ID)}{i:Nat}{e:TypeId}{d:Tmp}{ty:TypeId}{pos:String}{af:Array Edge}{z:List Value}(E:HS B F H L R)(A:(cy P e,Nat.ble (d+1) sz,okB ops i .a D)=(some z,true,true))(N: ∀b H1,HS B F H1 (L++[[(b,.cells z none false)]]) R->WF2 P G0 K sz ops ((i,.a)::D) (i+1) os k (upd f d (.pointer (some ⟨b,0,none⟩))) H1 Q):WF2 P G0 K sz ops D i (⟨some d,.alloc e,ty,pos,af,none⟩::os) k f H Q:=by simp only[a05]at A;refine eU (id:= .a) (rs_new E.log0 A.1) V A.2.1 (fun _ _ _ _=>did_a V V V) (kb A.2.2) ?_;rintro _ H1 _ ⟨b,rfl,h1,_⟩ l hl;exact N b _ (HS.lg h1 E hl)
def litL(P:Program)(f:Fn)(m:Nat)(t:TypeId)(n:Nat)(A:Array (Nat×Operand)):Option (List Value):=match dz P t with
 |some (s,z)=>bif Nat.beq s m&&Nat.ble (n *s) 16777216 then match fillL (fun i=>some (i *s,s)) (cp n z) (dJ (fun p=>(p.1,cJ f p.2)) A.toList) with
   |some cs=>fcM cs some
   |none=>none
  else none
 |none=>none
theorem litL_ok{m:Nat}{t:TypeId}{n:Nat}{A:Array (Nat×Operand)}{cs:List Value}(h:litL P f m t n A=some cs): ∃z,dz P t=some (m,z)/\Nat.ble (n *m) 16777216=true/\Instr.fill (fun i=>some (i *m,m)) ⟨cp n z⟩ (dJ (fun p=>(p.1,cJ f p.2)) A.toList)=some ⟨cs⟩:=by
 unfold litL at h;split at h
 ·rename_i s z e;cases E:(Nat.beq s m&&Nat.ble (n *s) 16777216) with
  |false=>rw[E]at h;cases h
  |true=>
   rw[E]at h
   simp only[cond_true]at h
   rw[a0a]at E
   have:=a0c E.1
   subst this
   split at h
   ·rename_i T N;rw[fcM_eq,a00]at h;subst h;exact⟨z,e,E.2,nL _ _ _ _ N⟩
   cases h
 cases h
theorem RL.nl{α:Type} [Rp α]:RL F [] ([]:List α):=rfl
theorem RL.cs{α:Type} [Rp α]{x:α}{l:List α}{c r:List Value}(h:Rp.rep F c x)(t:RL F r l):RL F (c++r) (x::l):=⟨c,r,V,h,t⟩
section
variable {α:Type} [Rp α] {d:Tmp} {ty:TypeId} {pos:String} {af:Array Edge} {D:List (Nat×ID)} {i:Nat}
theorem zlo{t:TypeId}{n:Nat}{A:Array (Nat×Operand)}{cells E:List Value}(l:List α)(hh:HS B F H L R)(N:(litL P f (Rp.sz α) t n A,Nat.ble (d+1) sz,(Op.buildSlice t n A).operands.toList.all (bo G0),eA l)=(some cells,true,true,n))(hr:RL F E l)(hc:cells=E)
  (hk: ∀a T p H1,OS F (.slice a l.length T) l p->HS B F H1 (L++[p]) R->WO P G0 K sz ops os k (upd f d (.slice a l.length T)) H1 Q):WO P G0 K sz ops (⟨some d,.buildSlice t n A,ty,pos,af,none⟩::os) k f H Q:=by
 subst hc
 simp only[a05]at N
 obtain⟨z,U,Z,h3⟩:=litL_ok N.1
 refine aT (rs_lit l hh V U Z h3 hr (by rw[←bG];exact N.2.2.2)) N.2.2.1 N.2.1 ?_
 rintro _ H1 p ⟨a,T,rfl,ho,h5,_⟩
 exact hk a T p H1 ho h5
theorem zld{t:TypeId}{n:Nat}{A:Array (Nat×Operand)}{cells E:List Value}(l:List α)(U:HS B F H L R)(N:(litL P f (Rp.sz α) t n A,Nat.ble (d+1) sz,(Op.buildSlice t n A).operands.toList.all (bo G0),eA l,okB ops i .a D)=(some cells,true,true,n,true))(hr:RL F E l)(hc:cells=E)
  (hk: ∀a T p H1,OS F (.slice a l.length T) l p->HS B F H1 (L++[p]) R->WF2 P G0 K sz ops ((i,.a)::D) (i+1) os k (upd f d (.slice a l.length T)) H1 Q):WF2 P G0 K sz ops D i (⟨some d,.buildSlice t n A,ty,pos,af,none⟩::os) k f H Q:=by
 subst hc
 simp only[a05]at N
 obtain⟨z,Z,h2,h3⟩:=litL_ok N.1
 refine eU (id:= .a) (rs_lit l U.log0 V Z h2 h3 hr (by rw[←bG];exact N.2.2.2.1)) N.2.2.1 N.2.1 (fun _ _ _ _=>did_a V V V) (kb N.2.2.2.2) ?_
 rintro _ H1 p ⟨a,T,rfl,ho,h5,_⟩ lg hl
 exact hk a T p _ ho (HS.lg h5 U hl)
theorem zao{s0 x0:Operand}{st e:TypeId}{v u:Value}{l N:List α}{p:Fp}{aa:Nat}{z:List Value}(q:Nat)(ho:OS F v l p)(hh:HS B F H L R)(hu:Sv F H.get u N)(E:(L[q]?,cJ f s0,cJ f x0,P.underlying st)=(some p,v,u,some (.slice e)))(T:(cW P e,eL P e,cy P e)=(some (Rp.sz α),some aa,some z))
  (A:(Nat.beq (eA z) (Rp.sz α)&&(Nat.ble aa 4096&&(!Nat.beq (Rp.sz α) 0&&(Nat.ble (d+1) sz&&(Op.call ⟨.builtin .append, #[s0,x0], #[st,st]⟩).operands.toList.all (bo G0)))))=true) (hl:l.length+N.length<=2147483648)
  (hk: ∀a U Z H1,OS F (.slice a (l++N).length U) (l++N) Z->HS B F H1 (L.set q Z) R->WO P G0 K sz ops os k (upd f d (.slice a (l++N).length U)) H1 Q):WO P G0 K sz ops (⟨some d,.call ⟨.builtin .append, #[s0,x0], #[st,st]⟩,ty,pos,af,none⟩::os) k f H Q:=by
 simp only[a05]at E T
 simp only[a0a,a0F]at A
 refine aT (rs_app ho hh E.1 E.2.1 E.2.2.1 hu E.2.2.2 T.1 T.2.1 T.2.2 A.1 A.2.1 A.2.2.1 hl) A.2.2.2.2 A.2.2.2.1 ?_
 rintro _ H1 Z ⟨a,U,rfl,h5,h6,_⟩
 exact hk a U Z H1 h5 h6
theorem zad{s0 x0:Operand}{st e:TypeId}{v u:Value}{l N:List α}{p:Fp}{aa:Nat}{z:List Value}(q:Nat)(ho:OS F v l p)(hh:HS B F H L R)(hu:Sv F H.get u N)(E:(L[q]?,cJ f s0,cJ f x0,P.underlying st)=(some p,v,u,some (.slice e)))(T:(cW P e,eL P e,cy P e)=(some (Rp.sz α),some aa,some z))
  (A:(Nat.beq (eA z) (Rp.sz α)&&(Nat.ble aa 4096&&(!Nat.beq (Rp.sz α) 0&&(Nat.ble (d+1) sz&&(Op.call ⟨.builtin .append, #[s0,x0], #[st,st]⟩).operands.toList.all (bo G0)))))=true) (hl:l.length+N.length<=2147483648) (al:okD ops i (.x (p.map Prod.fst)) D)
  (hk: ∀a U Z H1,OS F (.slice a (l++N).length U) (l++N) Z->HS B F H1 (L.set q Z) R->WF2 P G0 K sz ops ((i,.x (p.map Prod.fst))::D) (i+1) os k (upd f d (.slice a (l++N).length U)) H1 Q):WF2 P G0 K sz ops D i (⟨some d,.call ⟨.builtin .append, #[s0,x0], #[st,st]⟩,ty,pos,af,none⟩::os) k f H Q:=by
 simp only[a05]at E T
 simp only[a0a,a0F]at A
 refine eU (id:= .x (p.map Prod.fst)) (rs_app ho hh.log0 E.1 E.2.1 E.2.2.1 hu E.2.2.2 T.1 T.2.1 T.2.2 A.1 A.2.1 A.2.2.1 hl) A.2.2.2.2 A.2.2.2.1 ?_ al ?_
 ·rintro _ _ _ ⟨_,_,rfl,_,_,hwr⟩;exact dh V V (Wr.did hwr)
 rintro _ H1 Z ⟨a,U,rfl,h5,h6,_⟩ lg hl'
 exact hk a U Z _ h5 (HS.lg h6 hh hl')
end
end
def JJ(B:Base)(F:Fz)(L R:List Fp)(H:Heap):Prop:= ∃F',Fz.le F F'/\HS B F' H L R
section
variable {P:Program} {G:Nat} {K:bM} {sz:Nat} {Q:Ex->Fn->Heap->Prop} {f:Fn} {H:Heap} {B:Base} {F:Fz} {L R:List Fp} {c1:Code} {k k1:List Fr}
theorem jl0(hs:HS B F H L R){b:Nat}{cs:List Value}{w:Value}(t:TypeId)(i j:Nat)(A:e7 P t=some false)(h:L[j]?=some [(b,.cells cs none false)])(E:cs[i]?=some w): ∀H,JJ B F L R H->LDv P H t (.pointer (some ⟨b,i,none⟩)) w:=
 fun _ ⟨_,_,q⟩=>by have:=ld1 (o:=0) (HS.hc q h) A E;rwa [a1c]at this
theorem jn0(hs:HS B F H L R){b:Nat}{cs l:List Value}(t:TypeId)(i n j:Nat)(A:e7 P t=some true)(T:cW P t=some n)(h:L[j]?=some [(b,.cells cs none false)])(N:Nat.ble (i+n) cs.length=true)(E:dX (d3 cs i) n=l): ∀H,JJ B F L R H->LDv P H t (.pointer (some ⟨b,i,none⟩)) (.agg ⟨l⟩):=
 fun _ ⟨_,_,q⟩=>by have:=ldN (o:=0) (HS.hc q h) A T N E;rwa [a1c]at this
theorem jc(hs:HS B F H L R){g:FuncId}{args:List Value}{α:Type}{e:α->Value}{c_:α}(h: ∀A H1,Fz.le F A->HS (.of H1 []) A H1 [] (L++R)->C P G K g args H1 fun v N=> ∃(o:α) (E:Fz),Fz.le A E/\HS (.of H1 []) E N [] (L++R)/\v=e o/\o=c_):
  ∀H,JJ B F L R H->C P G K g args H fun v H'=>v=e c_/\JJ B F L R H':=
 fun H ⟨A,h1,q⟩=>(h A H h1 q.call).mono fun v H' ⟨o,E,h2,q2,e1,e2⟩=>⟨by rw[e1,e2],E,Fz.le_trans h1 h2,by
  have:=q.back V q2;rwa [a0p]at this⟩
end
section
variable {P:Program} {G0:Nat} {K:bM} {sz:Nat} {Q:Ex->Fn->Heap->Prop} {ops:Array Oper} {os:List Oper} {k k1:List Fr} {c1:Code} {f fr:Fn} {H:Heap} {S:SS} {B:Base} {F:Fz} {L R:List Fp}
theorem sj_row{hs:List (Nat×Hint)}: ∀{a:List Oper} {i:Nat} {S S':SS} {N:List Fp} {p:Prop} {fr:Fn} {H:Heap},JJ B F L R H->a.all (fun o=>o.dst.isSome)=true->sgL P G0 (WJ P G0 K (JJ B F L R)) sz ops f hs i a S L=some (S',N,p)->p->S.Rel f fr->
  (∀E H',JJ B F L R H'->S'.Rel f E->WO P G0 K sz ops os k E H' Q)->WO P G0 K sz ops (a++os) k fr H Q
 | [],i,S,S',N,p,fr,H,hJ,_,h,_,hr,hk=>by simp only[sgL,a00,a05]at h;obtain⟨rfl,_,_⟩:=h;exact hk fr H hJ hr
 |o::a,i,S,S',N,p,fr,H,hJ,hd,h,A,hr,hk=>by
  rw[a0E,a0a]at hd;unfold sgL at h;split at h
  ·rename_i q _;split at h
   ·rename_i b cs ho hg hc;rw[a0a]at hc;have hq:=nF ho;obtain⟨a4,op,ty,pos,af,gd⟩:=o;simp only at hg hc h hd;subst hg;split at h
    ·rename_i d t x;simp only[Op.operands,a0E,a1F,a13]at hc;split at h
     ·rename_i b' o' T;split at h
      ·rename_i v U;cases hb:Nat.ble (d+1) sz with
       |false=>rw[hb]at h;cases h
       |true=>
        rw[hb]at h
        simp only[cond_true]at h
        split at h
        ·rename_i S1 q1 Z;split at h
         ·rename_i S2 L2 p2 e4;simp only[a00,a05]at h;obtain⟨rfl,rfl,rfl⟩:=h;obtain⟨rfl,A⟩:=A;have h1:=(kX (m:=S.m) (G:=S.G) hr (c:=[]) (fun _ _ hm=>(a0g hm).elim) Z).1;obtain⟨F',al,hh⟩:=hJ;exact cd (ldR_ok (HS.hc hh hq) (by rw[io hr hc.2];exact T) U) (by simp only[Op.operands,a0E,a1F,a13];exact hc.1) hb (sj_row ⟨F',al,hh⟩ hd.2 e4 A h1 hk)
         cases h
        cases h
      cases h
     cases h
    ·cases hd.1
    cases h
   cases h
  split at h
  ·rename_i S1 q h1;split at h
   ·rename_i S2 L2 p2 h2;simp only[a00,a05]at h;obtain⟨rfl,rfl,rfl⟩:=h;obtain⟨hq,aq⟩:=fg A;obtain⟨d,c,G1,v,T,U,Z,e4,e5,e6⟩:=gA okJ hr h1 hq;exact wo_do T U Z (fJ hr e4) e5 hJ fun H' an=>sj_row an hd.2 h2 aq e6 hk
   cases h
  cases h
theorem sj(n:Nat){id:Nat}{hs:List (Nat×Hint)}(lo hi:Nat)(ex:List Nat)(l:List (Nat×Value)){p:Prop}(Z:HP hs p)(T:HS B F H L R)(h:sgE lo hi ex (dJ Prod.fst l) (sgL P G0 (WJ P G0 K (JJ B F L R)) sz ops f hs 0 ops.toList ⟨[],[]⟩ L)=some (l,L,p))(A:(foc n .skip k,ops.toList.all (fun o=>o.dst.isSome))=((c1,k1),true))
  (U: ∀g H F',Fz.le F F'->HS B F' H L R->WK P G0 K sz c1 k1 (gJ (hav lo hi ex g f) l) H Q):WK P G0 K sz (.region id ops false) k f H Q:=by
 rw[a05]at A
 obtain⟨S,E,N⟩:=sgE_ok (f:=f) h
 refine ab ?_
 have:=sj_row (os:=[]) (k:=k) (Q:=Q) ⟨F,Fz.le_refl F,T⟩ A.2 E Z rel0 (fun fr H' ⟨F',q1,q2⟩ hr=>by obtain⟨g,rfl⟩:=N fr hr;exact gL (am n A.1 (U g H' F' q1 q2)))
 rwa [a0p]at this
theorem Hk_(i:Nat){d_:Heap->Prop}{g:FuncId}{args:List Value}{v:Value}{hs:List (Nat×Hint)}{p:Prop}(h: ∀H,d_ H->C P G0 K g args H fun v' H'=>v'=v/\d_ H')(r:HP hs p):HP ((i,.o v)::hs) ((∀H,d_ H->C P G0 K g args H fun v' H'=>v'=v/\d_ H')/\p):=⟨h,r⟩
theorem bp(i:Nat){A w0:Bool}{H:Heap}{t:TypeId}{a v:Value}{hs:List (Nat×Hint)}{p:Prop}(h:A=w0->LDv P H t a v)(r:HP hs p):HP ((i,.o v)::hs) ((A=w0->LDv P H t a v)/\p):=⟨h,r⟩
theorem Hc1_(i:Nat){A w0:Bool}{H:Heap}{g:FuncId}{args:List Value}{v:Value}{hs:List (Nat×Hint)}{p:Prop}(h:A=w0->C P G0 K g args H fun v' H'=>v'=v/\H'=H)(r:HP hs p):HP ((i,.o v)::hs) ((A=w0->C P G0 K g args H fun v' H'=>v'=v/\H'=H)/\p):=⟨h,r⟩
theorem Hj1_(i:Nat){A w0:Bool}{d_:Heap->Prop}{t:TypeId}{a v:Value}{hs:List (Nat×Hint)}{p:Prop}(h:A=w0->∀H,d_ H->LDv P H t a v)(r:HP hs p):HP ((i,.o v)::hs) ((A=w0->∀H,d_ H->LDv P H t a v)/\p):=⟨h,r⟩
theorem Hk1_(i:Nat){A w0:Bool}{d_:Heap->Prop}{g:FuncId}{args:List Value}{v:Value}{hs:List (Nat×Hint)}{p:Prop}(h:A=w0->∀H,d_ H->C P G0 K g args H fun v' H'=>v'=v/\d_ H')(r:HP hs p):HP ((i,.o v)::hs) ((A=w0->∀H,d_ H->C P G0 K g args H fun v' H'=>v'=v/\d_ H')/\p):=⟨h,r⟩
theorem iu(i:Nat){A w0 E N:Bool}{H:Heap}{t:TypeId}{a v:Value}{hs:List (Nat×Hint)}{p:Prop}(h:A=w0->E=N->LDv P H t a v)(r:HP hs p):HP ((i,.o v)::hs) ((A=w0->E=N->LDv P H t a v)/\p):=⟨h,r⟩
theorem Hc2_(i:Nat){A w0 E N:Bool}{H:Heap}{g:FuncId}{args:List Value}{v:Value}{hs:List (Nat×Hint)}{p:Prop}(h:A=w0->E=N->C P G0 K g args H fun v' H'=>v'=v/\H'=H)(r:HP hs p):HP ((i,.o v)::hs) ((A=w0->E=N->C P G0 K g args H fun v' H'=>v'=v/\H'=H)/\p):=⟨h,r⟩
theorem Hl3_(i:Nat){A w0 E T N U:Bool}{H:Heap}{t:TypeId}{a v:Value}{hs:List (Nat×Hint)}{p:Prop}(h:A=w0->E=T->N=U->LDv P H t a v)(r:HP hs p):HP ((i,.o v)::hs) ((A=w0->E=T->N=U->LDv P H t a v)/\p):=⟨h,r⟩
theorem Hc3_(i:Nat){A w0 E T N U:Bool}{H:Heap}{g:FuncId}{args:List Value}{v:Value}{hs:List (Nat×Hint)}{p:Prop}(h:A=w0->E=T->N=U->C P G0 K g args H fun v' H'=>v'=v/\H'=H)(r:HP hs p):HP ((i,.o v)::hs) ((A=w0->E=T->N=U->C P G0 K g args H fun v' H'=>v'=v/\H'=H)/\p):=⟨h,r⟩
end
open Go
structure TabS(f:List UInt8->Option Value)(es:List (Value×Value)):Prop where
 key: ∀e,e∈es->∃k,e.1= .string ⟨⟨k⟩⟩
 at_: ∀k,findTab .string (.string ⟨⟨k⟩⟩) es=f k
section
variable {P:Program} {ρ:Operand->Value} {d:Option Tmp} {ty:TypeId} {pos:String} {af:Array Edge} {gd:Option (Nat×Bool)} {B:Base} {F:Fz} {H:Heap} {L R:List Fp} {f:List UInt8->Option Value} {es:List (Value×Value)}
end
def inS(l:List (List UInt8))(k:List UInt8):Option Value:=if k∈l then some (.bool true) else none
section
variable {P:Program} {ρ:Operand->Value} {d:Option Tmp} {ty:TypeId} {pos:String} {af:Array Edge} {gd:Option (Nat×Bool)} {B:Base} {F:Fz} {H:Heap} {L R:List Fp}
end
section
variable {P:Program} {B:Base} {F F':Fz} {H:Heap} {L R:List Fp} {b:Nat} {l:List (List UInt8)}
end
section
variable {P:Program} {ρ:Operand->Value} {d:Option Tmp} {ty:TypeId} {pos:String} {af:Array Edge} {gd:Option (Nat×Bool)} {B:Base} {F F':Fz} {H:Heap} {L R:List Fp} {b:Nat} {l:List (List UInt8×Int)} {k:List UInt8}
end
open Go
section
variable {P:Program} {ρ:Operand->Value} {d:Option Tmp} {ty:TypeId} {pos:String} {af:Array Edge} {gd:Option (Nat×Bool)} {B:Base} {F:Fz} {H:Heap} {L R:List Fp} {v:Value} {l:List UInt8} {p:Fp}
end
structure GdT where
 b:List UInt8
 a:Option Addr
 k:Nat
 p:Fp
 ok:OS (fun _=>none) (.slice a b.length k) b p
section
variable {B:Base} {F:Fz} {H:Heap} {L R:List Fp}
end
section
variable {B:Base} {F F':Fz} {H:Heap} {L R:List Fp}
theorem HS.flat(h:HS B F H L R){T:List Fp}(hp:T.flatten.Perm L.flatten):HS B F H T R:=by
 have hm: ∀p,p∈T->∀x,x∈p->∃E,E∈L/\x∈E:=fun p ag x hx=>a0R.1 (hp.mem_iff.1 (a0R.2 ⟨p,ag,hx⟩))
 refine⟨h.fz,fun p A b o N=>?_,?_,h.n0,h.log,fun p A b o N=>?_⟩
 ·rcases A with A|A
  ·obtain⟨E,U,Z⟩:=hm p A _ N;exact h.own E (.inl U) b o Z
  exact h.own p (.inr A) b o N
 ·have:=h.nd;rw[a0P]at this⊢;exact(((hp.append_right R.flatten).map _).nodup_iff).2 this
 obtain⟨E,U,Z⟩:=hm p A _ N;exact h.mine E U b o Z
theorem gq{α:Type}{L:List (List α)}{i:Nat}{p:List α}(q:List α)(hi:L[i]?=some p):((L.set i q).flatten++p).Perm (L.flatten++q):=by obtain⟨A,C,E,N⟩:=iS L i p q hi;rw[N,E];simp only[a0P,a0N,a0l];refine a0W _ ?_;refine List.Perm.trans (a0W q a1g) ?_;refine List.Perm.trans (a15 q p _) ?_;exact a0W p a1g
theorem HS.open(h:HS B F H L R){i:Nat}{p q r:Fp}(hi:L[i]?=some p)(T:p.Perm (q++r)):HS B F H (L.set i q++[r]) R:=by
 refine h.flat ?_;have A:=gq q hi;have E:((L.set i q).flatten++r++q).Perm (L.flatten++q):=by refine List.Perm.trans ?_ A;rw[a0l];exact a0W _ (a1g.trans T.symm)
 have N:=(a1B q).1 E;simpa[a0P] using N
theorem HS.close(h:HS B F H L R){i j:Nat}{p q r:Fp}(N:i≠j)(hi:L[i]?=some q)(hj:L[j]?=some r)(hp:p.Perm (q++r)):HS B F H ((L.set i p).set j []) R:=by
 refine h.flat ?_;have T:=gq p hi;have E:(L.set i p)[j]?=some r:=by rw[a1X N];exact hj
 have A:=gq [] E;rw[a0p]at A;have U:(((L.set i p).set j []).flatten++(r++q)).Perm (L.flatten++p):=by rw[←a0l];exact(A.append_right q).trans T
 have Z:(((L.set i p).set j []).flatten++p).Perm (L.flatten++p):=(a0W _ (hp.trans a1g)).trans U;exact(a1B p).1 Z
end
structure Hd where
 a:Option Addr
 n:Nat
 k:Nat
instance :Inhabited Hd:=⟨⟨none,0,0⟩⟩
def Hd.v(h:Hd):Value:= .slice h.a h.n h.k
instance :Rp Hd where
 sz:=1
 rep _ cs h:=cs=[.slice h.a h.n h.k]
 len:=by rintro F cs x rfl;rfl
 one:=by rintro F cs x rfl;rfl
 mono:=by intro F F' cs x _ h;exact h
theorem vH{F:Fz}{get:Nat->Option AObj}{v:Value}{l:List Hd}{cf:Nat->List Value}{j:Nat}(h:VW F get v l cf j)(N:j<l.length:=by first|(dsimp only;omega)|omega):
  HC get (sB v) (sO v+j *Rp.sz Hd) [.slice (l.getD j default).a (l.getD j default).n (l.getD j default).k]:=by
 obtain⟨E,A⟩:=h.1 default N
 rw[show cf j=_ from E]at A;exact A
def FAM{ι β:Type}(Ch:Fz->ι->β->Fp->Prop)(F:Fz):List ι->List β->Fp->Prop
 | [],[],p=>p=[]
 |h::hs,x::xs,p=> ∃q r,p=q++r/\Ch F h x q/\FAM Ch F hs xs r
 |_,_,_=>False
section
variable {ι β:Type} {Ch:Fz->ι->β->Fp->Prop} {F F':Fz}
theorem FAM.len: ∀{hs:List ι} {xs:List β} {p:Fp},FAM Ch F hs xs p->hs.length=xs.length
 | [],[],_,_=>rfl
 |_::_,_::_,_,⟨_,_,_,_,h⟩=>by rw[a04,a04,h.len]
 | [],_::_,_,h=>h.elim
 |_::_,[],_,h=>h.elim
theorem FAM.mono(A: ∀{h x q},Ch F h x q->Ch F' h x q): ∀{hs:List ι} {xs:List β} {p:Fp},FAM Ch F hs xs p->FAM Ch F' hs xs p
 | [],[],_,h=>h
 |_::_,_::_,_,⟨q,r,e,h1,h⟩=>⟨q,r,e,A h1,h.mono A⟩
 | [],_::_,_,h=>h.elim
 |_::_,[],_,h=>h.elim
theorem FAM.snoc{h0:ι}{E:β}{A:Fp}(k:Ch F h0 E A): ∀{hs:List ι} {xs:List β} {p:Fp},FAM Ch F hs xs p->FAM Ch F (hs++[h0]) (xs++[E]) (p++A)
 | [],[],p,h=>by have N:p=[]:=h;subst N;exact⟨A,[],by simp,k,V⟩
 |_::_,_::_,_,⟨q,r,e,h1,h⟩=>⟨q,r++A,by rw[e,a0l],h1,h.snoc k⟩
 | [],_::_,_,h=>h.elim
 |_::_,[],_,h=>h.elim
theorem FAM.rep{h0:ι}{A:β}(k:Ch F h0 A []): ∀n,FAM Ch F (List.replicate n h0) (List.replicate n A) []
 |0=>rfl
 |n+1=>⟨[],[],V,k,FAM.rep k n⟩
theorem FAM.take: ∀{hs:List ι} {xs:List β} {p:Fp} (n:Nat),FAM Ch F hs xs p->∃q r,p=q++r/\FAM Ch F (hs.take n) (xs.take n) q
 | [],[],p,n,h=>⟨[],p,V,by simp[FAM]⟩
 |_::_,_::_,p,0,_=>⟨[],p,V,by simp[FAM]⟩
 |_::_,_::_,_,n+1,⟨q,r,e,h1,h⟩=>by obtain⟨A,T,E,N⟩:=h.take n;exact⟨q++A,T,by rw[e,E,a0l],q,A,V,h1,N⟩
 | [],_::_,_,_,h=>h.elim
 |_::_,[],_,_,h=>h.elim
theorem FAM.open [Inhabited ι] [Inhabited β](Z: ∀{G G':Fz},G.le G'->∀{h x q},Ch G h x q->Ch G' h x q): ∀{hs:List ι} {xs:List β} {p:Fp} (i:Nat),FAM Ch F hs xs p->i<xs.length->
  ∃q r,p.Perm (q++r)/\Ch F (hs.getD i default) (xs.getD i default) r/\∀F',F.le F'->∀E T A,Ch F' E T A->∃N,N.Perm (q++A)/\FAM Ch F' (hs.set i E) (xs.set i T) N
 | [],[],_,i,_,hi=>by simp at hi
 |h::hs,x::xs,p,0,⟨q,r,e,h1,h2⟩,_=>by refine⟨r,q,by rw[e];exact a1g,h1,fun F' U E T A hc=>⟨A++r,a1g,A,r,V,hc,h2.mono (Z U)⟩⟩
 |h::hs,x::xs,p,i+1,⟨q,r,e,h1,h2⟩,hi=>by
  obtain⟨q1,r1,g1,g2,g3⟩:=FAM.open Z i h2 (by simpa using hi);refine⟨q++q1,r1,?_,by simpa using g2,fun F' U E T A hc=>?_⟩
  ·rw[e,a0l];exact a0W q g1
  obtain⟨N,g4,g5⟩:=g3 F' U E T A hc;exact⟨q++N,by rw[a0l];exact a0W q g4,q,N,V,Z U h1,by simpa using g5⟩
 | [],_::_,_,_,h,_=>h.elim
 |_::_,[],_,_,h,_=>h.elim
theorem FAM.at [Inhabited ι] [Inhabited β]: ∀{hs:List ι} {xs:List β} {p:Fp} (i:Nat),FAM Ch F hs xs p->i<xs.length->∃q,(∀x,x∈q->x∈p)/\Ch F (hs.getD i default) (xs.getD i default) q
 | [],[],_,i,_,hi=>by simp at hi
 |_::_,_::_,_,0,⟨q,r,e,h1,h2⟩,_=>⟨q,fun x A=>by rw[e];exact a09.2 (.inl A),h1⟩
 |_::hs,_::xs,_,i+1,⟨q,r,e,h1,h2⟩,hi=>by obtain⟨T,E,N⟩:=FAM.at i h2 (by simpa using hi);exact⟨T,fun x A=>by rw[e];exact a09.2 (.inr (E x A)),by simpa using N⟩
 | [],_::_,_,_,h,_=>h.elim
 |_::_,[],_,_,h,_=>h.elim
end
theorem eM{β:Type}{d:β}: ∀(l:List β) (i:Nat),l.set i (l.getD i d)=l
 | [],_=>rfl
 |_::_,0=>rfl
 |x::l,i+1=>by have:=eM (d:=d) l i;simp only[a2q,a24];rw[this]
section
variable {α:Type} [Rp α] {F F':Fz}
theorem OS.froz{v:Value}{l:List α}{p:Fp}(h:OS F v l p)(T:F.le F')(U: ∀b o,(b,o)∈p->F' b=some o):SR F' v l:=by
 rcases h with⟨A,E,_⟩|⟨b,off,k,cs,Z,A,E,N⟩
 ·exact .inl ⟨A,E⟩
 exact .inr ⟨b,off,k,_,A,U b _ (by rw[E];simp),N.mono T⟩
theorem SR.n{h:Hd}{l:List α}(k:SR F h.v l):h.n=l.length:=by obtain⟨a,A,e⟩:=Sv.shape k;unfold Hd.v at e;injection e
theorem RL.conv{β:Type} [Rp β]: ∀{l:List α} {m:List β} {cs:List Value},l.length=m.length->(∀(i:Nat) x y,l[i]?=some x->m[i]?=some y->∀c,Rp.rep F c x->Rp.rep F' c y)->RL F cs l->RL F' cs m
 | [],[],_,_,_,h=>h
 |x::l,y::m,cs,hl,hc,⟨c,r,e,h1,h2⟩=>⟨c,r,e,hc 0 x y V V c h1,RL.conv (by simpa using hl) (fun i a b A E=>hc (i+1) a b (by simpa using A) (by simpa using E)) h2⟩
theorem SR.conv{β:Type} [Rp β]{v:Value}{l:List α}{m:List β}(E:Rp.sz α=Rp.sz β)(h:SR F v l)(A:l.length=m.length)(hF:F.le F')(hc: ∀(i:Nat) x y,l[i]?=some x->m[i]?=some y->∀c,Rp.rep F c x->Rp.rep F' c y):SR F' v m:=by
 rcases h with⟨rfl,rfl⟩|⟨b,off,k,o,T,U,cs,N,ro,e,Z,h4,h5,h6⟩
 ·cases m with
  |nil=>exact .inl ⟨V,V⟩
  |cons _ _=>simp at A
 refine .inr ⟨b,off,k,o,by rw[←A];exact T,hF _ _ U,cs,N,ro,e,by rw[←E];exact Z,by rw[←A];exact h4,?_,by rw[←E];exact h6⟩;rw[←A,←E];exact RL.conv A hc h5
theorem SR.nin{B:Base}{H:Heap}{L R:List Fp}{v:Value}{l:List α}{i j:Nat}{p:Fp}(h:SR F v l)(s:HS B F H L R)(hi:L[i]?=some p)(U:j<l.length):sB v∉p.map Prod.fst:=by
 rcases h with⟨_,rfl⟩|⟨b,off,k,o,rfl,N,_⟩
 ·simp at U
 intro Z;obtain⟨⟨A,o'⟩,T,e⟩:=a0v.1 Z;have E:A=b:=e;subst E;have:=(s.own p (.inl (a0m hi)) A o' T).2.2;rw[N]at this;cases this
class Ri(α:Type) [Rp α]:Prop where
 ind: ∀{F F':Fz} {cs:List Value} {x:α},Rp.rep F cs x->Rp.rep F' cs x
instance :Ri Int:=⟨fun h=>h⟩
instance :Ri Bool:=⟨fun h=>h⟩
instance :Ri Str:=⟨fun h=>h⟩
instance :Ri U64:=⟨fun h=>h⟩
instance :Ri UInt8:=⟨fun h=>h⟩
instance :Ri Hd:=⟨fun h=>h⟩
theorem OS.ind [Ri α]{v:Value}{l:List α}{p:Fp}(h:OS F v l p):OS F' v l p:=by
 rcases h with h|⟨b,off,k,cs,opn,h1,h2,cs',opn',ro',e,h3,h4,h5,h6⟩
 ·exact .inl h
 exact .inr ⟨b,off,k,cs,opn,h1,h2,cs',opn',ro',e,h3,h4,RL.conv V (fun i x y E A c hc=>by rw[E]at A;cases A;exact Ri.ind hc) h5,h6⟩
end
class HasHd(ι:Type) where
 hd:ι->Hd
instance :HasHd Hd:=⟨fun h=>h⟩
def OH{ι α:Type} [HasHd ι] [Rp α](F:Fz)(h:ι)(l:List α)(p:Fp):Prop:=OS F (HasHd.hd h).v l p
abbrev SF{ι α:Type} [HasHd ι] [Rp α](F:Fz)(hs:List ι)(ls:List (List α))(p:Fp):Prop:=FAM (OH (ι:=ι) (α:=α)) F hs ls p
section
variable {ι α:Type} [HasHd ι] [Rp α] {F F':Fz} {B:Base} {H:Heap} {L R:List Fp} {hs:List ι} {ls:List (List α)} {p:Fp}
theorem SF.mono(A:F.le F')(h:SF F hs ls p):SF F' hs ls p:=FAM.mono (Ch:=OH (ι:=ι) (α:=α)) (fun k=>OS.mono (α:=α) A k) h
theorem SF.rep(n:Nat):SF F (List.replicate n (default:Hd)) (List.replicate n ([]:List α)) []:=FAM.rep (Ch:=OH (ι:=Hd) (α:=α)) (show OS F (Hd.v default) ([]:List α) [] from OS.nil) n
def SB(F:Fz)(hs:List ι)(ls:List (List α))(i:Nat)(p1:Fp):Prop:= ∀F',F.le F'->∀A l' N,OH F' A l' N->∃E,E.Perm (p1++N)/\SF F' (hs.set i A) (ls.set i l') E
theorem OS.nlen{a:Option Addr}{n k:Nat}{l:List α}{p:Fp}(h:OS F (.slice a n k) l p):n=l.length:=by obtain⟨A,E,e⟩:=h.shape;injection e
theorem SF.shutN{p1 N:Fp}{i:Nat}{l':List α}(E:ι)(w:SB F hs ls i p1)(hF:F.le F')(s:HS B F' H L R){q m:Nat}(T:q≠m)(hq:L[q]?=some p1)(hm:L[m]?=some N)
  (h:OS F' (HasHd.hd E).v l' N): ∃A,HS B F' H ((L.set q A).set m []) R/\SF F' (hs.set i E) (ls.set i l') A:=by
 obtain⟨A,U,Z⟩:=w F' hF E l' N h
 exact⟨A,s.close T hq hm U,Z⟩
theorem SF.add{l':List α}{E:Fp}(A:ι)(h:SF F hs ls p)(s:HS B F H L R){q m:Nat}(N:q≠m)(hq:L[q]?=some p)(U:L[m]?=some E)(Z:OS F (HasHd.hd A).v l' E):
  ∃T,HS B F H ((L.set q T).set m []) R/\SF F (hs++[A]) (ls++[l']) T:=
 ⟨p++E,s.close N hq U (.refl _),FAM.snoc (Ch:=OH (ι:=ι) (α:=α)) (h0:=A) Z h⟩
end
section
variable {ι α:Type} [HasHd ι] [Inhabited ι] [Rp α] {F F':Fz} {B:Base} {H:Heap} {L R:List Fp} {hs:List ι} {ls:List (List α)} {p:Fp}
theorem SF.open(h:SF F hs ls p)(s:HS B F H L R){q i:Nat}(Z:L[q]?=some p)(hi:i<ls.length):
  ∃p1 A,HS B F H (L.set q p1++[A]) R/\OS F (.slice (HasHd.hd (hs.getD i default)).a (HasHd.hd (hs.getD i default)).n (HasHd.hd (hs.getD i default)).k) (ls.getD i []) A/\SB F hs ls i p1:=by
 obtain⟨p1,A,E,N,T⟩:=FAM.open (Ch:=OH (ι:=ι) (α:=α)) (fun U _ _ _ k=>OS.mono (α:=α) U k) i h hi
 exact⟨p1,A,s.open Z E,N,T⟩
theorem SF.shut{p1 N:Fp}{i:Nat}{l':List α}(w:SB F hs ls i p1)(T:F.le F')(s:HS B F' H L R){q m:Nat}(A:q≠m)(Z:L[q]?=some p1)(U:L[m]?=some N)
  (h:OS F' (.slice (HasHd.hd (hs.getD i default)).a (HasHd.hd (hs.getD i default)).n (HasHd.hd (hs.getD i default)).k) l' N): ∃E,HS B F' H ((L.set q E).set m []) R/\SF F' hs (ls.set i l') E:=by
 have:=SF.shutN (hs.getD i default) w T s A Z U h
 rw[eM]at this;exact this
theorem SF.shut0{p1 N:Fp}{i:Nat}(w:SB F hs ls i p1)(T:F.le F')(s:HS B F' H L R){q m:Nat}(A:q≠m)(Z:L[q]?=some p1)(U:L[m]?=some N)
  (h:OS F' (.slice (HasHd.hd (hs.getD i default)).a (HasHd.hd (hs.getD i default)).n (HasHd.hd (hs.getD i default)).k) (ls.getD i []) N): ∃E,HS B F' H ((L.set q E).set m []) R/\SF F' hs ls E:=by
 have:=SF.shut w T s A Z U h
 rw[eM]at this;exact this
theorem SF.put(A:ι): ∀{hs:List ι} {ls:List (List α)} {p:Fp} {i:Nat},SF F hs ls p->HasHd.hd A=HasHd.hd (hs.getD i default)->SF F (hs.set i A) ls p
 | [],[],_,_,h,_=>h
 |_::_,_::_,_,0,⟨q,r,e,h1,h2⟩,he=>⟨q,r,e,by unfold OH at h1⊢;rw[he];exact h1,h2⟩
 |_::_,_::_,_,i+1,⟨q,r,e,h1,h2⟩,he=>⟨q,r,e,h1,SF.put A h2 (by simpa using he)⟩
 | [],_::_,_,_,h,_=>h.elim
 |_::_,[],_,_,h,_=>h.elim
theorem SF.freeze(h:SF F hs ls p)(s:HS B F H L R){q:Nat}(hq:L[q]?=some p): ∃F',F.le F'/\HS B F' H (L.set q []) R/\(∀i,i<ls.length->SR F' (HasHd.hd (hs.getD i default)).v (ls.getD i [])):=by obtain⟨F',A,T,U⟩:=s.freeze hq;refine⟨F',A,T,fun i hi=>?_⟩;obtain⟨r,E,N⟩:=FAM.at (Ch:=OH (ι:=ι) (α:=α)) i h hi;exact OS.froz (α:=α) N A fun b o Z=>U b o (E _ Z)
end
section
variable {α:Type} [Rp α] {F F':Fz} {B:Base} {H:Heap} {L R:List Fp}
theorem SR.rows{v:Value}{hs:List Hd}{ls:List (List α)}(h:SR F v hs)(Z:hs.length=ls.length)(k: ∀i,i<ls.length->SR F (HasHd.hd (hs.getD i default)).v (ls.getD i [])):SR F v ls:=by
 refine SR.conv (α:=Hd) (β:=List α) V h Z F.le_refl fun i x y hx N c hc=>?_
 have hi:=(a0u.1 N).1;have k1:=k i hi;have T:hs.getD i default=x:=by rw[a03,hx];rfl
 have U:ls.getD i []=y:=by rw[a03,N];rfl
 rw[T,U]at k1;have E:=SR.n (h:=x) k1;have A:c=[.slice x.a x.n x.k]:=hc;refine⟨x.a,x.k,by rw[←E];exact A,?_⟩;rw[←E];exact k1
theorem HS.thawX{F1 F2:Fz}{H':Heap}{b_:List Fp}{i:Nat}{p:Fp}(h:HS B F H L R)(hi:L[i]?=some p)(hF:F.le F1)(hp: ∀b o,(b,o)∈p->F1 b=some o)(U:F1.le F2)(k:HS B F2 H' (L.set i []++b_) R):HS B F H' (L++b_) R:=by
 obtain⟨A,C,e1,e2⟩:=fh L i p hi;have bk:p∈L:=a0m hi;have an: ∀b,F2 b=none->F b=none:=fun b N=>by
  cases hq:F b with
  |none=>rfl
  |some z=>rw[U _ _ (hF _ _ hq)]at N;cases N
 refine⟨fun b o N=>k.fz b o (U _ _ (hF _ _ N)),fun x E b o N=>?_,?_,k.n0,k.log,fun x E b o N=>?_⟩
 ·by_cases Z:x=p
  ·subst Z;obtain⟨g1,g2⟩:=k.fz b o (U _ _ (hp b o N));exact⟨g1,g2,(h.own x (.inl bk) b o N).2.2⟩
  have hk:x∈L.set i []++b_\/x∈R:=by
   rcases E with E|E
   ·rcases a09.1 E with E|E
    ·refine .inl (a09.2 (.inl ?_));rw[e2];rw[e1]at E;rcases a09.1 E with E|E
     ·exact a09.2 (.inl E)
     rcases a0w.1 E with E|E
     ·exact absurd E Z
     exact a09.2 (.inr (a0i _ E))
    exact .inl (a09.2 (.inr E))
   exact .inr E
  obtain⟨g1,g2,g3⟩:=k.own x hk b o N;exact⟨g1,g2,an b g3⟩
 ·have kn:=k.nd;have hn:=h.nd;rw[e2]at kn;rw[e1]at hn⊢;have ao: ∀a,a∈p.map Prod.fst->∀c,c∈b_.flatten.map Prod.fst->a≠c:=by rintro a T c hc rfl;obtain⟨⟨b,o⟩,N,rfl⟩:=a0v.1 T;obtain⟨⟨b',o'⟩,a8,e⟩:=a0v.1 hc;obtain⟨x,E,a9⟩:=a0R.1 a8;have e':b'=b:=e;subst e';have:=(k.own x (.inl (a09.2 (.inr E))) b' o' a9).2.2;rw[U _ _ (hp b' o N)]at this;cases this
  simp only[a0l,a0X,a0P,a0N,a0Z,a1m,a09,a14]at kn hn⊢;obtain⟨a1,⟨a2,⟨a3,a4,a5⟩,a6⟩,a7⟩:=kn;obtain⟨b1,⟨b2,⟨b3,b4,b5⟩,b6⟩,b7⟩:=hn;refine⟨a1,⟨b2,⟨a2,⟨a3,a4,a5⟩,a6⟩,fun a T c hc=>?_⟩,fun a T c hc=>?_⟩
  ·rcases hc with hc|hc|hc
   ·exact b6 a T c (.inl hc)
   ·exact ao a T c hc
   exact b6 a T c (.inr hc)
  rcases hc with hc|hc|hc|hc
  ·exact b7 a T c (.inl hc)
  ·exact a7 a T c (.inl hc)
  ·exact a7 a T c (.inr (.inl hc))
  exact b7 a T c (.inr (.inr hc))
 rcases a09.1 E with E|E
 ·exact h.mine x E b o N
 exact k.mine x (a09.2 (.inr E)) b o N
theorem HS.thawL{F2:Fz}{H':Heap}{U:List Fp}{i i':Nat}{p:Fp}(h:HS B F H L R)(hi:L[i]?=some p)(hF:F.le F2)(hp: ∀b o,(b,o)∈p->F2 b=some o)(ay:U[i']?=some [])(k:HS B F2 H' U R):HS B F H' (U.set i' p) R:=by
 obtain⟨A,C,Z,e2⟩:=iS U i' [] p ay;have aa:p∈L:=a0m hi;have aq: ∀b,F2 b=none->F b=none:=fun b N=>by
  cases hq:F b with
  |none=>rfl
  |some z=>rw[hF _ _ hq]at N;cases N
 have ag: ∀x,x∈U.set i' p\/x∈R->x=p\/(x∈U\/x∈R):=by
  intro x E;rcases E with E|E
  ·rw[e2]at E;rcases a09.1 E with E|E
   ·exact .inr (.inl (by rw[Z];exact a09.2 (.inl E)))
   rcases a0w.1 E with E|E
   ·exact .inl E
   exact .inr (.inl (by rw[Z];exact a09.2 (.inr (a0i _ E))))
  exact .inr (.inr E)
 refine⟨fun b o N=>k.fz b o (hF _ _ N),fun x E b o N=>?_,?_,k.n0,k.log,fun x E b o N=>?_⟩
 ·rcases ag x E with rfl|E
  ·obtain⟨g1,g2⟩:=k.fz b o (hp b o N);exact⟨g1,g2,(h.own x (.inl aa) b o N).2.2⟩
  obtain⟨g1,g2,g3⟩:=k.own x E b o N;exact⟨g1,g2,aq b g3⟩
 ·have kn:=k.nd;have hn:=h.nodup_of aa;have ar: ∀x,x∈U\/x∈R->∀a,a∈p.map Prod.fst->a∉x.map Prod.fst:=by intro x E a T hc;obtain⟨⟨b,o⟩,N,rfl⟩:=a0v.1 T;obtain⟨⟨b',o'⟩,ax,e⟩:=a0v.1 hc;have e':b'=b:=e;subst e';have:=(k.own x E b' o' ax).2.2;rw[hp b' o N]at this;cases this
  have ad: ∀(c_:List Fp),(∀x∈c_,x∈U\/x∈R)->∀a,a∈p.map Prod.fst->∀c,c∈c_.flatten.map Prod.fst->a≠c:=by rintro c_ hX a T c hc rfl;obtain⟨y,hy,e⟩:=a0v.1 hc;obtain⟨x,E,a6⟩:=a0R.1 hy;exact ar x (hX x E) a T (a0v.2 ⟨y,a6,e⟩)
  have hA:=ad A (fun x E=> .inl (by rw[Z];exact a09.2 (.inl E)));have hC:=ad C (fun x E=> .inl (by rw[Z];exact a09.2 (.inr (a0i _ E))));have hR:=ad R (fun x E=> .inr E);rw[Z]at kn;rw[e2];simp only[a0l,a0X,a0P,a0N,a0Z,a1m,a09,a14]at kn⊢;obtain⟨a1,⟨a2,a3,a4⟩,a5⟩:=kn;refine⟨a1,⟨hn,⟨a2,a3,a4⟩,fun a T c hc=>?_⟩,fun a T c hc=>?_⟩
  ·rcases hc with hc|hc
   ·exact hC a T c hc
   exact hR a T c hc
  rcases hc with hc|hc
  ·exact fun e=>hA c hc a T e.symm
  exact a5 a T c hc
 rcases ag x (.inl E) with rfl|hx'
 ·exact h.mine x aa b o N
 rw[e2]at E;rcases a09.1 E with E|E
 ·exact k.mine x (by rw[Z];exact a09.2 (.inl E)) b o N
 rcases a0w.1 E with rfl|E
 ·exact h.mine x aa b o N
 exact k.mine x (by rw[Z];exact a09.2 (.inr (a0i _ E))) b o N
end
section
variable {α:Type} [Rp α] {P:Program} {ρ:Operand->Value} {d:Option Tmp} {ty:TypeId} {pos:String} {af:Array Edge} {gd:Option (Nat×Bool)} {B:Base} {F:Fz} {H:Heap} {L R:List Fp} {v:Value} {l:List α} {p:Fp}
def At(α:Type) [Rp α](v:Value)(n i:Nat)(a:Option Addr):Prop:=n<=i\/a=some ⟨sB v,sO v+i *Rp.sz α,none⟩
theorem rs_cutX{x:Operand}{lo:Option Operand}{t e:TypeId}{i q:Nat}(h:OS F v l p)(hs:HS B F H L R)(hq:L[q]?=some p)(hx:ρ x=v)(Z:P.underlying t=some (.slice e))(hz:cW P e=some (Rp.sz α))
  (h2:bU 0 (lo.map ρ)=some i) (U:i<=l.length):
  ∃r:Rs,AP P ρ ⟨d,.slice t x lo none none,ty,pos,af,gd⟩ H (.val r.v,r.H)/\(∃a k,r.v= .slice a (l.drop i).length k/\r.H=H/\OS F (.slice a (l.drop i).length k) (l.drop i) p/\At α v l.length i a):=by
 have T: ∀w,bA P t v (lo.map ρ) none none H=some w->AP P ρ ⟨d,.slice t x lo none none,ty,pos,af,gd⟩ H (.val w,H):=by intro w hw;refine⟨?_⟩;show ovl (bA P t (ρ x) (lo.map ρ) (Option.map ρ none) (Option.map ρ none) H) H=_;rw[hx,a25,hw];rfl
 have h1:bU l.length (none:Option Value)=some l.length:=rfl
 have et:(l.take l.length).drop i=l.drop i:=by rw[a1e]
 rcases h with⟨rfl,rfl,rfl⟩|⟨b,off,k,cs,a4,rfl,rfl,g2⟩
 ·have ao:i=0:=by simpa using U
  subst ao;refine⟨⟨.slice none 0 0,H,[]⟩,T _ ?_,none,0,V,V,OS.nil,.inl (a0d _)⟩;unfold bA;have E:=lN (n:=0) (k:=0) (hi:=(none:Option Value)) V h2 (a0d 0) (a0d 0);simp only[Z,E,hz,Option.isSome_some,cond_true]
 have hb:=hs.get hq (a0b.2 V)
 have N:=Sl_cut (F:=F) g2 U (a0d _)
 rw[et]at N
 obtain⟨a3,a2,a5,e1,g1,g3,g4,g5⟩:=id g2
 injection e1 with e1 e2 e3
 subst e1 e2 e3
 have E:=lN (n:=l.length) (k:=k) (hi:=(none:Option Value)) h1 h2 U g3
 have A:(l.drop i).length=l.length-i:=a0H
 rcases g5 with rfl|rfl
 ·cases hk:Nat.beq k i with
  |true=>
   have ap:=a0c hk
   have e0:l.drop i=[]:=a0z (by rw[A];omega)
   refine⟨⟨.slice (some ⟨b,off,none⟩) (l.length-i) (k-i),H,[]⟩,T _ ?_,some ⟨b,off,none⟩,k-i,by rw[A],V,?_,.inl M⟩
   ·unfold bA;simp only[Z,E,hz,hb,hk,cond_true]
   rw[e0,ap,a1R]
   exact .inr ⟨b,off,0,cs,none,V,V,Sl_at0 (k:=k) (l:=l) g2⟩
  |false=>
   refine⟨⟨.slice (some ⟨b,off+i *Rp.sz α,none⟩) (l.length-i) (k-i),H,[]⟩,T _ ?_,_,k-i,by rw[A],V,.inr ⟨b,_,k-i,cs,none,V,V,N⟩,.inr V⟩
   unfold bA
   simp only[Z,E,hz,hb,hk,cond_false]
 refine⟨⟨.slice (some ⟨b,off+i *Rp.sz α,none⟩) (l.length-i) (k-i),H,[]⟩,T _ ?_,_,k-i,by rw[A],V,.inr ⟨b,_,k-i,cs,some (Rp.sz α),V,V,N⟩,.inr V⟩
 unfold bA
 simp only[Z,E,hz,hb,a11,cond_true]
def cpL(l:List α)(i:Nat)(A:List α):List α:=l.take i++(A.take (l.length-i)++l.drop (i+min A.length (l.length-i)))
theorem rs_cp{d0 s0:Operand}{t e:TypeId}{i q k1:Nat}{a1:Option Addr}{E:List α}{u:Value}(h:OS F v l p)(hs:HS B F H L R)(hq:L[q]?=some p)(hd:ρ d0= .slice a1 (l.drop i).length k1)(ha:At α v l.length i a1)(hi:i<=l.length)
  (h2:OS F u E p) (hx:ρ s0=u) (ht:P.underlying t=some (.slice e)) (hz:cW P e=some (Rp.sz α)):
  ∃r:Rs,AP P ρ ⟨d,.call ⟨.builtin .copy, #[d0,s0], #[t,t]⟩,ty,pos,af,gd⟩ H (.val r.v,r.H)/\(r.v= .int .i64 ((min E.length (l.length-i):Nat):Int)/\OS F v (cpL l i E) r.p/\HS B F r.H (L.set q r.p) R/\Wr H r.H (p.map Prod.fst)):=by
 have a8:(l.drop i).length=l.length-i:=a0H
 have hm:lenA u=some E.length:=(h2.sv hs hq).first.1
 have a2: ∀w H1,ot P #[t,t] (.slice a1 (l.length-i) k1) u H=some (w,H1)->AP P ρ ⟨d,.call ⟨.builtin .copy, #[d0,s0], #[t,t]⟩,ty,pos,af,gd⟩ H (.val w,H1):=by intro w H1 hw;refine⟨?_⟩;show ovh (ot P #[t,t] (ρ d0) (ρ s0) H)=_;rw[hd,hx,a8,hw];rfl
 have bb:L.set q p=L:=by obtain⟨A,C,e1,e2⟩:=fh L q p hq;rw[e2 p,←e1]
 cases hn:Nat.beq (min E.length (l.length-i)) 0 with
 |true=>
  have T:=a0c hn
  refine⟨⟨.int .i64 ((min E.length (l.length-i):Nat):Int),H,p⟩,a2 _ _ ?_,V,?_,by rw[bb];exact hs,fun b hb=> .inl hb⟩
  ·unfold ot;simp only[a2d,a0V,ht,hm,hz];rw[show Nat.min E.length (l.length-i)=min E.length (l.length-i) from V,hn,T];rfl
  have e:cpL l i E=l:=by unfold cpL;rw[T,a2s];have:E.take (l.length-i)=[]:=a0z (by rw[a0o,Nat.min_comm];exact T);rw[this,a14,a1f]
  rw[e];exact h
 |false=>
  have T:min E.length (l.length-i)≠0:=fun e=>by rw[e]at hn;cases hn
  rcases ha with ha|ha
  ·omega
  subst ha
  rcases h with⟨rfl,rfl,rfl⟩|⟨b,off,k,cs,U,rfl,rfl,dd,c0,ds,e1,g1,g3,g4,g5⟩
  ·simp at T
  injection e1 with e1 e2 e3
  subst e1 e2 e3
  replace g1:=g1 V
  have hb:=hs.get hq (b:=b) (o:= .cells cs U false) (a0b.2 V)
  let n:=min E.length (l.length-i)
  obtain⟨N,a9,aq⟩: ∃N,fk H (Rp.sz α) n u=some N/\RL F N (E.take n):=by
   rcases h2 with⟨rfl,rfl,h3⟩|⟨b2,ar,k2,dj,c9,rfl,e2,g6⟩
   ·cases h3
   simp only[a2o,a05,AObj.cells.injEq,and_true]at e2;obtain⟨rfl,rfl,rfl⟩:=e2;have an:(E.take n).length=n:=by rw[a0o];omega
   have h3:Sv F H.get (.slice (some ⟨b,ar,none⟩) (E.take n).length k2) (E.take n):=by obtain⟨c1,c2,c3,c4,c5,c6,c7,c8⟩:=g6;refine .inr ⟨b,ar,k2,_,V,hb,c1,c2,c3,c4,c5,by rw[an];omega,?_,c8⟩;have h4:=c7.take n;rw[a2v,a1S (a0B _ M)]at h4;rw[an];exact h4
   obtain⟨_,N,h4,h5⟩:=h3.first;rw[an]at h4;exact⟨N,h4,h5⟩
  have Z:=aq.length
  have b0:(E.take n).length=n:=by rw[a0o];omega
  rw[b0]at Z
  have a0:(i+n) *Rp.sz α<=l.length *Rp.sz α:=a0B _ M
  have dl:l.length *Rp.sz α<=k *Rp.sz α:=a0B _ g3
  have ai:off+i *Rp.sz α+N.length<=cs.length:=by rw[Z];rw[a12]at a0;omega
  have b1:=iD (b:=b) (o:=off+i *Rp.sz α) hb ai aq.one
  have al:(cpL l i E).length=l.length:=by unfold cpL;simp only[a02,a0o,a0H];omega
  have hw:=hs.wr (H1:=H.put b (.cells (be cs (off+i *Rp.sz α) N) U false)) (q:=[(b,.cells (be cs (off+i *Rp.sz α) N) U false)]) hq fun k=>⟨F,F.le_refl,by simpa using k.put (i:=0) V⟩
  obtain⟨F',dk,dn,b4⟩:=hw
  refine⟨⟨.int .i64 ((n:Nat):Int),_,[(b,.cells (be cs (off+i *Rp.sz α) N) U false)]⟩,a2 _ _ ?_,V,.inr ⟨b,off,k,_,U,by rw[al],V,_,_,_,V,fun _=>by rw[cg _ _ _ ai];exact g1,by rw[al];exact g3,?_,g5⟩,hs.put hq,b4⟩
  ·unfold ot;simp only[a2d,a0V,ht,hm,hz];rw[show Nat.min E.length (l.length-i)=min E.length (l.length-i) from V,hn];simp only[cond_false];rw[show fk H (Rp.sz α) (min E.length (l.length-i)) u=some N from a9];simp only;rw[show(⟨sB (Value.slice (some ⟨b,off,none⟩) l.length k),sO (Value.slice (some ⟨b,off,none⟩) l.length k)+i *Rp.sz α,none⟩:Addr)=⟨b,off+i *Rp.sz α,none⟩ from V,b1];rfl
  rw[al]
  have hX:((cs.drop off).take (l.length *Rp.sz α)).length=l.length *Rp.sz α:=g4.length
  have ay:i *Rp.sz α+N.length<=((cs.drop off).take (l.length *Rp.sz α)).length:=by rw[hX,Z];rw[a12]at a0;omega
  have b6:((be cs (off+i *Rp.sz α) N).drop off).take (l.length *Rp.sz α)=be ((cs.drop off).take (l.length *Rp.sz α)) (i *Rp.sz α) N:=by
   apply a1l;intro q;rw[br _ _ _ _ ay,a0A,a0L,br _ _ _ _ ai];by_cases c1:q<l.length *Rp.sz α
   ·rw[if_pos c1];by_cases c2:i *Rp.sz α<=q/\q<i *Rp.sz α+N.length
    ·rw[if_pos M,if_pos c2];congr 1;omega
    rw[if_neg M,if_neg c2,a0A,if_pos c1,a0L]
   rw[if_neg c1,if_neg M,a0A,if_neg c1]
  rw[b6,kR _ _ _ ay]
  unfold cpL
  have e3:E.take (l.length-i)=E.take n:=by
   rcases Nat.le_total E.length (l.length-i) with hc|hc
   ·rw[a0h hc,a0h M]
   congr 1;omega
  rw[e3,a0l]
  refine(g4.take i).append (aq.append ?_)
  have:=g4.drop (i+n)
  rw[Z,←a12];exact this
end
def tb(a:Int)(i:Nat):Bool:=a.toNat.testBit i
abbrev iA(a:Int):Prop:=0<=a/\a<18446744073709551616
theorem fO(op:BinOp)(a b:Int):iA (aJ op .u64 a b):=by
 have h: ∀n:Int,iA (IntKind.u64.wrap n):=fun n=>by rw[iB];constructor<;>omega
 unfold aJ bits;cases op<;>first|exact h _|(constructor<;>decide)
theorem lL{a:Int}(h:iA a):(bv a).toNat=a.toNat:=by
 have:=bv_toNat a;have A:a%18446744073709551616=a:=M
 rw[A]at this;omega
theorem wrap_nat(n:Nat)(h:n<18446744073709551616):(IntKind.u64.wrap (n:Int)).toNat=n:=by rw[iB];omega
theorem tb_or{a b:Int}(A:iA a)(E:iA b)(i:Nat):tb (aJ .or .u64 a b) i=(tb a i||tb b i):=by have e:aJ .or .u64 a b=IntKind.u64.wrap ((bv a|||bv b).toNat:Int):=rfl;unfold tb;rw[e,wrap_nat _ (bv a|||bv b).isLt,BitVec.toNat_or,lL A,lL E,Nat.testBit_or]
theorem kO{a b:Int}(E:iA a)(N:iA b)(i:Nat):tb (aJ .andNot .u64 a b) i=(tb a i&& !tb b i):=by
 have e:aJ .andNot .u64 a b=IntKind.u64.wrap ((bv a&&& ~~~(bv b)).toNat:Int):=rfl;unfold tb;rw[e,wrap_nat _ (bv a&&& ~~~(bv b)).isLt,BitVec.toNat_and,Nat.testBit_and,lL E];cases A:a.toNat.testBit i with
 |false=>rfl
 |true=>
  have hi:i<64:=by
   rcases a0k i 64 with h|h
   ·exact h
   rw[Nat.testBit_lt_two_pow (a0U (show a.toNat<2^64 by omega) (Nat.pow_le_pow_right M h))]at A;cases A
  rw[a1p,a1p,←BitVec.getLsbD,BitVec.getLsbD_not,BitVec.getLsbD,lL N]
  simp[hi]
theorem tb_and1{a:Int}(E:iA a):aJ .and .u64 a 1=1↔tb a 0=true:=by
 have e:aJ .and .u64 a 1=IntKind.u64.wrap ((bv a&&&bv 1).toNat:Int):=rfl;have A:(bv a&&&bv 1).toNat=a.toNat%2:=by rw[BitVec.toNat_and,lL E,show(bv 1).toNat=1 from by decide,Nat.and_one_is_mod]
 rw[e,A,iB];unfold tb;rw[Nat.testBit_zero];simp;omega
theorem shl_one{k:Nat}(E:k<64):IntKind.u64.wrap (1 *2^(Nat.min k 64))=((2^k:Nat):Int):=by
 rw[show Nat.min k 64=k from a1S M,iB,Int.one_mul];have:(2^k:Nat)<2^64:=a2j M E;have e:((2:Int)^k)=((2^k:Nat):Int):=by simp
 have A:(2:Nat)^64=18446744073709551616:=by decide
 rw[A]at this;rw[e];generalize 2^k=q at this⊢;omega
theorem tb_shl{k:Nat}(A:k<64)(i:Nat):tb (IntKind.u64.wrap (1 *2^(Nat.min k 64))) i=decide (k=i):=by unfold tb;rw[shl_one A,a1U,Nat.testBit_two_pow]
theorem shl_rng(x:Int):iA (IntKind.u64.wrap x):=by rw[iB];constructor<;>omega
theorem shr_nat{a:Int}(E:iA a){k:Nat}(A:k<=64):Int.fdiv a (2^(Nat.min k 64))=((a.toNat>>>k:Nat):Int):=by
 rw[show Nat.min k 64=k from a1S A,a1Y];have e:((2:Int)^k)=((2^k:Nat):Int):=by simp
 have ea:a=(a.toNat:Int):=M
 rw[e,Int.fdiv_eq_ediv_of_nonneg _ (Int.natCast_nonneg _)];conv=>lhs;rw[ea]
 simp
theorem shr_rng{a:Int}(A:iA a){k:Nat}(E:k<=64):iA (Int.fdiv a (2^(Nat.min k 64))):=by
 rw[shr_nat A E];have:a.toNat>>>k<=a.toNat:=by rw[a1Y];exact Nat.div_le_self _ _
 generalize a.toNat>>>k=q at this⊢;constructor<;>omega
theorem tb_shr{a:Int}(A:iA a){k:Nat}(E:k<=64)(i:Nat):tb (Int.fdiv a (2^(Nat.min k 64))) i=tb a (k+i):=by unfold tb;rw[shr_nat A E,a1U,Nat.testBit_shiftRight]
theorem tb_big{a:Int}(A:iA a){i:Nat}(hi:64<=i):tb a i=false:=
 Nat.testBit_lt_two_pow (a0U (show a.toNat<2^64 by omega) (Nat.pow_le_pow_right M hi))
theorem ne0_tb{a:Int}(A:iA a)(h:a≠0): ∃i,tb a i=true:=by obtain⟨i,hi⟩:=Nat.exists_testBit_of_ne_zero (show a.toNat≠0 by omega);exact⟨i,hi⟩
theorem eq0_tb{a:Int}(A:iA a)(h:a=0)(i:Nat):tb a i=false:=by subst h;exact Nat.zero_testBit i
def aH(s:List U64)(n:Nat):Bool:=tb (s.getD (n/64) default).n (n%64)
theorem nW{s:List U64}{n:Nat}(h:64 *s.length<=n):aH s n=false:=by unfold aH;rw[bZ M];exact Nat.zero_testBit _
theorem bit_set{s:List U64}{j:Nat}{v:Int}(A:j<s.length)(i:Nat):aH (s.set j ⟨v⟩) i=if i/64=j then tb v (i%64) else aH s i:=by
 unfold aH;simp only[a03,a1T];by_cases h:j=i/64
 ·rw[if_pos h,if_pos h.symm,if_pos M];rfl
 rw[if_neg h,if_neg (fun e=>h e.symm)]
theorem bit_rep(n i:Nat):aH (List.replicate n (⟨0⟩:U64)) i=false:=by unfold aH;rw[a03,a1w];split<;>exact Nat.zero_testBit _
theorem add_ok{s:List U64}{n:Int}(h:0<=n/\n<64 *(s.length:Int))(A:iA (s.getD (Int.tdiv n 64).toNat default).n)(i:Nat):
  aH (s.set (Int.tdiv n 64).toNat ⟨aJ .or .u64 (s.getD (Int.tdiv n 64).toNat default).n (IntKind.u64.wrap (1 *2^(Nat.min (Int.tmod n 64).toNat 64)))⟩) i=(aH s i||decide (i=n.toNat)):=by
 have E:(Int.tdiv n 64).toNat=n.toNat/64:=by rw[a1a h.1];omega
 have N:(Int.tmod n 64).toNat=n.toNat%64:=by rw[a1V h.1];omega
 rw[E]at A⊢
 rw[N,bit_set M,tb_or A (shl_rng _),tb_shl M]
 by_cases hi:i/64=n.toNat/64
 ·rw[if_pos hi];have T:tb (s.getD (n.toNat/64) default).n (i%64)=aH s i:=by unfold aH;rw[hi]
  rw[T];congr 1;rw[decide_eq_decide];omega
 rw[if_neg hi,decide_eq_false M,a1M]
theorem rem_ok{s:List U64}{n:Int}(h:0<=n/\n<64 *(s.length:Int))(A:iA (s.getD (Int.tdiv n 64).toNat default).n)(i:Nat):
  aH (s.set (Int.tdiv n 64).toNat ⟨aJ .andNot .u64 (s.getD (Int.tdiv n 64).toNat default).n (IntKind.u64.wrap (1 *2^(Nat.min (Int.tmod n 64).toNat 64)))⟩) i=(aH s i&& !decide (i=n.toNat)):=by
 have E:(Int.tdiv n 64).toNat=n.toNat/64:=by rw[a1a h.1];omega
 have N:(Int.tmod n 64).toNat=n.toNat%64:=by rw[a1V h.1];omega
 rw[E]at A⊢
 rw[N,bit_set M,kO A (shl_rng _),tb_shl M]
 by_cases hi:i/64=n.toNat/64
 ·rw[if_pos hi];have T:tb (s.getD (n.toNat/64) default).n (i%64)=aH s i:=by unfold aH;rw[hi]
  rw[T];congr 2;rw[decide_eq_decide];omega
 rw[if_neg hi,decide_eq_false M,a1x,a13]
theorem n64{s:List U64}{n:Int}(h:0<=n/\n<64 *(s.length:Int)):0<=Int.tdiv n 64/\Int.tdiv n 64<(s.length:Int)/\0<=Int.tmod n 64/\Int.tmod n 64<64:=by rw[a1a h.1,a1V h.1];omega
def uniB(s t:List U64)(k:Nat)(w:List U64):Prop:=w.length=s.length/\∀i,aH w i=(aH s i||(decide (i<64 *k)&&aH t i))
theorem uniB_zero{s t:List U64}:uniB s t 0 s:=⟨V,fun i=>by simp⟩
theorem kN{s t w:List U64}{k:Nat}(h:uniB s t k w)(i:Nat):tb (w.getD k default).n i=tb (s.getD k default).n i\/64<=i:=by
 rcases a0k i 64 with hi|hi
 ·left;have:=h.2 (64 *k+i);unfold aH at this;rw[show(64 *k+i)/64=k by omega,show(64 *k+i)%64=i by omega,decide_eq_false M,a1y,a1M]at this;exact this
 exact .inr hi
theorem uniB_same{s t w:List U64}{k:Nat}(h:uniB s t k w)(U:iA (t.getD k default).n)(Z:iA (w.getD k default).n)(h0:aJ .andNot .u64 (t.getD k default).n (w.getD k default).n=0):uniB s t (k+1) w:=by
 refine⟨h.1,fun i=>?_⟩;rw[h.2 i];by_cases hi:i<64 *k
 ·rw[decide_eq_true hi,decide_eq_true (show i<64 *(k+1) by omega)]
 by_cases E:i<64 *(k+1)
 ·rw[decide_eq_false hi,decide_eq_true E,a1y,a1p,a1M];have A:=eq0_tb (fO .andNot (t.getD k default).n (w.getD k default).n) h0 (i%64);rw[kO U Z]at A;have N:aH t i=tb (t.getD k default).n (i%64):=by unfold aH;rw[show i/64=k by omega]
  have T:aH s i=tb (w.getD k default).n (i%64):=by
   rcases kN h (i%64) with e|e
   ·rw[e];unfold aH;rw[show i/64=k by omega]
   omega
  rw[N,T];revert A;cases tb (t.getD k default).n (i%64)<;>cases tb (w.getD k default).n (i%64)<;>simp
 rw[decide_eq_false hi,decide_eq_false E]
theorem uniB_or{s t w:List U64}{k:Nat}(h:uniB s t k w)(N:k<s.length)(T:iA (t.getD k default).n)(U:iA (w.getD k default).n):uniB s t (k+1) (w.set k ⟨aJ .or .u64 (w.getD k default).n (t.getD k default).n⟩):=by
 refine⟨by rw[a0f];exact h.1,fun i=>?_⟩;rw[bit_set (by rw[h.1];exact N)];by_cases hi:i/64=k
 ·rw[if_pos hi,tb_or U T];rw[decide_eq_true (show i<64 *(k+1) by omega),a1p];have A:aH t i=tb (t.getD k default).n (i%64):=by unfold aH;rw[hi]
  have E:aH s i=tb (w.getD k default).n (i%64):=by
   rcases kN h (i%64) with e|e
   ·rw[e];unfold aH;rw[hi]
   omega
  rw[A,E]
 rw[if_neg hi,h.2 i];congr 2;rw[decide_eq_decide];omega
theorem uniB_new{s t w:List U64}{k:Nat}(h:uniB s t k w)(E:iA (t.getD k default).n)(T:iA (w.getD k default).n)(h0:aJ .andNot .u64 (t.getD k default).n (w.getD k default).n≠0): ∃i,aH t i=true/\aH s i=false:=by
 obtain⟨q,A⟩:=ne0_tb (fO .andNot (t.getD k default).n (w.getD k default).n) h0;rw[kO E T,a0a,a0F]at A;have N:q<64:=by
  rcases a0k q 64 with h1|h1
  ·exact h1
  rw[tb_big E h1]at A;exact absurd A.1 e_
 refine⟨64 *k+q,?_,?_⟩
 ·unfold aH;rw[show(64 *k+q)/64=k by omega,show(64 *k+q)%64=q by omega];exact A.1
 rcases kN h q with e|e
 ·unfold aH;rw[show(64 *k+q)/64=k by omega,show(64 *k+q)%64=q by omega,←e];exact A.2
 omega
theorem uniB_all{s t w:List U64}{k:Nat}(h:uniB s t k w)(A:s.length<=k)(E:t.length=s.length)(i:Nat):aH w i=(aH s i||aH t i):=by
 rw[h.2 i];by_cases hi:i<64 *k
 ·rw[decide_eq_true hi,a1p]
 rw[nW (s:=t) M,a1N]
def mC(s:List U64)(m:Nat):List Int:=List.map (fun i:Nat=>(i:Int)) ((List.range m).filter (aH s))
def jV(s:List U64):List Int:=mC s (64 *s.length)
theorem lA{s:List U64}{m:Nat}:mC s (m+1)=mC s m++if aH s m=true then [(m:Int)] else []:=by unfold mC;rw[List.range_succ,List.filter_append,a0Z];congr 1;rw[a1D];split<;>rfl
theorem lstK_skip{s:List U64}{m:Nat}: ∀(d:Nat),(∀i,m<=i->i<m+d->aH s i=false)->mC s m=mC s (m+d)
 |0,_=>rfl
 |d+1,h=>by rw[show m+(d+1)=(m+d)+1 by omega,lA,if_neg (by rw[h (m+d) M M];decide),a0p];exact lstK_skip d fun i A E=>h i A M
theorem lstK_len{s:List U64}{m:Nat}:(mC s m).length<=m:=by unfold mC;rw[a1A];have:=a16 (aH s) (List.range m);rwa [List.length_range]at this
theorem lst_mem{s:List U64}{x:Int}:x∈jV s↔0<=x/\aH s x.toNat=true:=by
 unfold jV mC;rw[a0v];constructor
 ·rintro⟨i,hi,rfl⟩;rw[a22]at hi;exact⟨by omega,by rw[a1U];exact hi.2⟩
 rintro⟨h0,A⟩;refine⟨x.toNat,a22.2 ⟨a2b.2 ?_,A⟩,by omega⟩;rcases a0k x.toNat (64 *s.length) with h2|h2
 ·exact h2
 rw[nW h2]at A;cases A
theorem lst_asc{s:List U64}{m:Nat}:(mC s m).Pairwise (· < ·):=by
 unfold mC;rw[List.pairwise_map];refine(List.Pairwise.sublist List.filter_sublist (List.pairwise_lt_range (n:=m))).imp fun h=>?_
 omega
theorem list_stop{s:List U64}{k b:Nat}(E:iA (s.getD k default).n)(A:b<=64)(h0:Int.fdiv (s.getD k default).n (2^(Nat.min b 64))=0):mC s (64 *k+b)=mC s (64 *(k+1)):=by
 rw[show 64 *(k+1)=64 *k+b+(64-b) by omega];refine lstK_skip _ fun i N T=>?_
 have:=eq0_tb (shr_rng E A) h0 (i-64 *k-b);rw[tb_shr E A]at this;unfold aH;rw[show i/64=k by omega,show i%64=b+(i-64 *k-b) by omega];exact this
theorem list_lt{s:List U64}{k b:Nat}(E:iA (s.getD k default).n)(A:b<=64)(h0:Int.fdiv (s.getD k default).n (2^(Nat.min b 64))≠0):b<64:=by
 rcases a0k b 64 with h|h
 ·exact h
 exfalso;apply h0;rw[shr_nat E A,a1Y,Nat.div_eq_of_lt]
 ·rfl
 have:b=64:=M
 subst this;omega
theorem km{s:List U64}{k b:Nat}(A:iA (s.getD k default).n)(E:b<64):(aJ .and .u64 (Int.fdiv (s.getD k default).n (2^(Nat.min b 64))) 1=1)↔aH s (64 *k+b)=true:=by rw[tb_and1 (shr_rng A M),tb_shr A M,a2s];unfold aH;rw[show(64 *k+b)/64=k by omega,show(64 *k+b)%64=b by omega]
open Go.RowKit Go.WideShapes Go.ChangeShapes
section
variable {c_:Type} {enc:TypeId×Value->c_} {P:Program} {w:World} {μ:Emb} {H:Heap}
theorem cell_size{a:Addr}{v:Value}(h:w.cell? a=some v):0<w.heap.size:=by
 unfold World.cell? at h;split at h
 ·rename_i A;have:=(a0G.1 A).1;omega
 cases h
end
open Go.RowKit Go.WideShapes Go.ChangeShapes
section
variable {c_:Type} {enc:TypeId×Value->c_} {P:Program} {w:World} {μ:Emb} {H:Heap}
def EmR(enc:TypeId×Value->c_)(P:Program)(w:World)(t:TypeId)(α:Type) [Rp α](S:DataW c_->Prop)(B:DataW c_->α->Prop):Prop:=
 ∀{μ:Emb} {H:Heap} {n:Nat} {cs:List Value} {x:DataW c_×List MemPlace},S x.1->Em w μ H->DataW.trod enc P w 0 (fun _=>true) true n t cs=some x->
  ∃μ' H' c y,Em w μ' H'/\EmLe μ H μ' H'/\LRel μ' c cs/\Rp.rep H'.get c (y:α)/\B x.1 y
end
open Go.ChangeShapes
section
variable {H:Type} {enc:TypeId×Value->H}
end
structure Eqs(s s':St):Prop where
 t:cU s.tmps=cU s'.tmps
 n:s.size=s'.size
 h:s.heap=s'.heap
section
variable {P:Program} {G:Nat} {cf:cu} {ops:Array Oper}
end
structure PtrT where
 b:Nat
 deriving Inhabited
instance :Rp PtrT where
 sz:=1
 rep F cs x:=cs=[.pointer (some ⟨x.b,0,none⟩)]
 len:=by rintro F cs x rfl;rfl
 one:=by rintro F cs x rfl;rfl
 mono:=by intro F F' cs x _ h;exact h
section
variable {B:Base} {F F':Fz} {H:Heap} {L R:List Fp}
end
section
variable {P:Program} {G:Nat} {K:bM} {sz:Nat} {Q:Ex->Fn->Heap->Prop} {ops:Array Oper} {D:List (Nat×ID)} {i:Nat} {os:List Oper} {k:List Fr} {f:Fn} {H:Heap}
end
section
variable {ι β:Type} {Ch:Fz->ι->β->Fp->Prop} {F:Fz}
end
open Go
structure Lv(α:Type)(n:Nat) where
 r:Fz->List Value->α->Prop
 len: ∀{F:Fz} {cs:List Value} {x:α},r F cs x->cs.length=n
 one: ∀{F:Fz} {cs:List Value} {x:α},r F cs x->ng Value.oneCell' cs=true
 mono: ∀{F F':Fz} {cs:List Value} {x:α},F.le F'->r F cs x->r F' cs x
open Go
section
variable {α:Type} [Rp α] {P:Program} {ρ:Operand->Value} {d:Option Tmp} {ty:TypeId} {pos:String} {af:Array Edge} {gd:Option (Nat×Bool)} {B:Base} {F:Fz} {H:Heap} {L R:List Fp} {l:List α}
theorem rs_litC{t:TypeId}{n sz:Nat}{z:List Value}{A:Array (Nat×Operand)}{ps:List (Nat×Value)}{cells:List Value}(hs:HS B F H L R)(E:dJ (fun p=>(p.1,ρ p.2)) A.toList=ps)(hi:dz P t=some (sz,z))(U:Nat.ble (n *sz) 16777216=true)
  (T:Instr.fill (fun i=>some (i *sz,sz)) ⟨cp n z⟩ ps=some ⟨cells⟩):
  ∃r:Rs,AP P ρ ⟨d,.buildSlice t n A,ty,pos,af,gd⟩ H (.val r.v,r.H)/\(∃b,r.v= .slice (some ⟨b,0,none⟩) n n/\HS B F r.H (L++[[(b,.cells cells none false)]]) R/\Wr H r.H []):=by
 subst E
 exact⟨⟨_,_,[]⟩,iX hi U T,_,V,hs.push _,.nil fun b N=>by simpa using N⟩
theorem os_raw{b:Nat}{cells:List Value}(A:RL F cells l):OS F (.slice (some ⟨b,0,none⟩) l.length l.length) l [(b,.cells cells none false)]:=by have:=A.length;exact .inr ⟨b,0,l.length,cells,none,V,V,_,_,_,V,fun _=>M,a0d _,by rw[a17,←this,a1e];exact A,.inl V⟩
end
end Go.R
noncomputable section
set_option linter.unusedVariables false
namespace Go.R
open Go
structure U32 where
 n:Int
 deriving DecidableEq,Inhabited
instance :Rp U32 where
 sz:=1
 rep _ cs s:=cs=[.int .u32 s.n]/\0<=s.n/\s.n<4294967296
 len:=by rintro F cs x ⟨rfl,_⟩;rfl
 one:=by rintro F cs x ⟨rfl,_⟩;rfl
 mono:=by intro F F' cs x _ h;exact h
section
variable {F:Fz} {get:Nat->Option AObj} {v:Value} {cf:Nat->List Value} {j:Nat}
theorem vU3{l:List U32}(h:VW F get v l cf j)(N:j<l.length:=by first|(dsimp only;omega)|omega):HC get (sB v) (sO v+j *Rp.sz U32) [.int .u32 (l.getD j default).n]:=by obtain⟨⟨E,_⟩,A⟩:=h.1 default N;rw[E]at A;exact A
theorem fU3{l:List U32}(h:VW F get v l cf j):0<=(l.getD j default).n/\(l.getD j default).n<4294967296:=by
 rcases a0k j l.length with hj|hj
 ·exact(h.1 default hj).1.2
 rw[bZ hj];exact⟨a1G _,by decide⟩
end
theorem fq(n:Int):0<=IntKind.u32.wrap n/\IntKind.u32.wrap n<4294967296:=by
 have h:IntKind.u32.wrap n=n%4294967296:=by unfold IntKind.wrap;simp[IntKind.bits,IntKind.signed]
 rw[h];exact⟨Int.emod_nonneg _ e_,Int.emod_lt_of_pos _ e_⟩
theorem lG{α:Type}{P:α->Prop}(t:α)(h:P t): ∃w,w=t/\P w:=⟨t,V,h⟩
class RpI(α:Type) [Rp α]:Prop where
 low: ∀(F F':Fz) (cs:List Value) (x:α),Rp.rep F cs x->Rp.rep F' cs x
instance :RpI Int:=⟨fun _ _ _ _ h=>h⟩
theorem RL.lowI{α:Type} [Rp α] [RpI α]{F F':Fz}: ∀{l:List α} {cs:List Value},RL F cs l->RL F' cs l
 | [],_,h=>h
 |_::_,_,⟨c,r,e,h1,h2⟩=>⟨c,r,e,RpI.low F F' _ _ h1,RL.lowI h2⟩
theorem OS.lowI{α:Type} [Rp α] [RpI α]{F F':Fz}{v:Value}{l:List α}{p:Fp}(h:OS F v l p):OS F' v l p:=by
 rcases h with h|⟨b,off,k,cs,opn,h1,h2,cs',opn',ro,h3,h4,h5,h6,h7⟩
 ·exact .inl h
 exact .inr ⟨b,off,k,cs,opn,h1,h2,cs',opn',ro,h3,h4,h5,h6.lowI,h7⟩
section
variable {B:Base} {F:Fz} {H:Heap} {L R:List Fp}
theorem flat_two{α:Type}{L:List (List α)}{q i:Nat}{x p:List α}(N:q≠i)(hq:L[q]?=some x)(hi:L[i]?=some p):(((L.set q (x++p)).set i []).flatten).Perm L.flatten:=by
 have T:=gq (x++p) hq;have E:(L.set q (x++p))[i]?=some p:=by rw[a1X N];exact hi
 have A:=gq ([]:List α) E;rw[a0p]at A;have U:=(A.append_right x).trans T;have Z:((((L.set q (x++p)).set i []).flatten++p)++x).Perm ((L.flatten++p)++x):=U.trans (by rw[a0l];exact a0W _ a1g);exact(a1B p).1 ((a1B x).1 Z)
theorem HS.join2(h:HS B F H L R){q i:Nat}{x p:Fp}(A:q≠i)(E:L[q]?=some x)(hi:L[i]?=some p):HS B F H ((L.set q (x++p)).set i []) R:=h.flat (flat_two A E hi)
theorem HS.cut2(h:HS B F H L R){q:Nat}{x p:Fp}(A:L[q]?=some (x++p)):HS B F H (L.set q x++[p]) R:=h.open A (List.Perm.refl _)
end
end Go.R
end
namespace Go.R
abbrev iI(n:Int):Value:= .int .i64 n
abbrev pT(b o:Nat):Value:= .pointer (some ⟨b,o,none⟩)
abbrev fP(b:Nat)(l:List Value):Fp:=[(b,.cells l none false)]
abbrev sL(a:Option Addr)(n k:Nat):Value:= .slice a n k
abbrev aG(l:List Value):Value:= .agg ⟨l⟩
abbrev tX(b:List UInt8):Value:= .string ⟨⟨b⟩⟩
theorem fT{a b c:Fz}(h:a.le b)(k:b.le c):a.le c:=Fz.le_trans h k
theorem fR{a:Fz}:a.le a:=Fz.le_refl a
theorem wR{P:Program}{G:Nat}{K:bM}{sz:Nat}{Q:Ex->Fn->Heap->Prop}{f:Fn}{H:Heap}{c1:Code}{k k1:List Fr}(n:Nat){id:Nat}{ops:Array Oper}(hs:List (Nat×Hint))(lo hi:Nat)(ex:List Nat)(l:List (Nat×Value)){p:Prop}(N:p)(A:foc n .skip k=(c1,k1))(E: ∀g,WK P G K sz c1 k1 (gJ (hav lo hi ex g f) l) H Q)(h:ge P G (W0 P G K H) sz ops f 0 ops.toList hs lo hi ex (dJ Prod.fst l)=some (l,p):=by kernel_rfl):WK P G K sz (.region id ops false) k f H Q:=wr n hs lo hi ex l N h A E
theorem wRD{P:Program}{G:Nat}{K:bM}{sz:Nat}{Q:Ex->Fn->Heap->Prop}{f:Fn}{H:Heap}{c1:Code}{k k1:List Fr}(n:Nat){id:Nat}{ops:Array Oper}(hs:List (Nat×Hint))(lo hi:Nat)(ex:List Nat)(l:List (Nat×Value)){p:Prop}(N:p)(T:(bg ops&&P.follows .mixedOrders)=true)(A:foc n .skip k=(c1,k1))(E: ∀g,WK P G K sz c1 k1 (gJ (hav lo hi ex g f) l) H Q)(h:ge P G (W0 P G K {H with log:=[]}) sz ops f 0 ops.toList hs lo hi ex (dJ Prod.fst l)=some (l,p):=by kernel_rfl):WK P G K sz (.region id ops true) k f H Q:=wrD n hs lo hi ex l N T h A E
theorem wRo{P:Program}{G:Nat}{K:bM}{sz:Nat}{Q:Ex->Fn->Heap->Prop}{f:Fn}{H:Heap}{k:List Fr}(n i:Nat){ops:Array Oper}{os A:List Oper}(hs:List (Nat×Hint))(lo hi:Nat)(ex:List Nat)(l:List (Nat×Value)){p:Prop}(T:p)(E:d3 os n=A)(N: ∀g,WO P G K sz ops A k (gJ (hav lo hi ex g f) l) H Q)(h:ge P G (W0 P G K H) sz ops f i (dX os n) hs lo hi ex (dJ Prod.fst l)=some (l,p):=by kernel_rfl):WO P G K sz ops os k f H Q:=wro n i hs lo hi ex l T h E N
theorem wT{P:Program}{G:Nat}{K:bM}{sz:Nat}{Q:Ex->Fn->Heap->Prop}{f:Fn}{H:Heap}{c1:Code}{k k1:List Fr}(n:Nat){id:Nat}{ops:Array Oper}(hs:List (Nat×Hint))(lo hi:Nat)(ex:List Nat)(l:List (Nat×Value))(A:foc n .skip k=(c1,k1))(E: ∀g,WK P G K sz c1 k1 (gJ (hav lo hi ex g f) l) H Q)(h:ge P G (W0 P G K H) sz ops f 0 ops.toList hs lo hi ex (dJ Prod.fst l)=some (l,True):=by kernel_rfl):WK P G K sz (.region id ops false) k f H Q:=wR n hs lo hi ex l trivial A E h
theorem wU{P:Program}{G:Nat}{K:bM}{sz:Nat}{Q:Ex->Fn->Heap->Prop}{f:Fn}{H:Heap}{c1:Code}{k k1:List Fr}(n:Nat){id:Nat}{ops:Array Oper}(hs:List (Nat×Hint))(lo hi:Nat)(ex:List Nat)(l:List (Nat×Value)){p:Prop}(N:p)(A:foc n .skip k=(c1,k1))(E: ∀g,WK P G K sz c1 k1 (gJ (hav lo hi ex g f) l) H Q)(h:ge P G (W0 P G K H) sz ops f 0 ops.toList hs lo hi ex (dJ Prod.fst l)=some (l,p/\True):=by kernel_rfl):WK P G K sz (.region id ops false) k f H Q:=wR n hs lo hi ex l ⟨N,trivial⟩ A E h
theorem wTo{P:Program}{G:Nat}{K:bM}{sz:Nat}{Q:Ex->Fn->Heap->Prop}{f:Fn}{H:Heap}{k:List Fr}(n i:Nat){ops:Array Oper}{os A:List Oper}(hs:List (Nat×Hint))(lo hi:Nat)(ex:List Nat)(l:List (Nat×Value))(E:d3 os n=A)(N: ∀g,WO P G K sz ops A k (gJ (hav lo hi ex g f) l) H Q)(h:ge P G (W0 P G K H) sz ops f i (dX os n) hs lo hi ex (dJ Prod.fst l)=some (l,True):=by kernel_rfl):WO P G K sz ops os k f H Q:=wRo n i hs lo hi ex l trivial E N h
theorem wUo{P:Program}{G:Nat}{K:bM}{sz:Nat}{Q:Ex->Fn->Heap->Prop}{f:Fn}{H:Heap}{k:List Fr}(n i:Nat){ops:Array Oper}{os A:List Oper}(hs:List (Nat×Hint))(lo hi:Nat)(ex:List Nat)(l:List (Nat×Value)){p:Prop}(T:p)(E:d3 os n=A)(N: ∀g,WO P G K sz ops A k (gJ (hav lo hi ex g f) l) H Q)(h:ge P G (W0 P G K H) sz ops f i (dX os n) hs lo hi ex (dJ Prod.fst l)=some (l,p/\True):=by kernel_rfl):WO P G K sz ops os k f H Q:=wRo n i hs lo hi ex l ⟨T,trivial⟩ E N h
theorem g_{B:Base}{F:Fz}{H:Heap}{L R:List Fp}(h:HS B F H L R){p:Fp}(e:L[0]?=some p):HS (.of H (p.map Prod.fst)) F H [p] (L.set 0 []++R):=HS.callOwn h e
theorem h_{B:Base}{F:Fz}{H:Heap}{L R:List Fp}(h:HS B F H L R){b:Nat}{cs:List Value}(e:L[0]?=some [(b,.cells cs none false)]):HC H.get b 0 cs:=HS.hc h e
theorem i_{B:Base}{F:Fz}{H:Heap}{L R:List Fp}(h:HS B F H L R){b:Nat}{cs:List Value}(e:L[1]?=some [(b,.cells cs none false)]):HC H.get b 0 cs:=HS.hc h e
theorem j_{B:Base}{F:Fz}{H:Heap}{L R:List Fp}(h:HS B F H L R){b:Nat}{cs:List Value}(e:L[2]?=some [(b,.cells cs none false)]):HC H.get b 0 cs:=HS.hc h e
theorem k_{F:Fz}:∀{l:List Str},RL F (l.map fun s=>.string ⟨⟨s.b⟩⟩) l
|[]=>RL.nl
|_::_=>RL.cs rfl k_
theorem l_{p:Prop}(h:p:=by simp;omega):p:=h
theorem m_{p:Prop}(h:p:=by rfl):p:=h
theorem n_{p:Prop}(h:p:=by simp_all):p:=h
theorem o_{p:Prop}(h:p:=by simp):p:=h
theorem p_{p:Prop}(h:p:=by rw[a0o];omega):p:=h
theorem f_{f:Fn}{l:List (Nat×Value)}(h:aA f l:=by(repeat refine agC rfl ?_);exact agN):aA f l:=h
theorem q_{o:Array Oper}{i:Nat}{e:ID}{D:List (Nat×ID)}(h:okD o i e D:=by first|exact kb rfl|(repeat' first|exact trivial|refine⟨.inl rfl,?_⟩|refine⟨.inr trivial,?_⟩)):okD o i e D:=h
theorem r_{p:Prop}(h:p:=by first|assumption|omega|(simp at *;omega)):p:=h
theorem s_{p:Prop}(h:p:=by(simp only[a02,a04,a07,a0o,a0H];omega)):p:=h
theorem t_{p:Prop}(h:p:=by simp only[a02,a0o,a0H,a04,a07];omega):p:=h
theorem u_{p:Prop}(h:p:=by(simp<;>omega)):p:=h
theorem K_{p:Prop}(h:p:=by kernel_rfl):p:=h
abbrev S_{α:Type}(a:Option Addr)(l:List α)(k:Nat):Value:=sL a l.length k
abbrev Sr{α:Type} [Rp α](F:Fz)(a:Option Addr)(l:List α)(k:Nat):Prop:=SR F (sL a l.length k) l
abbrev OZ{α:Type} [Rp α](F:Fz)(a:Option Addr)(l:List α)(k:Nat)(p:Fp):Prop:=OS F (sL a l.length k) l p
abbrev Hb(H:Heap):=HS (Base.of H [])
abbrev N_:Value:=sL none 0 0
instance:Coe Int Value:=⟨iI⟩
instance:Coe Bool Value:=⟨.bool⟩
end Go.R
