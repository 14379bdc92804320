/-
Symbolic runs by computation, data, the laid table.
-/
import Derived.Test.YtgdggmlghemecaaDoorZARC
import Derived.Laws.Bits128
import Derived.OpenShut
import Derived.ReadAgain
import Derived.Test.YtgdggmlghemecaaDoorZARB
import Derived.Deep.Slices
import Derived.JoinedCond
import Derived.LaidLaws
import Derived.KernelRfl
noncomputable section
namespace Go.R
section
variable {P:Program} {f:Fn} {H:Heap} {rs:List ResultVar} {l:List Value}
theorem rN:cu P f H []=some []:=rfl
theorem rT{t:Tmp}{v:Value}(z:f t=v)(h:cu P f H rs=some l):cu P f H (.tmp t::rs)=some (v::l):=by unfold cu;rw[h,z]
theorem rC{a:Tmp}{t:TypeId}{p:Addr}{v:Value}(z:f a= .pointer (some p))(A:H.loadV P t p=some v)(h:cu P f H rs=some l):cu P f H (.cell a t::rs)=some (v::l):=by unfold cu;rw[z];simp only[A,h]
theorem ldVN{t:TypeId}{b n:Nat}{cs:List Value}(E:aggOf P t=some true)(hs:cY P t=some n)(hc:HC H.get b 0 cs)(N:cs.length=n):H.loadV P t ⟨b,0,none⟩=some (.agg ⟨cs⟩):=by obtain⟨all,T,U,A,z⟩:=hc;unfold Heap.loadV;rw[E];simp only[hs];unfold Heap.loadN;rw[a1a]at z;subst N;simp only[A,bV,bZ,bE,a1a,z,a12,cond_true]
end
section
variable {α:Type} [Rp α] {P:Program} {ρ:Operand->Value} {d:Option Tmp} {ty:TypeId} {pos:String} {af:Array Edge} {gd:Option (Nat×Bool)} {B:Base} {F:Fz} {H:Heap} {L R:List Fp} {v:Value} {l:List α} {p:Fp}
theorem gh{t yt:TypeId}{x y:Operand}{a b:Bool}(A:ρ x= .bool a)(E:ρ y= .bool b)(z: ∀a b:Bool,aB P (eg .neq t x y a b)=some (.value (.bool (a !=b)))):AP P ρ ⟨d,.binOp .neq t x y yt,ty,pos,af,gd⟩ H (.val (.bool (a !=b)),H):=by
 refine⟨?_⟩;show aBin P ρ _ .neq t (ρ x) y H=_;rw[A];show bD P ρ _ H=_;unfold bD;have N:((Op.binOp .neq t x y yt).operands.toList.all fun x=>gZ (ρ x))=true:=by simp[Op.operands,A,E,gZ,noA0]
 simp only[N,cond_true];have T:aB P (execOp ρ ⟨d,.binOp .neq t x y yt,ty,pos,af,gd⟩)=some (.value (.bool (a !=b))):=by rw[←z a b];unfold execOp eg;simp only[A,E]
 rw[T];rfl
theorem OS.len'{F:Fz}{a:Option Addr}{n k:Nat}{l:List α}{p:Fp}(h:OS F (.slice a n k) l p):l.length=n:=by obtain⟨z,A,e⟩:=h.shape;injection e with _ e _;exact e.symm
theorem OS.norm{F:Fz}{a:Option Addr}{n k:Nat}{l:List α}{p:Fp}(h:OS F (.slice a n k) l p):OS F (.slice a l.length k) l p:=by rw[h.len'];exact h
theorem ap_ixG{x i:Operand}{t:TypeId}{cs:Array Value}{w r:Value}(z:ρ x= .agg cs)(hi:ρ i=w)(h:aB P (Instr.index t (.agg cs) w)=some r):AP P ρ ⟨d,.index t x i,ty,pos,af,gd⟩ H (.val r,H):=by refine⟨?_⟩;show kL P t (ρ x) (ρ i) H=_;rw[z,hi];show lift P (Instr.index t (.agg cs) w) H=_;unfold lift;rw[h]
end
section
variable {α:Type} [Rp α] {P:Program} {ρ:Operand->Value} {d:Option Tmp} {ty:TypeId} {pos:String} {af:Array Edge} {gd:Option (Nat×Bool)} {B:Base} {F:Fz} {H:Heap} {L R:List Fp} {v:Value} {l:List α} {p:Fp} {t e:TypeId} {x:Operand} {i j q:Nat}
theorem rs_cutd{lo:Option Operand}(h:SR F v l)(hs:HS B F H L R)(N:ρ x=v)(E:P.underlying t=some (.slice e))(T:cY P e=some (Rp.sz α))(A:bU 0 (lo.map ρ)=some i)(z:i<=l.length):
  ∃r:Rs,AP P ρ ⟨d,.slice t x lo none none,ty,pos,af,gd⟩ H (.val r.v,r.H)/\(∃a k,r.v= .slice a (l.drop i).length k/\r.H=H/\SR F (.slice a (l.drop i).length k) (l.drop i)):=by
 have:=rs_cut (d:=d) (ty:=ty) (pos:=pos) (af:=af) (gd:=gd) (hi:=none) h hs N E T optN0 A z (a0b _)
 rwa [a0h (a0b _)]at this
theorem rs_cutt{hi:Option Operand}(h:SR F v l)(hs:HS B F H L R)(N:ρ x=v)(E:P.underlying t=some (.slice e))(T:cY P e=some (Rp.sz α))(z:bU l.length (hi.map ρ)=some j)(A:j<=l.length):
  ∃r:Rs,AP P ρ ⟨d,.slice t x none hi none,ty,pos,af,gd⟩ H (.val r.v,r.H)/\(∃a k,r.v= .slice a (l.take j).length k/\r.H=H/\SR F (.slice a (l.take j).length k) (l.take j)):=by
 have:=rs_cut (d:=d) (ty:=ty) (pos:=pos) (af:=af) (gd:=gd) (lo:=none) h hs N E T z optN0 (a0I _) A
 rwa [a1a]at this
theorem rs_cutOd{lo:Option Operand}(h:OS F v l p)(hs:HS B F H L R)(E:L[q]?=some p)(T:ρ x=v)(N:P.underlying t=some (.slice e))(U:cY P e=some (Rp.sz α))(A:bU 0 (lo.map ρ)=some i)(z:i<=l.length):
  ∃r:Rs,AP P ρ ⟨d,.slice t x lo none none,ty,pos,af,gd⟩ H (.val r.v,r.H)/\(∃a k,r.v= .slice a (l.drop i).length k/\r.H=H/\OS F (.slice a (l.drop i).length k) (l.drop i) p):=by
 have:=rs_cutO (d:=d) (ty:=ty) (pos:=pos) (af:=af) (gd:=gd) (hi:=none) h hs E T N U optN0 A z (a0b _)
 rwa [a0h (a0b _)]at this
theorem rs_cutOt{hi:Option Operand}(h:OS F v l p)(hs:HS B F H L R)(E:L[q]?=some p)(T:ρ x=v)(N:P.underlying t=some (.slice e))(U:cY P e=some (Rp.sz α))(z:bU l.length (hi.map ρ)=some j)(A:j<=l.length):
  ∃r:Rs,AP P ρ ⟨d,.slice t x none hi none,ty,pos,af,gd⟩ H (.val r.v,r.H)/\(∃a k,r.v= .slice a (l.take j).length k/\r.H=H/\OS F (.slice a (l.take j).length k) (l.take j) p):=by
 have:=rs_cutO (d:=d) (ty:=ty) (pos:=pos) (af:=af) (gd:=gd) (lo:=none) h hs E T N U z optN0 (a0I _) A
 rwa [a1a]at this
end
end Go.R
end
noncomputable section
namespace Go.R
def j2(P:Program):List Field->Option (List (Nat×Nat))
 | []=>some []
 |f::fs=>match cY P f.type with
  |some n=>match j2 P fs with
   |some l=>some ((f.offset,n)::l)
   |none=>none
  |none=>none
def fillL(z:Nat->Option (Nat×Nat)):List Value->List (Nat×Value)->Option (List Value)
 |cs,[]=>some cs
 |cs,(i,v)::r=>match z i with
  |some (off,n)=>bif Nat.beq (eu v.cells.toList) n&&Nat.ble (off+eu v.cells.toList) (eu cs) then fcL (bc cs off v.cells.toList) fun cs=>fillL z cs r else none
  |none=>none
def bldL(P:Program)(t:TypeId)(ps:List (Nat×Value)):Option (List Value):=match P.underlying t with
 |some (.struct fs)=>match cJ P t with
  |some z=>match j2 P fs.toList with
   |some pl=>fillL (nth pl) z ps
   |none=>none
  |none=>none
 |_=>none
theorem jU: ∀(l:List Value) (s off:Nat) (A:List Value),off+s+l.length<=A.length->((l.zipIdx s).foldl (fun(cs:Array Value) p=>cs.setIfInBounds (off+p.2) p.1) ⟨A⟩)=⟨bc A (off+s) l⟩
 | [],s,off,A,h=>by
  have:bc A (off+s) []=A:=by rw[jR A [] (off+s) h];simp
  rw[this];rfl
 |v::l,s,off,A,h=>by
  rw[List.zipIdx_cons,List.foldl_cons];show((l.zipIdx (s+1)).foldl (fun(cs:Array Value) p=>cs.setIfInBounds (off+p.2) p.1) ((⟨A⟩:Array Value).setIfInBounds (off+s) v))=_;rw[show(⟨A⟩:Array Value).setIfInBounds (off+s) v=⟨A.set (off+s) v⟩ from by rw[←a19,Array.toList_setIfInBounds]];simp only[a0a]at h;rw[jU l (s+1) off _ (by rw[a0c];omega),←a19];show bc (A.set (off+s) v) (off+(s+1)) l=bc A (off+s) (v::l);apply a1b;intro i;rw[bj _ _ _ i (by rw[a0c];omega),bj _ _ _ i (by simp only[a0a];omega)];simp only[a0a,a24];by_cases z:i=off+s
  ·subst z;rw[if_neg M,if_pos V,if_pos M,if_pos M,a1L,a0W]
  rw[if_neg (show ¬off+s=i from fun e=>z e.symm)];by_cases E:off+(s+1)<=i/\i<off+(s+1)+l.length
  ·rw[if_pos E,if_pos M,show i-(off+s)=(i-(off+(s+1)))+1 by omega,a1I]
  rw[if_neg E,if_neg M]
theorem mz(A:Nat->Option (Nat×Nat)): ∀(ps:List (Nat×Value)) (cs r:List Value),fillL A cs ps=some r->Instr.fill A ⟨cs⟩ ps=some ⟨r⟩
 | [],cs,r,h=>by simp only[fillL,a00]at h;subst h;rfl
 |(i,v)::ps,cs,r,h=>by
  unfold fillL at h;split at h
  ·rename_i off n e;cases z:(Nat.beq (eu v.cells.toList) n&&Nat.ble (off+eu v.cells.toList) (eu cs)) with
   |false=>rw[z]at h;cases h
   |true=>
    rw[z]at h
    simp only[cond_true,lB]at h
    rw[a07]at z
    have N:=a09 z.1
    have E:=a06 z.2
    rw[bE]at N E
    rw[bE]at E
    unfold Instr.fill
    simp only[e]
    rw[if_neg (by
     simp only[a0z,decide_eq_true_eq,not_or];show ¬(v.cells.size≠n)/\¬(off+v.cells.size>cs.length);rw[←a1V];omega)]
    have:=mz A ps _ _ h
    rw[←this]
    congr 1
    rw[←Array.foldl_toList,Array.toList_zipIdx]
    have:=jU v.cells.toList 0 off cs M
    exact this
  cases h
theorem places_ok{P:Program}: ∀{fs:List Field} {pl:List (Nat×Nat)},j2 P fs=some pl->aB P (fs.mapM (m:=Sem) fun f=>do Pure.pure (f.offset,←sizeOf f.type))=some pl
 | [],pl,h=>by simp only[j2,a00]at h;subst h;rfl
 |f::fs,pl,h=>by
  unfold j2 at h;split at h
  ·rename_i n e;split at h
   ·rename_i l z;simp only[a00]at h;subst h;rw[a2l];simp only[aJ,cF,e,a0l,bG,places_ok z]
   cases h
  cases h
theorem bldL_ok{P:Program}{t:TypeId}{ps:Array (Nat×Value)}{cs:List Value}(h:bldL P t ps.toList=some cs):aB P (Instr.build t ps)=some (.agg ⟨cs⟩):=by
 unfold bldL at h;split at h
 ·rename_i fs Z;split at h
  ·rename_i z A;split at h
   ·rename_i N e3;have hz: ∃v,aB P (zeroValue t)=some v/\v.cells.toList=z:=by
     unfold cJ at A;split at A
     ·rename_i i hi;split at A
      ·rename_i v E;refine⟨v,?_,?_⟩
       ·unfold zeroValue;simp only[aJ,db,hi,a0l,E];rfl
       cases T:v.cells.toList.all noA0 with
       |true=>rw[T]at A;simpa using A
       |false=>rw[T]at A;cases A
      cases A
     cases A
    obtain⟨v,E,U⟩:=hz;unfold Instr.build;simp only[aJ,E,a0l,bC,Z];rw[Array.mapM_eq_mapM_toList];simp only[←bind_pure_comp,aJ,places_ok e3,a0l,bG];have:=mz (nth N) ps.toList z cs h;rw[show nth N=fun i=>N.toArray[i]? from funext fun i=>by rw[fV,a28]]at this;rw[show v.cells=⟨z⟩ from by rw[←U]];simp only[this];rfl
   cases h
  cases h
 cases h
end Go.R
end
noncomputable section
namespace Go.R
theorem w64_in(n:Int):in64 (IntKind.i64.wrap n):=by rw[IntKind.wrap_i64];constructor<;>omega
theorem u64_eq(n:Int):IntKind.u64.wrap n=n%18446744073709551616:=rfl
abbrev bv(n:Int):BitVec 64:=BitVec.ofInt 64 n
theorem bv_toNat(a:Int):((bv a).toNat:Int)=a%18446744073709551616:=by rw[bv,BitVec.toNat_ofInt];omega
end Go.R
end
noncomputable section
namespace Go.R
def decD(d:Nat):UInt8:=UInt8.ofNat (48+d)
def dec(n:Nat):List UInt8:=if n<10 then [decD n] else dec (n/10)++[decD (n%10)]
def isDig(c:UInt8):Bool:=decide (48<=c.toNat)&&decide (c.toNat<=57)
def valA(n:Nat)(c:UInt8):Nat:=10 *n+(c.toNat-48)
def val(l:List UInt8):Nat:=l.foldl valA 0
def okNum(t:List UInt8):Bool:=decide (1<=t.length)&&decide (t.length<=19)&&t.all isDig&&(t.headD 0 !=48||t.length==1)
def posS(s:List UInt8)(z:Nat):Option Nat:=if okNum s=true/\val s<=z then some (val s) else none
def parseS(s:List UInt8):Option Int:=
 if s.headD 0=45 then(match posS s.tail 9223372036854775808 with
  |some 0=>none
  |some n=>some (-(n:Int))
  |none=>none)
 else(match posS s 9223372036854775807 with
  |some n=>some (n:Int)
  |none=>none)
def textS(n:Int):List UInt8:=if n<0 then 45::dec n.natAbs else dec n.toNat
end Go.R
end
noncomputable section
namespace Go.R
open Go.RowKit Go.WideShapes Go.ChangeShapes
structure Em(w:World)(μ:Emb)(H:Heap):Prop where
 rel:WRel μ H w
 ro: ∀b o,H.get b=some o->o.rw=false
 wf:WF H
 dom: ∀b,H.next<=b->μ b=none
 log:H.log=[]
section
variable {w:World} {μ:Emb} {H:Heap}
theorem Em.lt(h:Em w μ H){b:Nat}{o:AObj}(z:H.get b=some o):b<H.next:=by
 rcases a0j b H.next with h1|h1
 ·exact h1
 rw[h.wf b h1]at z;cases z
theorem Em.add(h:Em w μ H){c sh:Nat}{cs:List Value}(hc:c<w.heap.size)(E: ∀(i:Nat) v,cs[i]?=some v->∃v',w.cell? ⟨c,sh+i,none⟩=some v'/\VRel μ v v'):
  Em w (μ.set H.next ⟨c,sh,none,0⟩) (H.push (.cells cs none true)):=by
 have N:=Emb.set_ext (μ:=μ) (b:=H.next) ⟨c,sh,none,0⟩ (h.dom _ (a0b _))
 have T: ∀b o,(H.push (.cells cs none true)).get b=some o->(b=H.next/\o= .cells cs none true)\/(b≠H.next/\H.get b=some o):=by
  intro b o z;by_cases e:b=H.next
  ·subst e;rw[Heap.get_push_same]at z;exact .inl ⟨V,(Option.some.inj z).symm⟩
  rw[Heap.get_push_ne _ _ (Ne.symm e)]at z;exact .inr ⟨e,z⟩
 have U: ∀b o,(H.push (.cells cs none true)).get b=some o->o.rw=false:=by
  intro b o z;rcases T b o z with⟨_,rfl⟩|⟨_,Z⟩
  ·rfl
  exact h.ro b o Z
 refine⟨⟨fun b l o z ho=>?_,fun b1 b2 l1 l2 o1 o2 _ _ _ h3 _ h5 _=>?_⟩,U,fun b z=>?_,fun b z=>?_,h.log⟩
 ·rcases T b o ho with⟨rfl,rfl⟩|⟨ag,ai⟩
  ·rw[Emb.set_same]at z;obtain rfl:=Option.some.inj z;refine⟨V,V,hc,fun i v hv=>?_⟩;obtain⟨v',Z,h2⟩:=E i v hv;exact⟨v',Z,h2.mono N⟩
  rcases Emb.set_inv z with⟨e,_⟩|⟨_,A⟩
  ·exact absurd e ag
  exact(h.rel.obj b l o A ai).keep N (a0b _) (fun _=>rfl)
 ·rw[U b1 o1 h3]at h5;cases h5
 ·have A:H.next+1<=b:=z;rw[Heap.get_push_ne _ _ M];exact h.wf b M
 have A:H.next+1<=b:=z
 unfold Emb.set
 rw[if_neg M];exact h.dom b M
theorem Em.hs(h:Em w μ H):HS (.of H []) H.get H [] []:=
 ⟨fun b o z=>⟨z,h.lt z⟩,fun p A=>by simp at A,by simp,a0b _,fun b z=> .inl z,fun p A=>by simp at A⟩
end
structure EmLe(μ:Emb)(H:Heap)(μ':Emb)(H':Heap):Prop where
 emb: ∀b l,μ b=some l->μ' b=some l
 heap:Fz.le H.get H'.get
theorem EmLe.refl(μ:Emb)(H:Heap):EmLe μ H μ H:=⟨fun _ _ h=>h,fun _ _ h=>h⟩
theorem EmLe.trans{μ A E:Emb}{H H1 z:Heap}(h:EmLe μ H A H1)(k:EmLe A H1 E z):EmLe μ H E z:=⟨fun b l x=>k.emb b l (h.emb b l x),fun b o x=>k.heap b o (h.heap b o x)⟩
theorem EmLe.add{w:World}{μ:Emb}{H:Heap}(h:Em w μ H)(l:Loc)(o:AObj):EmLe μ H (μ.set H.next l) (H.push o):=
 ⟨Emb.set_ext l (h.dom _ (a0b _)),fun b x z=>by rw[Heap.get_push_ne _ _ (Nat.ne_of_gt (h.lt z))];exact z⟩
section
variable {c_:Type} {enc:TypeId×Value->c_} {P:Program} {w:World} {μ:Emb} {H:Heap}
theorem wf_in64{n:Int}(h:(Lit.int .i64 n).wf=true):in64 n:=by simp[Lit.wf,IntKind.min,IntKind.max,IntKind.signed,IntKind.bits]at h;exact⟨by omega,by omega⟩
theorem RL_ints{F:Fz}: ∀(l:List Int),(∀n∈l,in64 n)->RL F (l.map fun n=>Value.int .i64 n) l
 | [],_=>rfl
 |n::l,h=>⟨[.int .i64 n],l.map fun n=>Value.int .i64 n,V,⟨V,h n (by simp)⟩,RL_ints l fun m z=>h m (by simp[z])⟩
theorem em_ints{base:Nat}{t e:TypeId}{v:Value}{d:DataW c_}{ps:List MemPlace}(h:Em w μ H)(U:P.underlying t=some (.slice e))(he:P.underlying e=some (.int .i64))(hc:P.cellsOf e=1)(ag:Value.okWide P w .any base t v)
  (hd:DataW.Trod enc P w 0 (fun _=>true) true t v d ps):
  ∃μ' H' a k,∃l:List Int,Em w μ' H'/\EmLe μ H μ' H'/\VRel μ' (.slice a l.length k) v/\SR H'.get (.slice a l.length k) l/\(l.length<=maxLen)/\(∃ax,d= .slice (Go.ChangeShapes.lits .i64 l) ax\/d= .nil/\l=[]):=by
 obtain⟨a,len,N,rfl⟩:=okWide_slice U ag
 obtain⟨fuel,hf⟩:=hd
 rcases Go.ChangeShapes.open_ints U he hc hf with⟨T,E⟩|⟨a',len',a5,z,T,_,a1,bl,av,E,al,a4⟩
 ·simp[Value.cells]at T;obtain⟨rfl,rfl,rfl⟩:=T;simp only[a01]at E;exact⟨μ,H,none,0,[],h,.refl _ _,.atom _ V,.nil,a0I _,[],.inr ⟨E.1,V⟩⟩
 simp[Value.cells]at T
 obtain⟨rfl,rfl,rfl⟩:=T
 have a2:a'.spot=none/\a'.block<w.heap.size:=by
  have ad:Cell.ok P w .any base t (.slice (some a') len N):=by have:=ag;unfold Value.okWide at this;rw[U]at this;simp only at this;unfold Cell.okWide at this;rw[U]at this;exact this
  unfold Cell.ok at ad;rw[U]at ad;obtain⟨_,_,_,a3,bz,cells,hs,_⟩:=ad;refine⟨a3,?_⟩;unfold World.shape? at hs;split at hs
  ·rename_i a0;exact(a0C.1 a0).1
  cases hs
 obtain⟨c,off,sp⟩:=a'
 obtain⟨rfl,ay⟩:=a2
 simp only[if_true]at av
 have ar: ∀n∈z.take len,in64 n:=fun n hn=>wf_in64 (a4 n (a1v hn))
 have hl:(z.take len).length=len:=by rw[a0k];omega
 have hA:=h.add (c:=c) (sh:=off) (cs:=(z.take len).map fun n=>Value.int .i64 n) ay (fun i v Z=>by
  rw[a1n]at Z;cases A:(z.take len)[i]? with
  |none=>rw[A]at Z;cases Z
  |some n=>
   rw[A]at Z
   obtain rfl:=Option.some.inj Z
   have hi:=(a0q.1 A).1
   have ao:=al i (by rw[hl]at hi;omega)
   have hn:z.getD i 0=n:=by
    rw[a0A]at A;split at A
    ·rw[a03,A];rfl
    cases A
   refine⟨_,?_,.atom _ V⟩
   rw[hn]at ao
   rw[←ao]
   congr 1
   unfold Addr.add
   split
   ·rename_i h0;subst h0;rfl
   rfl)
 refine⟨_,_,some ⟨H.next,0,none⟩,N,z.take len,hA,.add h _ _,?_,?_,by rw[hl];omega,z.drop len|>Go.ChangeShapes.lits .i64,.inl ?_⟩
 ·rw[hl];have:=VRel.sliceC (μ:=μ.set H.next ⟨c,off,none,0⟩) H.next 0 len N ⟨c,off,none,0⟩ (Emb.set_same _ _ _) V;simpa using this
 ·refine .inr ⟨H.next,0,N,_,V,Heap.get_push_same _ _,_,none,true,V,fun E=>(by cases E),(by rw[hl];exact a1),?_,.inl V⟩;have e1:((z.take len).map fun n=>Value.int .i64 n).length=(z.take len).length *Rp.sz Int:=by rw[a1G];show _=_ *1;omega
  rw[a1a,←e1,a1h];exact RL_ints _ ar
 simp only[a01]at E
 exact E.1
end
section
variable {c_:Type} {enc:TypeId×Value->c_} {P:Program}
theorem iC{w w':World}{base:Nat}{z:Nat->Bool}{held:Bool}: ∀{E:List TypeId} {N:List Value} {ds:List (DataW c_)} {ps:List MemPlace},DataW.TrodAll enc P w base z held E N ds ps->(∀p∈ps,w.sameAt w' p)->DataW.TrodAll enc P w' base z held E N ds ps
 | [],[],[],_,h,_=>h
 |_::_,_::_,_::_,_,⟨p,q,⟨n,h1⟩,h2,e⟩,hs=>⟨p,q,⟨n,DataW.trod_carry n _ _ _ h1 fun x A=>hs x (by rw[e];exact List.mem_append_left _ A)⟩,iC h2 fun x A=>hs x (by rw[e];exact List.mem_append_right _ A),e⟩
theorem post_law{f:Func}{s:ChangeSpec}{E ad N Z:Bool}{W W':World}{args:Array Value}{ds gs:List (DataW c_)}{A:List MemPlace}{tb:TypeId}
  (K:Kids P (· <P.types.size)) (an: ∀t e,t<P.types.size->P.underlying t=some (.slice e)->0<P.cellsOf e) (av: ∀t∈f.params.toList,t<P.types.size)
  (hW:DataW.Whole enc P f.params.toList s.vars E W args.toList ds gs A) (U:s.vars=[]) (z:f.resultTypes= #[tb]) (ai:P.underlying tb=some .bool)
  (T:s.fn c_ (ds++gs)={results:=[.lit (.bool true)],args:=ds}) (hb:Below W.heap.size W W'):s.post enc P f E ad N Z W args (.bool true) W':=by
 have a1: ∀p∈A,p.block<W.heap.size:=fun p hp=>by simpa using hW.lt p hp
 have ay:=hW
 obtain⟨p,q,hA,hV,rfl,a9,bb⟩:=hW
 have hq:q=[]/\gs=[]:=by
  rw[U]at hV;cases gs with
  |nil=>exact⟨hV,V⟩
  |cons _ _=>exact absurd hV id
 obtain⟨rfl,rfl⟩:=hq
 refine l8 (pa:=p) (pv:=[]) ay (fun b sp hd=>?_) (fun sp a2=>?_) (fun sp _=>?_) V hb ?_
 ·rw[T,z];exact trodAll_cons_mk (shut_bool ai true) V
 ·rw[T];refine DataW.TrodAll.respare K an av (iC hA fun x hx=>hb.same (a1 x (by simpa using hx))) fun x hx=>a2 x (by simpa using hx)
 ·rw[U,T];rfl
 rw[z]
 intro j t r h1 h2
 exact ok_one (f:=f) z V (okWide_bool_mk ai true) j t r (by rw[z];exact h1) (by rw[z];exact h2)
end
end Go.R
end
noncomputable section
namespace Go.R
open Go
section
variable {P:Program} {d:Nat} {t:TypeId}
theorem eqI{k:IntKind}{a b:Int}(z:P.underlying t=some (.int k)):aB P (Op.equalIn (d+1) t (.int k a) (.int k b))=some (a==b):=by simp[Op.equalIn,underlying,z]
theorem eqB{a b:Bool}(z:P.underlying t=some .bool):aB P (Op.equalIn (d+1) t (.bool a) (.bool b))=some (a==b):=by simp[Op.equalIn,underlying,z]
structure EqF(P:Program)(d:Nat)(xs ys:Array Value)(f:Field)(b:Bool):Prop where
 named:f.name≠ "_"
 ok: ∃u v,aB P (part f.type xs f.offset)=some u/\aB P (part f.type ys f.offset)=some v/\aB P (Op.equalIn d f.type u v)=some b
inductive EqFs(P:Program)(d:Nat)(xs ys:Array Value):List Field->List Bool->Prop
 |nil:EqFs P d xs ys [] []
 |cons {f b fs bs}:EqF P d xs ys f b->EqFs P d xs ys fs bs->EqFs P d xs ys (f::fs) (b::bs)
def eqLoop(d:Nat)(xs ys:Array Value)(fs:List Field):Sem (Option Bool×Unit):=
 forIn fs ((none:Option Bool),()) fun f (_:Option Bool×Unit)=>
  if f.name≠ "_" then do
   if !(←Op.equalIn d f.type (←part f.type xs f.offset) (←part f.type ys f.offset)) then pure (ForInStep.done (some false,()))
   else pure (ForInStep.yield (none,()))
  else pure (ForInStep.yield (none,()))
theorem eq_loop{xs ys:Array Value}{fs:List Field}{bs:List Bool}(h:EqFs P d xs ys fs bs):
  aB P (eqLoop d xs ys fs)=some (if bs.all id=true then none else some false,()):=by
 induction h with
 |nil=>simp[eqLoop]
 | @cons f b fs bs hf _ ih=>
  obtain⟨N,u,v,z,A,E⟩:=hf
  unfold eqLoop at ih⊢
  rw[List.forIn_cons,if_pos N]
  simp only[aJ,z,A,E,a0l]
  cases b
  ·simp
  simp only[a1x,a0O,if_false,bG,a0l,ih]
  simp
theorem eq_struct{fs:Array Field}{xs ys:Array Value}{bs:List Bool}(z:P.underlying t=some (.struct fs))(hs:P.stoodInHeld t=false)
  (h:EqFs P d xs ys fs.toList bs):aB P (Op.equalIn (d+1) t (.agg xs) (.agg ys))=some (bs.all id):=by
 simp only[Op.equalIn,underlying,aJ,eA,a0l,z,bG,hs,a0O,if_false]
 rw[←Array.forIn_toList]
 have:=eq_loop h
 unfold eqLoop at this
 rw[this]
 cases bs.all id<;>rfl
end
section
variable {P:Program} {ρ:Operand->Value} {d:Option Tmp} {ty:TypeId} {pos:String} {af:Array Edge} {gd:Option (Nat×Bool)} {H:Heap}
theorem hZ{cs:List Value}(h:cs.all noA0=true):gZ (.agg ⟨cs⟩)=true:=h
theorem ap_agEq{t yt:TypeId}{x y:Operand}{xs ys:List Value}{fs:Array Field}{bs:List Bool}(z:ρ x= .agg ⟨xs⟩)(N:ρ y= .agg ⟨ys⟩)
  (A:xs.all noA0=true) (E:ys.all noA0=true)
  (hu:P.underlying t=some (.struct fs)) (hs:P.stoodInHeld t=false) (hg:P.eqGuardType P.depth t=false)
  (h:EqFs P 9999 ⟨xs⟩ ⟨ys⟩ fs.toList bs):AP P ρ ⟨d,.binOp .eql t x y yt,ty,pos,af,gd⟩ H (.val (.bool (bs.all id)),H):=by
 refine⟨?_⟩
 show aBin P ρ _ .eql t (ρ x) y H=_
 rw[z]
 show bD P ρ _ H=_
 unfold bD
 have Z:((Op.binOp .eql t x y yt).operands.toList.all fun x=>gZ (ρ x))=true:=by simp[Op.operands,z,N,hZ A,hZ E]
 simp only[Z,cond_true]
 have h2:aB P (execOp ρ ⟨d,.binOp .eql t x y yt,ty,pos,af,gd⟩)=some (.value (Value.bool (bs.all id))):=by
  unfold execOp;simp only[z,N,aJ];have T:aB P (eqGuard .eql t x y (.agg ⟨xs⟩) (.agg ⟨ys⟩))=some ():=by simp[eqGuard,hg]
  have U:aB P (binOp .eql t (.agg ⟨xs⟩) (.agg ⟨ys⟩))=some (Value.bool (bs.all id)):=by show aB P (Op.equal t (.agg ⟨xs⟩) (.agg ⟨ys⟩)>>=fun b=>(Pure.pure (Value.bool b):Sem Value))=_;rw[aJ,show Op.equal t (.agg ⟨xs⟩) (.agg ⟨ys⟩)=Op.equalIn (9999+1) t (.agg ⟨xs⟩) (.agg ⟨ys⟩) from V,eq_struct hu hs h];rfl
  simp only[T,U,a0l];rfl
 rw[h2];rfl
end
end Go.R
end
noncomputable section
namespace Go.R
open Go.RowKit
def tcell(n:Nat):AObj:= .cells [.slice (some ⟨1,0,none⟩) n n] none true
open Classical in
def KT(z ex n:Nat)(cells:List Value):bM:=fun f args H=>match args with
 | []=>bif (Nat.ble f z&&Nat.beq f ex) then(if H.get 0=some (tcell n)/\H.get 1=some (.cells cells none true) then some (.bool true) else none) else none
 |_=>none
theorem kt_ok{P:Program}{U ex n fuel:Nat}{cells:List Value}(h:saysTrue (call P 1 noneKnown fuel ex [] (tabHeap n cells))=true)(N:cells.all noA0=true)(an:cells≠ [])(a7:0<n:=by decide):KnownOK P 1 (KT U ex n cells):=by
 intro f args H v z;unfold KT at z;split at z
 ·cases Z:(Nat.ble f U&&Nat.beq f ex) with
  |false=>rw[Z]at z;cases z
  |true=>
   rw[Z]at z
   simp only[cond_true]at z
   split at z
   ·rename_i hT;obtain rfl:=Option.some.inj z;obtain rfl:=a09 (Bool.and_eq_true_iff.1 Z).2;refine⟨V,V,fun μ A w hc hG hw=>?_⟩;obtain rfl:A= #[]:=by cases A;simp_all
    obtain⟨l0,ai,hc0,av⟩:=hG 0 (Nat.zero_lt_succ _);obtain⟨_,_,_,h4⟩:=hw.obj 0 l0 _ ai hT.1;obtain⟨v',T,hr⟩:=h4 0 _ V;obtain⟨E,al,ar⟩:=hr.slice_inv;obtain⟨ao,_,_,h5⟩:=hw.obj 1 E _ al hT.2;have e1:v'= .slice (some ⟨E.c,E.sh+0,none⟩) n n:=by
     rcases ar with⟨_,e⟩|⟨e,o',k',hx,_⟩|⟨hz,_,_⟩
     rotate_right
     ·omega
     ·exact e
     rw[ao]at hx;cases hx
    subst e1;rw[hc0,av]at T;refine jp none_ok h N (c:=E.c) (o:=E.sh+0) T an fun i v hv=>?_
    obtain⟨a8,h6,h7⟩:=h5 i v hv;rw[h7.eq0 (a0y.1 N v (a0n hv))]at h6;simpa using h6
   cases z
 cases z
theorem Em.tab{w:World}{n c o:Nat}{cells:List Value}(an:cells.all noA0=true)(ar:cells≠ [])
  (h0:w.cell? ⟨0,0,none⟩=some (.slice (some ⟨c,o,none⟩) n n)) (h1: ∀i v,cells[i]?=some v->w.cell? ⟨c,o+i,none⟩=some v):
  ∃μ,Em w μ (tabHeap n cells)/\GRel μ 1:=by
 have T: ∀{a:Addr} {v:Value},w.cell? a=some v->a.block<w.heap.size:=by
  intro a v A;unfold World.cell? at A;split at A
  ·rename_i ao;exact(a0C.1 ao).1
  cases A
 let μ:Emb:=fun b=>if b=1 then some ⟨c,o,none,0⟩ else if b=0 then some ⟨0,0,none,0⟩ else none
 have U: ∀b x,(tabHeap n cells).get b=some x->x.rw=false:=by
  intro b x z;rw[cN]at z;split at z
  ·injection z with z;subst z;rfl
  split at z
  ·injection z with z;subst z;rfl
  cases z
 refine⟨μ,⟨⟨fun b l x N z=>?_,fun b1 b2 l1 l2 o1 o2 _ _ _ h3 _ h5 _=>?_⟩,U,fun b N=>?_,fun b N=>?_,V⟩,fun g hg=>?_⟩
 ·rw[cN]at z;by_cases e1:b=1
  ·subst e1;rw[if_pos rfl]at z;injection z with z;subst z;have E:l=⟨c,o,none,0⟩:=(Option.some.inj N).symm;subst E;refine⟨V,V,?_,fun i v A=>⟨v,h1 i v A,.atom v (a0y.1 an v (a0n A))⟩⟩;cases cells with
   |nil=>exact absurd V ar
   |cons v r=>exact T (h1 0 v V)
  rw[if_neg e1]at z;by_cases Z:b=0
  ·subst Z;rw[if_pos rfl]at z;injection z with z;subst z;have E:l=⟨0,0,none,0⟩:=(Option.some.inj N).symm;subst E;refine⟨V,V,T h0,fun i v A=>?_⟩;cases i with
   |zero=>
    simp only[a0W,a00]at A;subst A
    exact⟨_,h0,.sliceC 1 0 n n ⟨c,o,none,0⟩ V V⟩
   |succ i=>simp at A
  rw[if_neg Z]at z;cases z
 ·rw[U b1 o1 h3]at h5;cases h5
 ·have E:2<=b:=N;rw[cN,if_neg M,if_neg M]
 ·have E:2<=b:=N;show(if b=1 then _ else if b=0 then _ else none)=none;rw[if_neg M,if_neg M]
 have:g=0:=M
 subst this
 exact⟨⟨0,0,none,0⟩,V,V,V⟩
theorem walk_of_EmG{P:Program}{G:Nat}{K:bM}{w:World}{μ:Emb}{H:Heap}(U:KnownOK P G K)(h:Em w μ H)(T:GRel μ G){f:FuncId}{args:List Value}{z:Array Value}(Z:LRel μ args z.toList)(hc:C P G K f args H fun v _=>v= .bool true):
  Calls P f z w fun e w'=>e= .returned (.bool true)/\Below w.heap.size w w':=by
 obtain⟨n,v,H',N,rfl⟩:=hc.out
 obtain⟨_,A⟩:=call_ok U n f args H (.bool true) H' N h.wf
 refine(A μ w z Z T h.rel (fun b hb _=>h.dom b hb)).mono ?_
 rintro e w' ⟨μ',v',rfl,hr,hp⟩
 rw[hr.eq2 rfl]
 exact⟨V,hp.os,hp.tape,hp.out,hp.grow,fun k hk=>hp.keep k hk fun b l x _ hx E=>by rw[h.ro b x hx]at E;cases E⟩
structure TB(n:Nat)(cells:List Value)(F:Fz):Prop where
 at0:F 0=some (tcell n)
 at1:F 1=some (.cells cells none true)
section
variable {n:Nat} {cells:List Value} {F F':Fz}
theorem TB.mono(h:TB n cells F)(z:Fz.le F F'):TB n cells F':=⟨z _ _ h.at0,z _ _ h.at1⟩
theorem TB.start:TB n cells (tabHeap n cells).get:=⟨by rw[cN,if_neg M,if_pos rfl];rfl,by rw[cN,if_pos rfl]⟩
theorem TB.known{z ex:Nat}{H:Heap}(h:TB n cells H.get)(A:Nat.ble ex z=true):KT z ex n cells ex [] H=some (.bool true):=by show(bif (Nat.ble ex z&&Nat.beq ex ex) then _ else _)=_;rw[A,a12,a0X,cond_true,if_pos ⟨h.at0,h.at1⟩]
theorem TB.heap{B:Base}{H:Heap}{L R:List Fp}(h:TB n cells F)(hs:HS B F H L R):TB n cells H.get:=⟨(hs.fz _ _ h.at0).1,(hs.fz _ _ h.at1).1⟩
theorem TB.hc{get:Nat->Option AObj}(h:TB n cells get):HC get 0 0 [.slice (some ⟨1,0,none⟩) n n]:=⟨_,none,true,h.at0,V⟩
theorem TB.sr{α:Type} [Rp α]{l:List α}(h:TB n cells F)(E:l.length=n)(z:RL F cells l):SR F (.slice (some ⟨1,0,none⟩) l.length n) l:=by refine .inr ⟨1,0,n,_,V,h.at1,_,none,true,V,fun N=>(by cases N),Nat.le_of_eq E,?_,.inl V⟩;have A:cells.length=l.length *Rp.sz α:=z.length;rw[a1a,←A,a1h];exact z
end
end Go.R
end
noncomputable section
set_option linter.unusedVariables false
set_option linter.unusedSimpArgs false
namespace Go.R
inductive Hint where
 |p
 |w
 |e (n:Int)
 |o (v:Value)
 |r (q:Nat)
abbrev Ch:=List (Nat×Bool)
def bq:Bool->Bool->Bool
 |true,b=>b
 |false,b=> !b
theorem bq_eq{a b:Bool}(h:bq a b=true):a=b:=by cases a<;>cases b<;>first|rfl|cases h
def gl:List (Nat×Bool)->Nat->Option Bool
 | [],_=>none
 |(s,g)::G,t=>bif Nat.beq s t then some g else gl G t
def act(G:List (Nat×Bool)):Ch->Bool
 | []=>true
 |(s,w)::c=>(match gl G s with|some g=>bq g w|none=>false)&&act G c
def memC(s:Nat)(w:Bool):Ch->Bool
 | []=>false
 |(s',w')::c=>(Nat.beq s' s&&bq w' w)||memC s w c
def subC:Ch->Ch->Bool
 | [],_=>true
 |(s,w)::a,c=>memC s w c&&subC a c
def lk:List (Nat×Ch×Value)->Nat->Option (Ch×Value)
 | [],_=>none
 |(s,x)::m,t=>bif Nat.beq s t then some x else lk m t
structure SS where
 m:List (Nat×Ch×Value)
 G:List (Nat×Bool)
def SS.rd(S:SS)(f:Fn):Operand->Value
 | .tmp t=>match lk S.m t with
  |some x=>x.2
  |none=>f t
 | .const v=>v
 | .global g=> .pointer (some ⟨g,0,none⟩)
 | .func i=> .func (.func i) #[] #[]
def SS.can(S:SS)(c:Ch):Operand->Bool
 | .tmp t=>match lk S.m t with
  |some x=>subC x.1 c
  |none=>true
 |_=>true
def impl(G:List (Nat×Bool)):Ch->Prop->Prop
 | [],p=>p
 |(s,w)::c,p=>match gl G s with
  |some g=>g=w->impl G c p
  |none=>True
def jJ(G:List (Nat×Bool))(s:Nat)(g:Bool):List (Nat×Bool):=match gl G s with
 |some _=>G
 |none=>(s,g)::G
def holds:Option Prop->Prop
 |none=>True
 |some p=>p
def andO(q:Option Prop)(p:Prop):Prop:=match q with
 |none=>p
 |some q=>q/\p
def rng(k:IntKind)(n:Int):Prop:=match k with
 | .i64=> -9223372036854775808<=n/\n<9223372036854775808
 | .u64=>0<=n/\n<18446744073709551616
 | .u8=>0<=n/\n<256
 |k=>k.wrap n=n
theorem rng_wrap{k:IntKind}{n:Int}(h:rng k n):k.wrap n=n:=by
 cases k with
 |i64=>exact w_i64 h
 |u64=>exact w_u64 h
 |u8=>exact w_u8 h
 |_=>exact h
def kq:IntKind->IntKind->Bool
 | .i64,.i64=>true
 | .u64,.u64=>true
 | .u8,.u8=>true
 | .i32,.i32=>true
 | .u32,.u32=>true
 |_,_=>false
theorem kq_eq{k z:IntKind}(h:kq k z=true):z=k:=by cases k<;>cases z<;>first|rfl|cases h
abbrev VP:=Option (Value×Option Prop)
def ari(h:Hint)(k:IntKind)(n:Int):VP:=match h with
 | .w=>some (.int k (k.wrap n),none)
 | .e m=>some (.int k m,some (n=m/\rng k m))
 |_=>some (.int k n,some (rng k n))
def bi(h:Hint)(k:IntKind)(n:Int):VP:=match h with
 | .e m=>some (.int k m,some (n=m))
 |_=>some (.int k n,none)
def withP(p:Prop):VP->VP
 |some (v,none)=>some (v,some p)
 |some (v,some q)=>some (v,some (p/\q))
 |none=>none
def pint(h:Hint)(op:BinOp)(k:IntKind)(x y:Int):VP:=match op with
 | .add=>ari h k (x+y)
 | .sub=>ari h k (x-y)
 | .mul=>ari h k (x *y)
 | .quo=>withP (y≠0) (ari h k (x.tdiv y))
 | .rem=>withP (y≠0) (bi h k (x.tmod y))
 | .and=>bi h k (aX .and k x y)
 | .or=>bi h k (aX .or k x y)
 | .xor=>bi h k (aX .xor k x y)
 | .andNot=>bi h k (aX .andNot k x y)
 | .eql=>some (.bool (x==y),none)
 | .neq=>some (.bool (x !=y),none)
 | .lss=>some (.bool (decide (x<y)),none)
 | .leq=>some (.bool (decide (x<=y)),none)
 | .gtr=>some (.bool (decide (y<x)),none)
 | .geq=>some (.bool (decide (y<=x)),none)
 |_=>none
def AGB(P:Program)(op:BinOp)(t:TypeId)(a b v:Value):Prop:= ∀(ρ:Operand->Value) (x y:Operand) (yt:TypeId) (d:Option Tmp) (ty:TypeId) (pos:String) (af:Array Edge) (gd:Option (Nat×Bool)) (H:Heap),ρ x=a->ρ y=b->AP P ρ ⟨d,.binOp op t x y yt,ty,pos,af,gd⟩ H (.val v,H)
def isBT(P:Program)(t:TypeId):Bool:=match P.underlying t with
 |some .bool=> !P.eqGuardType P.depth t
 |_=>false
def pbin(P:Program)(h:Hint)(op:BinOp)(t:TypeId)(a b:Value):VP:=match a,b with
 | .int k x,.int k' y=>match op with
  | .shl=>withP (0<=y) (bi h k (k.wrap (x *2^(Nat.min y.toNat k.bits))))
  | .shr=>withP (0<=y) (bi h k (x.fdiv (2^(Nat.min y.toNat k.bits))))
  |op=>bif kq k k' then pint h op k x y else none
 | .string ⟨⟨x⟩⟩,.string ⟨⟨y⟩⟩=>match op with
  | .eql=>some (.bool (x==y),none)
  | .neq=>some (.bool (x !=y),none)
  | .lss=>some (.bool (Op.bytesLess x y),none)
  | .leq=>some (.bool (Op.bytesLess x y||x==y),none)
  | .add=>some (.string ⟨⟨x++y⟩⟩,some (x.length+y.length<=1099511627776))
  |_=>none
 | .bool x,.bool y=>bif isBT P t then match op with
  | .eql=>some (.bool (x==y),none)
  | .neq=>some (.bool (x !=y),none)
  |_=>none else none
 | .agg x,.agg y=>match h with
  | .o v=>some (v,some (AGB P op t (.agg x) (.agg y) v))
  |_=>none
 | .pointer a,.pointer b=>match nilEq P t (.pointer a) (.pointer b),op with
  |some r,.eql=>some (.bool r,none)
  |some r,.neq=>some (.bool (!r),none)
  |_,_=>none
 | .slice a n k,.slice b n' k'=>match nilEq P t (.slice a n k) (.slice b n' k'),op with
  |some r,.eql=>some (.bool r,none)
  |some r,.neq=>some (.bool (!r),none)
  |_,_=>none
 |_,_=>none
def pun(h:Hint)(op:UnOp)(v:Value):VP:=match op,v with
 | .not,.bool b=>some (.bool (!b),none)
 | .neg,.int k n=>ari h k (0-n)
 | .xor,.int k n=>bi h k (bits .xor k (if k.signed then-1 else k.max) n)
 |_,_=>none
structure FW where
 ld:TypeId->Value->Value->Prop
 cl:FuncId->List Value->Value->Prop
 cv:TypeId->TypeId->Option Addr->Nat->Value->Prop
 sl:TypeId->Value->Option Value->Option Value->Value->Prop
 lk:TypeId->Value->Value->Bool->Value->Prop
def pconv(P:Program)(W:FW)(h:Hint)(s t:TypeId)(v:Value):VP:=match v with
 | .int _ n=>match P.underlying s,P.underlying t with
  |some _,some (.int k')=>ari h k' n
  |_,_=>none
 | .slice a n k=>match h with
  | .o v=>some (v,some (W.cv s t a n v))
  |_=>none
 |_=>none
def ppick(g:Bool)(a b:Value):Option Value:=match a,b with
 | .bool x,.bool y=>some (.bool (bif g then x else y))
 | .int k x,.int k' y=>bif kq k k' then some (.int k (bif g then x else y)) else none
 | .string x,.string y=>some (.string ⟨⟨bif g then x.data.toList else y.data.toList⟩⟩)
 |_,_=>none
def LDv(P:Program)(H:Heap)(t:TypeId)(a w:Value):Prop:=ek P t a H=some (.val w,H)
def IX(v:Value)(j:Int):Prop:= ∃b o n k,v= .slice (some ⟨b,o,none⟩) n k/\0<=j/\j<n/\n<=k
def pidx(P:Program)(t:TypeId)(a i:Value):VP:=match a,i with
 | .string ⟨⟨s⟩⟩,.int _ j=>match P.underlying t with
  |some .string=>some (.int .u8 ((s.getD j.toNat 0).toNat:Int),some (0<=j/\j<s.length))
  |_=>none
 | .agg x,w=>match aB P (Instr.index t (.agg x) w) with
  |some r=>some (r,none)
  |none=>none
 |_,_=>none
def pidxA(P:Program)(t:TypeId)(a i:Value):VP:=match a,i with
 | .slice x n k,.int _ j=>match P.underlying t with
  |some (.slice e)=>match cY P e with
   |some z=>some (.pointer (some ⟨sB (.slice x n k),sO (.slice x n k)+j.toNat *z,none⟩),some (IX (.slice x n k) j))
   |none=>none
  |_=>none
 | .pointer (some ⟨b,o,none⟩),.int _ j=>match P.underlying t with
  |some (.array n e)=>match cY P e with
   |some z=>some (.pointer (some ⟨b,o+j.toNat *z,none⟩),some (0<=j/\j<n))
   |none=>none
  |_=>none
 |_,_=>none
def pslice(P:Program)(W:FW)(h:Hint)(t:TypeId)(x:Value)(lo hi:Option Value):VP:=match x with
 | .string ⟨⟨s⟩⟩=>match P.underlying t with
  |some .string=>match lo,hi with
   |none,none=>some (.string ⟨⟨s⟩⟩,none)
   |some (.int _ i),none=>some (.string ⟨⟨s.drop i.toNat⟩⟩,some (0<=i/\i<=s.length))
   |none,some (.int _ j)=>some (.string ⟨⟨s.take j.toNat⟩⟩,some (0<=j/\j<=s.length))
   |some (.int _ i),some (.int _ j)=>some (.string ⟨⟨(s.drop i.toNat).take (j.toNat-i.toNat)⟩⟩,some (0<=i/\i<=j/\j<=s.length))
   |_,_=>none
  |_=>none
 |x=>match h with
  | .o v=>some (v,some (W.sl t x lo hi v))
  |_=>none
def plen(P:Program)(t:TypeId)(x:Value):VP:=match x with
 | .string ⟨⟨s⟩⟩=>match P.underlying t with
  |some .string=>some (.int .i64 (s.length:Int),none)
  |_=>none
 | .slice _ n _=>match P.underlying t with
  |some (.slice _)=>some (.int .i64 (n:Int),none)
  |_=>none
 |_=>none
def pmm(w:Bool)(a b:Value):VP:=match a,b with
 | .int k x,.int _ y=>some (.int k (bif w then(if y<x then y else x) else(if y>x then y else x)),none)
 |_,_=>none
def pcall(P:Program)(W:FW)(h:Hint)(ρ:Operand->Value)(c:Call):VP:=match c.callee with
 | .builtin .len=>match c.argTypes.toList,c.args.toList with
  | [t],[x]=>plen P t (ρ x)
  |_,_=>none
 | .builtin .min=>match c.args.toList with
  | [x,y]=>pmm true (ρ x) (ρ y)
  |_=>none
 | .builtin .max=>match c.args.toList with
  | [x,y]=>pmm false (ρ x) (ρ y)
  |_=>none
 | .value f=>match fM P (ρ f) (dQ ρ c.args.toList),h with
  |some (.enter g args),.o v=>some (v,some (W.cl g args v))
  |_,_=>none
 |_=>none
def ppk(a b:Operand)(g:Bool)(x y:Value):Option Value:=match b,x with
 | .const (.bool false),.bool x=>some (.bool (g&&x))
 |_,_=>match a,y with
  | .const (.bool true),.bool y=>some (.bool (g||y))
  |_,_=>ppick g x y
def optV{α:Type}(r:Option α):Option (α×Option Prop):=match r with
 |some v=>some (v,none)
 |none=>none
def W0(P:Program)(G0:Nat)(K:bM)(H:Heap):FW:=⟨LDv P H,fun g args v=>C P G0 K g args H fun v' H'=>v'=v/\H'=H,fun s t a n v=>eK P s t a n H=some v,fun t x lo hi v=>bA P t x lo hi none H=some v,fun t m k ok v=>eM P t m k ok H=some v⟩
def WJ(P:Program)(G0:Nat)(K:bM)(d_:Heap->Prop):FW:=⟨fun t a v=> ∀H,d_ H->LDv P H t a v,fun g args v=> ∀H,d_ H->C P G0 K g args H fun v' H'=>v'=v/\d_ H',fun s t a n v=> ∀H,d_ H->eK P s t a n H=some v,fun t x lo hi v=> ∀H,d_ H->bA P t x lo hi none H=some v,fun t m k ok v=> ∀H,d_ H->eM P t m k ok H=some v⟩
structure FW.OK(P:Program)(G0:Nat)(K:bM)(d_:Heap->Prop)(W:FW):Prop where
 ld: ∀{t a v},W.ld t a v->∀H,d_ H->LDv P H t a v
 cl: ∀{g args v},W.cl g args v->∀H,d_ H->C P G0 K g args H fun v' H'=>v'=v/\d_ H'
 cv: ∀{s t a n v},W.cv s t a n v->∀H,d_ H->eK P s t a n H=some v
 sl: ∀{t x lo hi v},W.sl t x lo hi v->∀H,d_ H->bA P t x lo hi none H=some v
 lk: ∀{t m k ok v},W.lk t m k ok v->∀H,d_ H->eM P t m k ok H=some v
theorem ok0{P:Program}{G0:Nat}{K:bM}{H:Heap}:(W0 P G0 K H).OK P G0 K (· =H):=⟨fun h _ e=>e▸h,fun h _ e=>e▸h,fun h _ e=>e▸h,fun h _ e=>e▸h,fun h _ e=>e▸h⟩
theorem okJ{P:Program}{G0:Nat}{K:bM}{d_:Heap->Prop}:(WJ P G0 K d_).OK P G0 K d_:=⟨fun h=>h,fun h=>h,fun h=>h,fun h=>h,fun h=>h⟩
def pop(P:Program)(W:FW)(h:Hint)(ρ:Operand->Value)(op:Op):VP:=match op with
 | .move x=>some (ρ x,none)
 | .assign x=>some (ρ x,none)
 | .binOp op t x y _=>pbin P h op t (ρ x) (ρ y)
 | .unOp op _ x=>pun h op (ρ x)
 | .convert s t x=>pconv P W h s t (ρ x)
 | .load t a=>match h with
  | .o v=>some (v,some (W.ld t (ρ a) v))
  |_=>none
 | .lookup t m x ok=>match h with
  | .o v=>some (v,some (W.lk t (ρ m) (ρ x) ok v))
  |_=>none
 | .index t x i=>pidx P t (ρ x) (ρ i)
 | .indexAddr t x i=>pidxA P t (ρ x) (ρ i)
 | .field t x f=>optV (gY P t (ρ x) f)
 | .fieldAddr s x f=>optV (iB P s (ρ x) f)
 | .extract x i=>optV (gy (ρ x) i)
 | .build t parts=>match cJ P t with
  |some _=>match bldL P t (dQ (fun p=>(p.1,ρ p.2)) parts.toList) with
   |some cs=>some (.agg ⟨cs⟩,none)
   |none=>optV (aB P (Instr.build t (parts.map fun p=>(p.1,ρ p.2))))
  |none=>none
 | .slice t x lo hi none=>pslice P W h t (ρ x) (lo.map ρ) (hi.map ρ)
 | .call c=>pcall P W h ρ c
 | .nilCheck x=>match ρ x with
  | .pointer (some a)=>some (.pointer (some a),none)
  | .func (.func f) a c=>some (.func (.func f) a c,none)
  |_=>none
 | .makeFunc fn first cap=>some (.func fn (first.map ρ) (cap.map ρ),none)
 |_=>none
def mF(ops:Array Oper)(f:Fn)(S:SS):Option (Nat×Bool)->Option (Ch×List (Nat×Bool))
 |none=>some ([],S.G)
 |some (j,w)=>match (ops[j]?).bind (·.dst) with
  |some d=>match lk S.m d with
   |some (c,.bool g)=>some ((d,w)::c,jJ S.G d g)
   |some _=>none
   |none=>match f d with
    | .bool g=>some ([(d,w)],jJ S.G d g)
    |_=>none
  |none=>none
def putS(q:Option Prop)(c:Ch)(G:List (Nat×Bool))(m:List (Nat×Ch×Value))(d:Nat)(v:Value):Option (SS×Option Prop):=
 match gl G d with
 |some _=>none
 |none=>fcL G fun G=>fcL c fun c=>some (⟨(d,c,v)::m,G⟩,match q with
  |none=>none
  |some p=>some (impl G c p))
def fcC{β:Type}(v:Value)(k:Value->β):β:=match v with
 | .int a n=>k (.int a n)
 | .bool b=>k (.bool b)
 | .string ⟨⟨l⟩⟩=>k (.string ⟨⟨l⟩⟩)
 | .pointer a=>k (.pointer a)
 | .slice a n m=>k (.slice a n m)
 |v=>k v
theorem fcC_eq{β:Type}(v:Value)(k:Value->β):fcC v k=k v:=by cases v<;>rfl
def fcM{β:Type}:List Value->(List Value->β)->β
 | [],k=>k []
 |a::l,k=>fcC a fun a=>fcM l fun r=>k (a::r)
theorem fcM_eq{β:Type}: ∀(l:List Value) (k:List Value->β),fcM l k=k l
 | [],_=>rfl
 |a::l,k=>by unfold fcM;rw[fcC_eq,fcM_eq l]
def fcV{β:Type}(v:Value)(k:Value->β):β:=match v with
 | .agg ⟨l⟩=>fcM l fun l=>k (.agg ⟨l⟩)
 |v=>fcC v k
theorem fcV_eq{β:Type}(v:Value)(k:Value->β):fcV v k=k v:=by
 unfold fcV;split
 ·exact fcM_eq _ _
 exact fcC_eq _ _
def fcH{β:Type}(h:Hint)(v:Value)(k:Value->β):β:=match h with
 | .o _=>k v
 |_=>fcV v k
theorem fcH_eq{β:Type}(h:Hint)(v:Value)(k:Value->β):fcH h v k=k v:=by cases h<;>first|rfl|exact fcV_eq _ _
def stepS(P:Program)(G0:Nat)(W:FW)(sz:Nat)(ops:Array Oper)(f:Fn)(S:SS)(h:Hint)(o:Oper):Option (SS×Option Prop):=
 match o.dst with
 |none=>none
 |some d=>
  bif Nat.ble (d+1) sz&&o.op.operands.toList.all (bg G0) then
   match mF ops f S o.guard with
   |none=>none
   |some (c,G1)=>
    match o.op with
    | .pick (.tmp s) a b=>
     match lk S.m s with
     |some (cc,.bool g)=>
      bif subC cc c&&(S.can ((s,true)::c) a&&S.can ((s,false)::c) b) then
       match ppk a b g (S.rd f a) (S.rd f b) with
       |some v=>fcV v fun v=>putS none c (jJ G1 s g) S.m d v
       |none=>none
      else none
     |_=>none
    |op=>
     bif op.operands.toList.all (S.can c) then
      match pop P W h (S.rd f) op with
      |some (v,q)=>fcH h v fun v=>putS q c G1 S.m d v
      |none=>none
     else none
  else none
def hintAt:List (Nat×Hint)->Nat->Hint
 | [],_=> .p
 |(i,h)::l,j=>bif Nat.beq i j then h else hintAt l j
def rgL(P:Program)(G0:Nat)(W:FW)(sz:Nat)(ops:Array Oper)(f:Fn)(hs:List (Nat×Hint)):Nat->List Oper->SS->Option (SS×Prop)
 |_,[],S=>some (S,True)
 |i,o::os,S=>match stepS P G0 W sz ops f S (hintAt hs i) o with
  |none=>none
  |some (S1,q)=>match rgL P G0 W sz ops f hs (i+1) os S1 with
   |none=>none
   |some (S2,p)=>some (S2,andO q p)
def fins(m:List (Nat×Ch×Value)):List Nat->Option (List (Nat×Value))
 | []=>some []
 |d::ds=>match lk m d,fins m ds with
  |some ([],v),some l=>some ((d,v)::l)
  |_,_=>none
def fX(P:Program)(G0:Nat)(W:FW)(sz:Nat)(ops:Array Oper)(f:Fn)(i:Nat)(os:List Oper)(hs:List (Nat×Hint))(lo hi:Nat)(ex:List Nat)(z:List Nat):Option (List (Nat×Value)×Prop):=
 match rgL P G0 W sz ops f hs i os ⟨[],[]⟩ with
 |none=>none
 |some (S,p)=>bif S.m.all (fun e=>inR lo hi ex e.1) then
   match fins S.m z with
   |some l=>some (l,p)
   |none=>none
  else none
end Go.R
end
noncomputable section
namespace Go.R
section
variable {P:Program} {G0:Nat} {K:bM} {d_:Heap->Prop} {W:FW} {H:Heap} {ρ:Operand->Value} {d:Option Tmp} {ty:TypeId} {pos:String} {af:Array Edge} {gd:Option (Nat×Bool)} {v:Value} {q:Option Prop} {hi:Hint}
theorem lN{k:IntKind}{n:Int}(h:ari hi k n=some (v,q))(z:holds q):v= .int k (k.wrap n):=by
 unfold ari at h;split at h
 ·simp only[a00,a01]at h;exact h.1.symm
 ·simp only[a00,a01]at h;obtain⟨rfl,rfl⟩:=h;obtain⟨rfl,A⟩:=z;rw[rng_wrap A]
 simp only[a00,a01]at h;obtain⟨rfl,rfl⟩:=h;rw[rng_wrap z]
theorem bi_ok{k:IntKind}{n:Int}(h:bi hi k n=some (v,q))(A:holds q):v= .int k n:=by
 unfold bi at h;split at h
 ·simp only[a00,a01]at h;obtain⟨rfl,rfl⟩:=h;have z:n=_:=A;rw[z]
 simp only[a00,a01]at h;exact h.1.symm
theorem jv{p:Prop}{r:VP}(h:withP p r=some (v,q))(z:holds q):p/\∃A,r=some (v,A)/\holds A:=by
 match r,h with
 |some (v',none),h=>
  simp only[withP,a00,a01]at h
  obtain⟨rfl,rfl⟩:=h
  exact⟨z,none,V,trivial⟩
 |some (v',some p'),h=>
  simp only[withP,a00,a01]at h
  obtain⟨rfl,rfl⟩:=h
  exact⟨z.1,some p',V,z.2⟩
 |none,h=>simp[withP]at h
theorem beq0{b:Int}(z:b≠0):(b==0)=false:=by simpa using z
variable {x y:Operand} {t yt:TypeId}
theorem pint_ok{op:BinOp}{k:IntKind}{a b:Int}(Z:ρ x= .int k a)(hy:ρ y= .int k b)(h:pint hi op k a b=some (v,q))(A:holds q):
  AP P ρ ⟨d,.binOp op t x y yt,ty,pos,af,gd⟩ H (.val v,H):=by
 have z: ∀{v':Value},kf op=false->lv op k a b=some v'->AP P ρ ⟨d,.binOp op t x y yt,ty,pos,af,gd⟩ H (.val v',H):=by intro v' hs U;exact lO Z hy (by rw[hs,fA];exact U)
 cases op with
 |add=>rw[lN (n:=a+b) h A];exact z V V
 |sub=>rw[lN (n:=a-b) h A];exact z V V
 |mul=>rw[lN (n:=a *b) h A];exact z V V
 |quo=>
  obtain⟨E,q',N,T⟩:=jv (p:=b≠0) (r:=ari hi k (a.tdiv b)) h A
  rw[lN N T]
  exact z V (by show(bif b==0 then none else some (Value.int k (k.wrap (a.tdiv b))))=_;rw[beq0 E];rfl)
 |rem=>
  obtain⟨E,q',N,T⟩:=jv (p:=b≠0) (r:=bi hi k (a.tmod b)) h A
  rw[bi_ok N T]
  exact z V (by show(bif b==0 then none else some (Value.int k (a.tmod b)))=_;rw[beq0 E];rfl)
 |and=>rw[bi_ok (n:=aX .and k a b) h A];exact z V V
 |or=>rw[bi_ok (n:=aX .or k a b) h A];exact z V V
 |xor=>rw[bi_ok (n:=aX .xor k a b) h A];exact z V V
 |andNot=>rw[bi_ok (n:=aX .andNot k a b) h A];exact z V V
 |shl=>cases h
 |shr=>cases h
 |_=>
  simp only[pint,a00,a01]at h
  obtain⟨rfl,_⟩:=h
  exact z V V
theorem bool_run{a b:Bool}(h:isBT P t=true):aB P (eg .eql t x y a b)=some (.value (.bool (a==b)))/\aB P (eg .neq t x y a b)=some (.value (.bool (a !=b))):=by
 unfold isBT at h;split at h
 ·rename_i N;have T:P.eqGuardType P.depth t=false:=by simpa using h
  have A:aB P (eqGuard .eql t x y (.bool a) (.bool b))=some ():=by simp[eqGuard]
  have E:aB P (eqGuard .neq t x y (.bool a) (.bool b))=some ():=by simp[eqGuard]
  have z:aB P (Op.equal t (.bool a) (.bool b))=some (a==b):=eqB (d:=9999) N;constructor
  ·unfold eg;simp only[aJ,A,a0l];have:aB P (binOp .eql t (.bool a) (.bool b))=some (Value.bool (a==b)):=by show aB P (Op.equal t (.bool a) (.bool b)>>=fun b=>(Pure.pure (Value.bool b):Sem Value))=_;rw[aJ,z];rfl
   rw[this];rfl
  unfold eg;simp only[aJ,E,a0l];have:aB P (binOp .neq t (.bool a) (.bool b))=some (Value.bool (a !=b)):=by show aB P (Op.equal t (.bool a) (.bool b)>>=fun b=>(Pure.pure (Value.bool (!b)):Sem Value))=_;rw[aJ,z];rfl
  rw[this];rfl
 cases h
theorem pbin_ok{op:BinOp}{a b:Value}(z:ρ x=a)(A:ρ y=b)(h:pbin P hi op t a b=some (v,q))(hq:holds q):
  AP P ρ ⟨d,.binOp op t x y yt,ty,pos,af,gd⟩ H (.val v,H):=by
 have N: ∀(a b:Value) (r:Bool),ρ x=a->ρ y=b->(∃p,a= .pointer p)\/(∃p n k,a= .slice p n k)->nilEq P t a b=some r->(op= .eql->v= .bool r)->(op= .neq->v= .bool (!r))->(op= .eql\/op= .neq)->
   AP P ρ ⟨d,.binOp op t x y yt,ty,pos,af,gd⟩ H (.val v,H):=by
  intro a b r z A ha E U Z h3
  refine⟨?_⟩
  show aBin P ρ _ op t (ρ x) y H=_
  have:aBin P ρ ⟨d,.binOp op t x y yt,ty,pos,af,gd⟩ op t (ρ x) y H=nilBin op (nilEq P t a b) H:=by rw[z];rcases ha with⟨p,rfl⟩|⟨p,n,k,rfl⟩<;>(rw[←A];rfl)
  rw[this,E]
  rcases h3 with rfl|rfl
  ·rw[U rfl];rfl
  rw[Z rfl];rfl
 unfold pbin at h
 split at h
 ·--integers
  split at h
  ·obtain⟨U,q',Z,h3⟩:=jv h hq;rw[bi_ok Z h3];exact ap_shl z A U
  ·obtain⟨U,q',Z,h3⟩:=jv h hq;rw[bi_ok Z h3];exact ap_shr z A U
  rename_i k a k' b _ _ _;cases hk:kq k k' with
  |false=>rw[hk]at h;cases h
  |true=>
   rw[hk]at h
   have:=kq_eq hk;subst this
   exact pint_ok z A h hq
 ·split at h<;>simp only[a00,a01,reduceCtorEq]at h
  ·obtain⟨rfl,_⟩:=h;exact ap_eqS z A
  ·obtain⟨rfl,_⟩:=h;exact ap_neS z A
  ·obtain⟨rfl,_⟩:=h;exact ap_ltS z A
  ·obtain⟨rfl,_⟩:=h;exact ap_leS z A
  obtain⟨rfl,rfl⟩:=h;exact ap_addS z A hq
 ·cases T:isBT P t with
  |false=>rw[T]at h;cases h
  |true=>
   rw[T]at h
   simp only[cond_true]at h
   split at h<;>simp only[a00,a01,reduceCtorEq]at h
   ·obtain⟨rfl,_⟩:=h;exact ap_boolEq z A (fun a b=>(bool_run T).1)
   obtain⟨rfl,_⟩:=h;exact gh z A (fun a b=>(bool_run T).2)
 ·split at h<;>simp only[a00,a01,reduceCtorEq]at h;obtain⟨rfl,rfl⟩:=h;exact hq ρ x y yt d ty pos af gd H z A
 ·split at h<;>simp only[a00,a01,reduceCtorEq]at h
  ·rename_i E;obtain⟨rfl,_⟩:=h;exact N _ _ _ z A (.inl ⟨_,V⟩) E (fun _=>rfl) (fun e=>by cases e) (.inl V)
  rename_i E;obtain⟨rfl,_⟩:=h;exact N _ _ _ z A (.inl ⟨_,V⟩) E (fun e=>by cases e) (fun _=>rfl) (.inr V)
 ·split at h<;>simp only[a00,a01,reduceCtorEq]at h
  ·rename_i E;obtain⟨rfl,_⟩:=h;exact N _ _ _ z A (.inr ⟨_,_,_,V⟩) E (fun _=>rfl) (fun e=>by cases e) (.inl V)
  rename_i E;obtain⟨rfl,_⟩:=h;exact N _ _ _ z A (.inr ⟨_,_,_,V⟩) E (fun e=>by cases e) (fun _=>rfl) (.inr V)
 cases h
theorem pun_ok{op:UnOp}{a:Value}(z:ρ x=a)(h:pun hi op a=some (v,q))(A:holds q):AP P ρ ⟨d,.unOp op t x,ty,pos,af,gd⟩ H (.val v,H):=by
 unfold pun at h;split at h
 ·simp only[a00,a01]at h;obtain⟨rfl,_⟩:=h;exact ap_not z
 ·rw[lN h A];exact ap_neg z
 ·rw[bi_ok h A];exact ap_cpl z
 cases h
theorem pconv_ok(Z:W.OK P G0 K d_)(U:d_ H){s:TypeId}{a:Value}(E:ρ x=a)(h:pconv P W hi s t a=some (v,q))(z:holds q):AP P ρ ⟨d,.convert s t x,ty,pos,af,gd⟩ H (.val v,H):=by
 unfold pconv at h;split at h
 ·split at h
  ·rename_i N T;rw[lN h z];exact ap_conv E N T
  cases h
 ·split at h
  ·simp only[a00,a01]at h;obtain⟨rfl,rfl⟩:=h;refine⟨?_⟩;show fK P ρ _ s t (ρ x) H=_;rw[E];show ovl (eK P s t _ _ H) H=_;have A:eK P s t _ _ H=_:=Z.cv z H U;rw[A];rfl
  cases h
 cases h
theorem ppick_ok{g:Bool}{a b v:Value}(h:ppick g a b=some v):v=bif g then a else b:=by
 unfold ppick at h;split at h
 ·simp only[a00]at h;subst h;cases g<;>rfl
 ·rename_i k x A y;cases z:kq k A with
  |false=>rw[z]at h;cases h
  |true=>
   rw[z]at h
   have:=kq_eq z;subst this
   simp only[cond_true,a00]at h;subst h;cases g<;>rfl
 ·simp only[a00]at h;subst h;cases g<;>rfl
 cases h
theorem ppk_ok{g:Bool}{a b:Operand}{v:Value}{r:Operand->Value}(hc: ∀w,r (.const w)=w)(h:ppk a b g (r a) (r b)=some v):v=bif g then r a else r b:=by
 unfold ppk at h;split at h
 ·rename_i x e;simp only[a00]at h;subst h;rw[hc,e];cases g<;>rfl
 split at h
 ·rename_i y e _;simp only[a00]at h;subst h;rw[hc,e];cases g<;>rfl
 exact ppick_ok h
theorem pidx_ok{i:Operand}{a b:Value}(E:ρ x=a)(z:ρ i=b)(h:pidx P t a b=some (v,q))(N:holds q):AP P ρ ⟨d,.index t x i,ty,pos,af,gd⟩ H (.val v,H):=by
 unfold pidx at h;split at h
 ·rename_i s _ j;split at h
  ·rename_i A;simp only[a00,a01]at h;obtain⟨rfl,rfl⟩:=h;obtain⟨T,U⟩:=N;have Z:j<(s.length:Int):=U;exact ap_idxS (s:=s) E z A T (aT M)
  cases h
 ·split at h
  ·rename_i A;simp only[a00,a01]at h;obtain⟨rfl,rfl⟩:=h;exact ap_ixG E z A
  cases h
 cases h
theorem pidxA_ok{i:Operand}{a b:Value}(Z:ρ x=a)(A:ρ i=b)(h:pidxA P t a b=some (v,q))(U:holds q):AP P ρ ⟨d,.indexAddr t x i,ty,pos,af,gd⟩ H (.val v,H):=by
 unfold pidxA at h;split at h
 ·split at h
  ·rename_i E;split at h
   ·rename_i N;simp only[a00,a01]at h;obtain⟨rfl,rfl⟩:=h;obtain⟨b,o,n,k,e,T,q2,q3⟩:=U;cases e
    exact jh Z A E N T q2 q3
   cases h
  cases h
 ·split at h
  ·rename_i E;split at h
   ·rename_i N;simp only[a00,a01]at h;obtain⟨rfl,rfl⟩:=h;obtain⟨T,q2⟩:=U;refine⟨?_⟩;rename_i kk j n e z _;obtain⟨m,rfl⟩:=a1c T;show ovl (du P t (ρ x) (ρ i)) H=_;rw[Z,A];unfold du;rw[E];have h3:Nat.ble (m+1) n=true:=a0w M;show ovl (match cY P e with|some sz=>bif Nat.ble (m+1) n then some (.pointer (some ⟨_,_+m *sz,none⟩)) else none|none=>none) H=_;rw[N];simp only[h3,cond_true];rfl
   cases h
  cases h
 cases h
theorem sl_str{lo hi:Option Operand}{s:ByteArray}{i j:Nat}(U:ρ x= .string s)(T:P.underlying t=some .string)(A:bU s.data.toList.length (hi.map ρ)=some j)(E:bU 0 (lo.map ρ)=some i)(z:i<=j)(N:j<=s.data.toList.length):
  AP P ρ ⟨d,.slice t x lo hi none,ty,pos,af,gd⟩ H (.val (.string ⟨⟨(s.data.toList.drop i).take (j-i)⟩⟩),H):=by
 obtain⟨⟨s⟩⟩:=s
 exact ap_slS U T A E z N
theorem pslice_ok(hW:W.OK P G0 K d_)(hH:d_ H){lo z:Option Operand}{a:Value}(N:ρ x=a)(h:pslice P W hi t a (lo.map ρ) (z.map ρ)=some (v,q))(Z:holds q):AP P ρ ⟨d,.slice t x lo z none,ty,pos,af,gd⟩ H (.val v,H):=by
 unfold pslice at h;split at h
 ·rename_i s;split at h
  ·rename_i U;split at h
   ·rename_i A E;simp only[a00,a01]at h;obtain⟨rfl,rfl⟩:=h;have:=sl_str (d:=d) (ty:=ty) (pos:=pos) (af:=af) (gd:=gd) (H:=H) (lo:=lo) (hi:=z) (i:=0) (s:=⟨⟨s⟩⟩) (j:=s.length) N U (by rw[E];rfl) (by rw[A];rfl) (a0I _) (a0b _);rw[a1a,Nat.sub_zero,a1h]at this;exact this
   ·rename_i k i A E;simp only[a00,a01]at h;obtain⟨rfl,rfl⟩:=h;obtain⟨T,q2⟩:=Z;have:=sl_str (d:=d) (ty:=ty) (pos:=pos) (af:=af) (gd:=gd) (H:=H) (lo:=lo) (hi:=z) (i:=i.toNat) (s:=⟨⟨s⟩⟩) (j:=s.length) N U (by rw[E];rfl) (by rw[A];exact optN T) M (a0b _);rw[a0h (by rw[a0D];exact a0b _)]at this;exact this
   ·rename_i k j A E;simp only[a00,a01]at h;obtain⟨rfl,rfl⟩:=h;obtain⟨T,q2⟩:=Z;have:=sl_str (d:=d) (ty:=ty) (pos:=pos) (af:=af) (gd:=gd) (H:=H) (lo:=lo) (hi:=z) (i:=0) (j:=j.toNat) (s:=⟨⟨s⟩⟩) N U (by rw[E];exact optN T) (by rw[A];rfl) (a0I _) (show j.toNat<=s.length by omega);simpa using this
   ·rename_i k i k' j A E;simp only[a00,a01]at h;obtain⟨rfl,rfl⟩:=h;obtain⟨T,q2,q3⟩:=Z;exact sl_str (s:=⟨⟨s⟩⟩) (lo:=lo) (hi:=z) (i:=i.toNat) (j:=j.toNat) N U (by rw[E];exact optN M) (by rw[A];exact optN T) M (show j.toNat<=s.length by omega)
   cases h
  cases h
 split at h
 ·simp only[a00,a01]at h;obtain⟨rfl,rfl⟩:=h;refine⟨?_⟩;show ovl (bA P t (ρ x) (lo.map ρ) (z.map ρ) (Option.map ρ none) H) H=_;have ad:bA P t _ (lo.map ρ) (z.map ρ) none H=_:=hW.sl Z H hH;rw[N,a1Z,ad];rfl
 cases h
theorem plen_ok{a:Value}(A:ρ x=a)(h:plen P t a=some (v,q)):AP P ρ ⟨d,.call ⟨.builtin .len, #[x], #[t]⟩,ty,pos,af,gd⟩ H (.val v,H):=by
 unfold plen at h;split at h
 ·rename_i s;split at h
  ·rename_i z;simp only[a00,a01]at h;obtain⟨rfl,rfl⟩:=h;exact ap_lenS (s:=s) A z
  cases h
 ·split at h
  ·rename_i z;simp only[a00,a01]at h;obtain⟨rfl,rfl⟩:=h;refine⟨?_⟩;show ovl (aLen P t (ρ x) H) H=_;rw[A];unfold aLen;rw[z];rfl
  cases h
 cases h
inductive PRes(P:Program)(G0:Nat)(K:bM)(d_:Heap->Prop)(ρ:Operand->Value)(o:Oper)(H:Heap)(v:Value):Prop where
 |val (h:AP P ρ o H (.val v,H))
 |call (g:FuncId) (args:List Value) (h:AP P ρ o H (.enter g args,H)) (hk:fe o.op=true) (hc:C P G0 K g args H fun v' H'=>v'=v/\d_ H')
theorem lm{ρ ρ':Operand->Value}: ∀{l:List Operand},(∀x,x∈l->ρ x=ρ' x)->dQ ρ l=dQ ρ' l
 | [],_=>rfl
 |x::l,h=>by show ρ x::dQ ρ l=ρ' x::dQ ρ' l;rw[h x (by simp),lm fun y z=>h y (by simp[z])]
theorem pmm_ok{w:Bool}{y:Operand}{A:Array TypeId}{a b:Value}(E:ρ x=a)(N:ρ y=b)(h:pmm w a b=some (v,q)):AP P ρ ⟨d,.call ⟨.builtin (bif w then .min else .max), #[x,y],A⟩,ty,pos,af,gd⟩ H (.val v,H):=by
 unfold pmm at h;split at h
 ·rename_i k n k' m;simp only[a00,a01]at h;obtain⟨rfl,rfl⟩:=h;have Z:([ρ x,ρ y].all fun z=>gZ z)=true:=by simp[E,N,gZ,noA0]
  cases w with
  |true=>
   refine⟨?_⟩
   show bD P ρ ⟨d,.call ⟨.builtin .min, #[x,y],A⟩,ty,pos,af,gd⟩ H=_
   unfold bD
   have U:((Op.call ⟨.builtin .min, #[x,y],A⟩).operands.toList.all fun x=>gZ (ρ x))=true:=by simp[Op.operands,Call.operands,E,N,gZ,noA0]
   simp only[U,cond_true]
   have T:aB P (execOp ρ ⟨d,.call ⟨.builtin .min, #[x,y],A⟩,ty,pos,af,gd⟩)=some (.value (.int k (if m<n then m else n))):=by unfold execOp;simp[resolve,invoke,builtin,Builtin.min_,Builtin.min2,E,N]
   rw[T];rfl
  |false=>
   refine⟨?_⟩
   show bD P ρ ⟨d,.call ⟨.builtin .max, #[x,y],A⟩,ty,pos,af,gd⟩ H=_
   unfold bD
   have U:((Op.call ⟨.builtin .max, #[x,y],A⟩).operands.toList.all fun x=>gZ (ρ x))=true:=by simp[Op.operands,Call.operands,E,N,gZ,noA0]
   simp only[U,cond_true]
   have T:aB P (execOp ρ ⟨d,.call ⟨.builtin .max, #[x,y],A⟩,ty,pos,af,gd⟩)=some (.value (.int k (if m>n then m else n))):=by unfold execOp;simp[resolve,invoke,builtin,Builtin.max_,Builtin.max2,E,N]
   rw[T];rfl
 cases h
theorem pcall_ok(Z:W.OK P G0 K d_)(U:d_ H){ρ ρ':Operand->Value}{c:Call}(z: ∀x,x∈(Op.call c).operands.toList->ρ x=ρ' x)(h:pcall P W hi ρ' c=some (v,q))(hq:holds q):
  PRes P G0 K d_ ρ ⟨d,.call c,ty,pos,af,gd⟩ H v:=by
 obtain⟨E,args,A⟩:=c
 cases E with
 |builtin b=>
  cases b with
  |len=>
   obtain⟨A⟩:=A
   obtain⟨args⟩:=args
   simp only[pcall]at h
   split at h
   ·exact .val (plen_ok (z _ (by simp[Op.operands,Call.operands])) h)
   cases h
  |min=>
   obtain⟨args⟩:=args
   simp only[pcall]at h
   split at h
   ·exact .val (pmm_ok (w:=true) (z _ (by simp[Op.operands,Call.operands])) (z _ (by simp[Op.operands,Call.operands])) h)
   cases h
  |max=>
   obtain⟨args⟩:=args
   simp only[pcall]at h
   split at h
   ·exact .val (pmm_ok (w:=false) (z _ (by simp[Op.operands,Call.operands])) (z _ (by simp[Op.operands,Call.operands])) h)
   cases h
  |_=>cases h
 |value f=>
  simp only[pcall]at h
  split at h
  ·rename_i T;simp only[a00,a01]at h;obtain⟨rfl,rfl⟩:=h;refine .call _ _ ⟨?_⟩ V (Z.cl hq H U);show fy (fM P (ρ f) (dQ ρ args.toList)) H=_;rw[z f (by simp[Op.operands,Call.operands]),lm (ρ':=ρ') (fun x N=>z x (by simp[Op.operands,Call.operands]at N⊢;exact .inr N)),T];rfl
  cases h
 |invoke r m=>cases h
theorem pop_ok(Z:W.OK P G0 K d_)(U:d_ H){ρ ρ':Operand->Value}{op:Op}(A: ∀x,x∈op.operands.toList->ρ x=ρ' x)(h:pop P W hi ρ' op=some (v,q))(T:holds q):
  PRes P G0 K d_ ρ ⟨d,op,ty,pos,af,gd⟩ H v:=by
 cases op with
 |move x=>
  simp only[pop,a00,a01]at h;obtain⟨rfl,rfl⟩:=h
  exact .val (ap_move (A x (by simp[Op.operands])))
 |assign x=>
  simp only[pop,a00,a01]at h;obtain⟨rfl,rfl⟩:=h
  exact .val (kI (A x (by simp[Op.operands])))
 |binOp op t x y yt=>exact .val (pbin_ok (A x (by simp[Op.operands])) (A y (by simp[Op.operands])) h T)
 |unOp op t x=>exact .val (pun_ok (A x (by simp[Op.operands])) h T)
 |convert s t x=>exact .val (pconv_ok Z U (A x (by simp[Op.operands])) h T)
 |load t a=>
  simp only[pop]at h
  split at h
  ·simp only[a00,a01]at h;obtain⟨rfl,rfl⟩:=h;refine .val ⟨?_⟩;show ek P t (ρ a) H=_;rw[A a (by simp[Op.operands])];exact Z.ld T H U
  cases h
 |lookup t m x ok=>
  simp only[pop]at h
  split at h
  ·simp only[a00,a01]at h;obtain⟨rfl,rfl⟩:=h;refine .val ⟨?_⟩;show ovl (eM P t (ρ m) (ρ x) ok H) H=_;rw[A m (by simp[Op.operands]),A x (by simp[Op.operands]),Z.lk T H U];rfl
  cases h
 |index t x i=>exact .val (pidx_ok (A x (by simp[Op.operands])) (A i (by simp[Op.operands])) h T)
 |indexAddr t x i=>exact .val (pidxA_ok (A x (by simp[Op.operands])) (A i (by simp[Op.operands])) h T)
 |field t x f=>
  simp only[pop,optV]at h
  split at h
  ·rename_i E;simp only[a00,a01]at h;obtain⟨rfl,rfl⟩:=h;exact .val (ap_fv (A x (by simp[Op.operands])) E)
  cases h
 |fieldAddr s x f=>
  simp only[pop,optV]at h
  split at h
  ·rename_i E;simp only[a00,a01]at h;obtain⟨rfl,rfl⟩:=h;refine .val ⟨?_⟩;show ovl (iB P s (ρ x) f) H=_;rw[A x (by simp[Op.operands]),E];rfl
  cases h
 |extract x i=>
  simp only[pop,optV]at h
  split at h
  ·rename_i E;simp only[a00,a01]at h;obtain⟨rfl,rfl⟩:=h;exact .val (ap_ex (A x (by simp[Op.operands])) E)
  cases h
 |build t parts=>
  have ad:parts.map (fun p=>(p.1,ρ p.2))=parts.map (fun p=>(p.1,ρ' p.2)):=by apply a2c;intro p hp;rw[A p.2 (by simp only[Op.operands,a0u];exact⟨p,by simpa using hp,V⟩)]
  simp only[pop,optV]at h
  split at h
  ·rename_i z hz;split at h
   ·rename_i cs E;simp only[a00,a01]at h;obtain⟨rfl,rfl⟩:=h;exact .val (ap_bld ad hz (bldL_ok (by rw[iN]at E;rw[a29];exact E)))
   split at h
   ·rename_i E;simp only[a00,a01]at h;obtain⟨rfl,rfl⟩:=h;exact .val (ap_bld ad hz E)
   cases h
  cases h
 |slice t x lo hi2 mx=>
  cases mx with
  |some _=>simp only[pop]at h;cases h
  |none=>
   simp only[pop]at h
   have e1:lo.map ρ=lo.map ρ':=by
    cases lo with
    |none=>rfl
    |some o=>simp only[a1M];rw[A o (by simp[Op.operands])]
   have e2:hi2.map ρ=hi2.map ρ':=by
    cases hi2 with
    |none=>rfl
    |some o=>simp only[a1M];rw[A o (by simp[Op.operands])]
   rw[←e1,←e2]at h
   exact .val (pslice_ok Z U (A x (by simp[Op.operands])) h T)
 |call c=>exact pcall_ok Z U A h T
 |nilCheck x=>
  simp only[pop]at h
  have N:=A x (by simp[Op.operands])
  split at h
  ·rename_i a ha;simp only[a00,a01]at h;obtain⟨rfl,rfl⟩:=h;refine .val ⟨?_⟩;show opNil (ρ x) H=_;rw[N,ha];rfl
  ·rename_i f a c ha;simp only[a00,a01]at h;obtain⟨rfl,rfl⟩:=h;refine .val ⟨?_⟩;show opNil (ρ x) H=_;rw[N,ha];rfl
  cases h
 |makeFunc fn first cap=>
  simp only[pop,a00,a01]at h;obtain⟨rfl,rfl⟩:=h
  refine .val ⟨?_⟩
  show some (AN.val (.func fn (first.map ρ) (cap.map ρ)),H)=_
  have e1:first.map ρ=first.map ρ':=a2c fun x N=>A x (by simp[Op.operands]at N⊢;first|exact .inl N|exact .inr N)
  have e2:cap.map ρ=cap.map ρ':=a2c fun x N=>A x (by simp[Op.operands]at N⊢;first|exact .inl N|exact .inr N)
  rw[e1,e2]
 |_=>cases h
end
end Go.R
end
noncomputable section
namespace Go.R
structure SS.Rel(S:SS)(f fr:Fn):Prop where
 sl: ∀t c v,lk S.m t=some (c,v)->fr t=(bif act S.G c then v else undef)
 no: ∀t,lk S.m t=none->fr t=f t
 gs: ∀s g,gl S.G s=some g->(∃c,lk S.m s=some (c,.bool g))\/(lk S.m s=none/\f s= .bool g)
 ks: ∀t c v,lk S.m t=some (c,v)->∀s w,(s,w)∈c->∃g,gl S.G s=some g
theorem gl_add{G:List (Nat×Bool)}{d s:Nat}{g r:Bool}(h:gl G s=some r):gl (jJ G d g) s=some r:=by
 unfold jJ;split
 ·exact h
 rename_i A;show(bif Nat.beq d s then some g else gl G s)=_;cases z:Nat.beq d s with
 |true=>have:=a09 z;subst this;rw[A]at h;cases h
 |false=>exact h
theorem km{G:List (Nat×Bool)}{d:Nat}{g:Bool}(h: ∀r,gl G d=some r->r=g):gl (jJ G d g) d=some g:=by
 unfold jJ;split
 ·rename_i r z;rw[z,h r z]
 show(bif Nat.beq d d then some g else gl G d)=_;rw[a12];rfl
theorem gl_add_inv{G:List (Nat×Bool)}{d s:Nat}{g r:Bool}(h:gl (jJ G d g) s=some r):gl G s=some r\/(s=d/\r=g):=by
 unfold jJ at h;split at h
 ·exact .inl h
 have z:(bif Nat.beq d s then some g else gl G s)=some r:=h;cases A:Nat.beq d s with
 |true=>rw[A]at z;exact .inr ⟨(a09 A).symm,(Option.some.inj z).symm⟩
 |false=>rw[A]at z;exact .inl z
theorem mQ{G:List (Nat×Bool)}{d:Nat}{g:Bool}: ∀{c:Ch},(∀s w,(s,w)∈c->∃r,gl G s=some r)->act (jJ G d g) c=act G c
 | [],_=>rfl
 |(s,w)::c,h=>by
  obtain⟨r,z⟩:=h s w (by simp);show((match gl (jJ G d g) s with|some g=>bq g w|none=>false)&&act (jJ G d g) c)=((match gl G s with|some g=>bq g w|none=>false)&&act G c)
  rw[gl_add z,z,mQ fun s w A=>h s w (by simp[A])]
theorem act_mem{G:List (Nat×Bool)}: ∀{c:Ch} {s:Nat} {w:Bool},act G c=true->memC s w c=true->gl G s=some w
 |(s',w')::c,s,w,h,z=>by
  simp only[act,a07]at h;simp only[memC,a0z,a07]at z;rcases z with⟨T,U⟩|z
  ·have E:=a09 T;have N:=bq_eq U;subst E N;have A:=h.1;split at A
   ·rename_i g Z;rw[Z,bq_eq A]
   cases A
  exact act_mem h.2 z
 | [],s,w,_,z=>by cases z
theorem act_sub{G:List (Nat×Bool)}: ∀{a c:Ch},act G c=true->subC a c=true->act G a=true
 | [],_,_,_=>rfl
 |(s,w)::a,c,h,hs=>by simp only[subC,a07]at hs;have z:=act_mem h hs.1;simp only[act,z,act_sub h hs.2,a0X];cases w<;>rfl
theorem impl_act{G:List (Nat×Bool)}{p:Prop}: ∀{c:Ch},act G c=true->impl G c p->p
 | [],_,h=>h
 |(s,w)::c,ha,h=>by
  simp only[act,a07]at ha;obtain⟨z,A⟩:=ha;unfold impl at h;split at z
  ·rename_i g E;rw[E]at h;exact impl_act A (h (bq_eq z))
  cases z
section
variable {P:Program} {G0:Nat} {K:bM} {d_:Heap->Prop} {W:FW} {sz:Nat} {Q:Ex->Fn->Heap->Prop} {ops:Array Oper} {os:List Oper} {k:List Fr} {f fr:Fn} {H:Heap} {S S':SS}
theorem SS.Rel.add(h:S.Rel f fr){d:Nat}{g:Bool}(E:(∃c,lk S.m d=some (c,.bool g))\/(lk S.m d=none/\f d= .bool g)):SS.Rel ⟨S.m,jJ S.G d g⟩ f fr:=by
 refine⟨fun t c v z=>?_,h.no,fun s r A=>?_,fun t c v z s w N=>?_⟩
 ·rw[h.sl t c v z];show _=bif act (jJ S.G d g) c then v else undef
  rw[mQ (h.ks t c v z)]
 ·rcases gl_add_inv A with h1|⟨rfl,rfl⟩
  ·exact h.gs s r h1
  exact E
 obtain⟨r,A⟩:=h.ks t c v z s w N;exact⟨r,gl_add A⟩
theorem SS.Rel.same(h:S.Rel f fr){d:Nat}{g:Bool}(T:(∃c,lk S.m d=some (c,.bool g))\/(lk S.m d=none/\f d= .bool g)): ∀r,gl S.G d=some r->r=g:=by
 intro r U;rcases h.gs d r U with⟨c,A⟩|⟨A,N⟩<;>rcases T with⟨Z,z⟩|⟨z,E⟩
 ·rw[A]at z;simp only[a00,a01,Value.bool.injEq]at z;exact z.2
 ·rw[A]at z;cases z
 ·rw[A]at z;cases z
 rw[N]at E;simpa using E
structure GOK(ops:Array Oper)(f fr:Fn)(S:SS)(g:Option (Nat×Bool))(c:Ch)(G1:List (Nat×Bool)):Prop where
 rel:SS.Rel ⟨S.m,G1⟩ f fr
 ks: ∀s w,(s,w)∈c->∃g,gl G1 s=some g
 on:act G1 c=true->match g with
  |none=>True
  |some (j,w)=>cL ops fr j=some w
 off:act G1 c=false->match g with
  |none=>False
  |some (j,w)=>cL ops fr j=none\/cL ops fr j=some (!w)
theorem fF(U:S.Rel f fr){g:Option (Nat×Bool)}{c:Ch}{G1:List (Nat×Bool)}(h:mF ops f S g=some (c,G1)):GOK ops f fr S g c G1:=by
 unfold mF at h;split at h
 ·simp only[a00,a01]at h;obtain⟨rfl,rfl⟩:=h;exact⟨U,fun s w E=>by simp at E,fun _=>trivial,fun h=>by cases h⟩
 rename_i j w;split at h
 ·rename_i d hd;have key: ∀(z:Ch) (γ:Bool),((∃c,lk S.m d=some (c,.bool γ))\/(lk S.m d=none/\f d= .bool γ))->(∀s w,(s,w)∈z->∃g,gl S.G s=some g)->(fr d=bif act S.G z then .bool γ else undef)->GOK ops f fr S (some (j,w)) ((d,w)::z) (jJ S.G d γ):=by
   intro z γ ad ag A;have hG:=km (G:=S.G) (d:=d) (g:=γ) (U.same ad);have ha:act (jJ S.G d γ) ((d,w)::z)=(bq γ w&&act S.G z):=by show((match gl (jJ S.G d γ) d with|some g=>bq g w|none=>false)&&act (jJ S.G d γ) z)=_;rw[hG,mQ ag]
   have hy: ∀v,fr d=v->cL ops fr j=match v with| .bool b=>some b|_=>none:=by intro v hv;unfold cL;rw[hd];show(match fr d with| .bool b=>some b|_=>none)=_;rw[hv]
   refine⟨U.add ad,fun s w' E=>?_,fun Z=>?_,fun N=>?_⟩
   ·rcases a0s.1 E with e|E
    ·injection e with e1 e2;subst e1;exact⟨γ,hG⟩
    obtain⟨r,av⟩:=ag s w' E;exact⟨r,gl_add av⟩
   ·rw[ha,a07]at Z;rw[Z.2]at A;show cL ops fr j=some w;rw[hy _ A,bq_eq Z.1];rfl
   rw[ha]at N;show cL ops fr j=none\/cL ops fr j=some (!w);cases hc:act S.G z with
   |false=>rw[hc]at A;left;rw[hy _ A];rfl
   |true=>
    rw[hc]at A N
    right
    rw[hy _ A]
    cases γ<;>cases w<;>first|rfl|cases N
  split at h
  ·rename_i z γ T;simp only[a00,a01]at h;obtain⟨rfl,rfl⟩:=h;exact key z γ (.inl ⟨_,T⟩) (U.ks d z _ T) (U.sl d z _ T)
  ·cases h
  rename_i T;split at h
  ·rename_i γ hf;simp only[a00,a01]at h;obtain⟨rfl,rfl⟩:=h;exact key [] γ (.inr ⟨T,hf⟩) (fun s w E=>by simp at E) (by rw[U.no d T,hf];rfl)
  cases h
 cases h
theorem jY{m:List (Nat×Ch×Value)}{G:List (Nat×Bool)}{q q':Option Prop}{c:Ch}{d:Nat}{v:Value}(U:SS.Rel ⟨m,G⟩ f fr)(hk: ∀s w,(s,w)∈c->∃g,gl G s=some g)(h:putS q c G m d v=some (S',q')):
  SS.Rel S' f (upd fr d (bif act G c then v else undef))/\(holds q'->act G c=true->holds q):=by
 unfold putS at h
 simp only[lB]at h
 split at h
 ·cases h
 rename_i hd
 simp only[a00,a01]at h
 obtain⟨rfl,rfl⟩:=h
 refine⟨⟨fun t E v' N=>?_,fun t N=>?_,fun s g Z=>?_,fun t E v' N s w hm=>?_⟩,fun hq ha=>?_⟩
 ·have z:(bif Nat.beq d t then some (c,v) else lk m t)=some (E,v'):=N;unfold upd;cases A:Nat.beq d t with
  |true=>
   rw[A]at z
   simp only[cond_true,a00,a01]at z
   obtain⟨rfl,rfl⟩:=z
   rfl
  |false=>rw[A]at z;exact U.sl t E v' z
 ·have z:(bif Nat.beq d t then some (c,v) else lk m t)=none:=N;unfold upd;cases A:Nat.beq d t with
  |true=>rw[A]at z;cases z
  |false=>rw[A]at z;exact U.no t z
 ·have ag:Nat.beq d s=false:=by
   cases A:Nat.beq d s with
   |false=>rfl
   |true=>have:=a09 A;subst this;rw[hd]at Z;cases Z
  have e:lk ((d,c,v)::m) s=lk m s:=by show(bif Nat.beq d s then some (c,v) else lk m s)=_;rw[ag];rfl
  rcases U.gs s g Z with⟨c0,T⟩|T
  ·exact .inl ⟨c0,e.trans T⟩
  exact .inr ⟨e.trans T.1,T.2⟩
 ·have z:(bif Nat.beq d t then some (c,v) else lk m t)=some (E,v'):=N;cases A:Nat.beq d t with
  |true=>
   rw[A]at z
   simp only[cond_true,a00,a01]at z
   obtain⟨rfl,rfl⟩:=z
   exact hk s w hm
  |false=>rw[A]at z;exact U.ks t E v' z s w hm
 cases q with
 |none=>trivial
 |some p=>exact impl_act ha hq
theorem rd_ok(E:S.Rel f fr){c:Ch}(T:act S.G c=true){x:Operand}(U:S.can c x=true):cS fr x=S.rd f x:=by
 cases x with
 |tmp t=>
  show fr t=match lk S.m t with|some x=>x.2|none=>f t
  have z:(match lk S.m t with|some x=>subC x.1 c|none=>true)=true:=U
  cases A:lk S.m t with
  |none=>exact E.no t A
  |some y=>
   obtain⟨N,v⟩:=y
   rw[A]at z
   rw[E.sl t N v A,act_sub T z];rfl
 |_=>rfl
theorem gp(hW:W.OK P G0 K d_){o:Oper}{q:Option Prop}{hi:Hint}(hr:S.Rel f fr)(h:stepS P G0 W sz ops f S hi o=some (S',q))(hq:holds q):
  ∃d c z v,o.dst=some d/\Nat.ble (d+1) sz=true/\o.op.operands.toList.all (bg G0)=true/\mF ops f S o.guard=some (c,z)/\
   (act z c=true->∀H,d_ H->PRes P G0 K d_ (cS fr) ⟨some d,o.op,o.type,o.pos,o.after,none⟩ H v)/\SS.Rel S' f (upd fr d (bif act z c then v else undef)):=by
 unfold stepS at h
 simp only[fcH_eq,fcV_eq]at h
 split at h
 ·cases h
 rename_i d hd
 cases N:(Nat.ble (d+1) sz&&o.op.operands.toList.all (bg G0)) with
 |false=>rw[N]at h;cases h
 |true=>
  rw[N]at h
  simp only[cond_true]at h
  rw[a07]at N
  split at h
  ·cases h
  rename_i c z hc
  have E:=fF hr hc
  split at h
  ·rename_i s a b ay;split at h
   ·rename_i cc γ hl;cases A:(subC cc c&&(S.can ((s,true)::c) a&&S.can ((s,false)::c) b)) with
    |false=>rw[A]at h;cases h
    |true=>
     rw[A]at h
     simp only[cond_true]at h
     simp only[a07]at A
     split at h
     ·rename_i v hv;have al:(∃c,lk S.m s=some (c,.bool γ))\/(lk S.m s=none/\f s= .bool γ):= .inl ⟨_,hl⟩;have ad:=SS.Rel.add (S:=⟨S.m,z⟩) E.rel (d:=s) (g:=γ) al;have hG:=km (G:=z) (d:=s) (g:=γ) (E.rel.same al);have an: ∀s' w,(s',w)∈c->∃g,gl (jJ z s γ) s'=some g:=fun s' w hm=>by obtain⟨r,a0⟩:=E.ks s' w hm;exact⟨r,gl_add a0⟩
      have U:act (jJ z s γ) c=act z c:=mQ E.ks;obtain⟨h1,_⟩:=jY ad an h;rw[U]at h1;refine⟨d,c,z,v,hd,N.1,N.2,hc,fun T H hH=>?_,h1⟩;refine .val ⟨?_⟩;rw[ay];show ga (cS fr) (.tmp s) a b H=_;have e0:cS fr (.tmp s)= .bool γ:=by have:=E.rel.sl s cc _ hl;rw[act_sub T A.1]at this;exact this
      unfold ga;rw[e0];show some (AN.val (bif γ then cS fr a else cS fr b),H)=_;rw[ppk_ok (fun _=>rfl) hv];have Z: ∀(w:Bool) (x:Operand),γ=w->S.can ((s,w)::c) x=true->cS fr x=S.rd f x:=by intro w x hw hx;have a1:SS.Rel ⟨S.m,jJ z s γ⟩ f fr:=ad;refine rd_ok (S:=⟨S.m,jJ z s γ⟩) a1 (c:=(s,w)::c) ?_ hx;show((match gl (jJ z s γ) s with|some g=>bq g w|none=>false)&&act (jJ z s γ) c)=true;rw[hG,U,T,hw];cases w<;>rfl
      cases γ with
      |true=>rw[cond_true,cond_true,Z true a V A.2.1]
      |false=>rw[cond_false,cond_false,Z false b V A.2.2]
     cases h
   cases h
  cases A:o.op.operands.toList.all (S.can c) with
  |false=>rw[A]at h;cases h
  |true=>
   rw[A]at h
   simp only[cond_true]at h
   split at h
   ·rename_i v q0 hp;obtain⟨h1,h2⟩:=jY E.rel E.ks h;refine⟨d,c,z,v,hd,N.1,N.2,hc,fun T H hH=>?_,h1⟩;refine pop_ok hW hH (fun x hx=>?_) hp (h2 hq T);have:=a0y.1 A x hx;exact rd_ok (S:=⟨S.m,z⟩) E.rel T this
   cases h
theorem wo_do{d:Nat}{o:Oper}{c:Ch}{A:List (Nat×Bool)}{v:Value}(Z:o.dst=some d)(N:Nat.ble (d+1) sz=true)(U:o.op.operands.toList.all (bg G0)=true)(T:GOK ops f fr S o.guard c A)
  (hp:act A c=true->∀H,d_ H->PRes P G0 K d_ (cS fr) ⟨some d,o.op,o.type,o.pos,o.after,none⟩ H v) (E:d_ H) (h: ∀H,d_ H->WO P G0 K sz ops os k (upd fr d (bif act A c then v else undef)) H Q):WO P G0 K sz ops (o::os) k fr H Q:=by
 obtain⟨ag,op,ty,pos,af,gd⟩:=o
 simp only at Z U T hp
 subst Z
 cases z:act A c with
 |true=>
  rw[z]at h
  have base:WO P G0 K sz ops (⟨some d,op,ty,pos,af,none⟩::os) k fr H Q:=by
   cases hp z H E with
   |val hv=>exact aS hv U N (h H E)
   |call g args he _ hc=>exact wo_callG he U N hc (by rintro v' H' ⟨rfl,hJ⟩;exact h H' hJ)
  cases gd with
  |none=>exact base
  |some jw=>
   obtain⟨j,w⟩:=jw
   exact cX (T.on z) V base
 |false=>
  rw[z]at h
  have:=T.off z
  cases gd with
  |none=>exact absurd this id
  |some jw=>
   obtain⟨j,w⟩:=jw
   rcases this with h1|h1
   ·exact wo_gn h1 N (h H E)
   exact wo_gf h1 V N (h H E)
def bnD:ID->Bool
 | .x []=>true
 | .x _=>false
 | .s _=>false
 |_=>true
theorem okD_r{i:Nat}: ∀{D:List (Nat×ID)},D.all (fun e=>bnD e.2)=true->okD ops i .r D
 | [],_=>trivial
 |(j,e)::D,h=>by
  simp only[a0J,a07]at h;refine⟨.inr ?_,okD_r h.2⟩;cases e with
  |x W=>
   cases W with
   |nil=>trivial
   |cons a b=>exact absurd h.1 (by simp[bnD])
  |s W=>exact absurd h.1 (by simp[bnD])
  |_=>trivial
theorem okD_x{i:Nat}: ∀{D:List (Nat×ID)},D.all (fun e=>bnD e.2)=true->okD ops i (.x []) D
 | [],_=>trivial
 |(j,e)::D,h=>by
  simp only[a0J,a07]at h;refine⟨.inr ?_,okD_x h.2⟩;cases e with
  |x W=>
   cases W with
   |nil=>exact⟨trivial,trivial⟩
   |cons a b=>exact absurd h.1 (by simp[bnD])
  |s W=>exact absurd h.1 (by simp[bnD])
  |l b=>exact a0d
  |q S=>exact fun b z=>absurd z a0d
  |n B=>exact fun b z=>absurd z a0d
  |_=>trivial
theorem wf_weak{D:List (Nat×ID)}{i j:Nat}{e:ID}(T: ∀g,e.fits g->gg g=true)(h:WF2 P G0 K sz ops ((j,.r)::D) i os k f H Q):WF2 P G0 K sz ops ((j,e)::D) i os k f H Q:=⟨fun t fs U z=>by
 refine h.out t fs U ?_;cases fs with
 |nil=>exact absurd z id
 |cons x fs=>
  obtain⟨a,g⟩:=x
  obtain⟨A,E,N⟩:=z
  exact⟨A,T g E,N⟩⟩
theorem wf_callx{d:Tmp}{op:Op}{ty:TypeId}{pos:String}{af:Array Edge}{D:List (Nat×ID)}{i:Nat}{v:Value}{g:FuncId}{args:List Value}(ha:AP P (cS f) ⟨some d,op,ty,pos,af,none⟩ {H with log:=[]} (.enter g args,{H with log:=[]}))(ho:op.operands.toList.all (bg G0)=true)(hd:Nat.ble (d+1) sz=true)(hk:fe op=true)
  (hc:C P G0 K g args {H with log:=[]} fun v' H'=>v'=v/\H'={H with log:=[]}) (ag:okD ops i (.x []) D)
  (h:WF2 P G0 K sz ops ((i,.x [])::D) (i+1) os k (upd f d v) H Q):WF2 P G0 K sz ops D i (⟨some d,op,ty,pos,af,none⟩::os) k f H Q:=⟨fun t fs Z T=>by
 obtain⟨A,v',H2,ad,rfl,rfl⟩:=hc.out
 obtain⟨N,h1,h2⟩:=hP (s:=⟨t,sz,{H with log:=[]}⟩) (d:=some d) (v:=v') hd
 have hi:=dK (ops:=ops) (f:=f) (o:=⟨some d,op,ty,pos,af,none⟩) (n:=H.next) (log:=[]) (W:=[]) V hk (fun b hb=>by simp at hb) t sz H Z
 obtain⟨z,e,s',h3,h4⟩:=h.out N ((i,dR ops ⟨some d,op,ty,pos,af,none⟩ ⟨t,sz,H⟩ H.next [])::fs) (by rw[h2,Z];rfl) ⟨V,hi,T⟩
 refine⟨Nat.max A z,e,s',?_,h4⟩
 have ai:step P G0 (call P G0 K (Nat.max A z)) ops ⟨some d,op,ty,pos,af,none⟩ ⟨t,sz,{H with log:=[]}⟩=some ⟨N,sz,{H with log:=[]}⟩:=by unfold step be;simp only[cond_true,ho,dZ,Z,ha.eq,ef (a1N A z) _ _ _ _ ad];exact h1
 unfold br gA
 rw[ai]
 simp only[di hi T ag,cond_true,dx,a0m]
 refine dD (a1l (a1g A z)) k _ _ (fun x E=>?_) _ h3
 cases U:br P G0 (call P G0 K z) ops (i+1) ((i,dR ops ⟨some d,op,ty,pos,af,none⟩ ⟨t,sz,H⟩ H.next [])::fs) os ⟨N,sz,H⟩ with
 |none=>rw[U]at E;cases E
 |some y=>
  have:=d9 (ef (P:=P) (G:=G0) (K:=K) (a1g A z)) _ _ _ _ _ U
  rw[U]at E
  show dY (br P G0 (call P G0 K (Nat.max A z)) ops (i+1) _ os ⟨N,sz,H⟩)=_
  rw[this];exact E⟩
theorem wf_do{D:List (Nat×ID)}{i d:Nat}{o:Oper}{c:Ch}{N:List (Nat×Bool)}{v:Value}(Z:D.all (fun e=>bnD e.2)=true)(hd:o.dst=some d)(A:Nat.ble (d+1) sz=true)(T:o.op.operands.toList.all (bg G0)=true)(z:GOK ops f fr S o.guard c N)
  (hp:act N c=true->PRes P G0 K (· ={H with log:=[]}) (cS fr) ⟨some d,o.op,o.type,o.pos,o.after,none⟩ {H with log:=[]} v) (h:WF2 P G0 K sz ops ((i,.r)::D) (i+1) os k (upd fr d (bif act N c then v else undef)) H Q):WF2 P G0 K sz ops D i (o::os) k fr H Q:=by
 obtain⟨al,op,ty,pos,af,gd⟩:=o
 simp only at hd T z hp
 subst hd
 cases E:act N c with
 |true=>
  rw[E]at h
  have base:WF2 P G0 K sz ops D i (⟨some d,op,ty,pos,af,none⟩::os) k fr H Q:=by
   cases hp E with
   |val hv=>exact aK (id:= .r) hv T A (did_r fun b A=>by simp at A) (okD_r Z) h
   |call g args he hk hc=>
    exact wf_callx he T A hk hc (okD_x Z) (wf_weak (fun g z=>by obtain⟨w,rfl,hw⟩:=z;cases w with
     |nil=>rfl
     |cons a b=>exact absurd (hw a (by simp)) a0d) h)
  cases gd with
  |none=>exact base
  |some jw=>
   obtain⟨j,w⟩:=jw
   exact bu (z.on E) V base
 |false=>
  rw[E]at h
  have:=z.off E
  cases gd with
  |none=>exact absurd this id
  |some jw=>
   obtain⟨j,w⟩:=jw
   have U:=wf_weak (e:= .v) (fun g z=>by rw[show g= .v from z];rfl) h
   rcases this with h1|h1
   ·exact jo h1 A U
   exact bw h1 V A U
theorem fj{q:Option Prop}{p:Prop}(h:andO q p):holds q/\p:=by
 cases q with
 |none=>exact⟨trivial,h⟩
 |some q=>exact h
theorem wo_row(E:W.OK P G0 K d_){hs:List (Nat×Hint)}: ∀{a:List Oper} {i:Nat} {S S':SS} {p:Prop} {fr:Fn} {H:Heap},d_ H->rgL P G0 W sz ops f hs i a S=some (S',p)->p->S.Rel f fr->
  (∀z H,d_ H->S'.Rel f z->WO P G0 K sz ops os k z H Q)->WO P G0 K sz ops (a++os) k fr H Q
 | [],i,S,S',p,fr,H,hH,h,_,hr,hk=>by simp only[rgL,a00,a01]at h;obtain⟨rfl,_⟩:=h;exact hk fr H hH hr
 |o::a,i,S,S',p,fr,H,hH,h,hp,hr,hk=>by
  unfold rgL at h;split at h
  ·cases h
  rename_i S1 q h1;split at h
  ·cases h
  rename_i S2 p2 h2;simp only[a00,a01]at h;obtain⟨rfl,rfl⟩:=h;obtain⟨hq,N⟩:=fj hp;obtain⟨d,c,G1,v,T,U,Z,e4,e5,e6⟩:=gp E hr h1 hq;exact wo_do T U Z (fF hr e4) e5 hH fun H' A=>wo_row E A h2 N e6 hk
def rs(i:Nat):List Oper->List (Nat×ID)->List (Nat×ID)
 | [],D=>D
 |_::a,D=>rs (i+1) a ((i,.r)::D)
theorem wf_row{hs:List (Nat×Hint)}: ∀{a:List Oper} {i:Nat} {D:List (Nat×ID)} {S S':SS} {p:Prop} {fr:Fn},D.all (fun e=>bnD e.2)=true->rgL P G0 (W0 P G0 K {H with log:=[]}) sz ops f hs i a S=some (S',p)->p->S.Rel f fr->
  (∀z,S'.Rel f z->WF2 P G0 K sz ops (rs i a D) (i+a.length) os k z H Q)->WF2 P G0 K sz ops D i (a++os) k fr H Q
 | [],i,D,S,S',p,fr,_,h,_,hr,hk=>by simp only[rgL,a00,a01]at h;obtain⟨rfl,_⟩:=h;exact hk fr hr
 |o::a,i,D,S,S',p,fr,hD,h,hp,hr,hk=>by
  unfold rgL at h;split at h
  ·cases h
  rename_i S1 q h1;split at h
  ·cases h
  rename_i S2 p2 h2;simp only[a00,a01]at h;obtain⟨rfl,rfl⟩:=h;obtain⟨hq,A⟩:=fj hp;obtain⟨d,c,G1,v,N,T,U,Z,e5,e6⟩:=gp ok0 hr h1 hq;refine wf_do hD N T U (fF hr Z) (fun ha=>e5 ha _ V) (wf_row (by simp only[a0J,hD,a0X];rfl) h2 A e6 fun z E=>?_);have:=hk z E;rw[a0a,show i+(a.length+1)=i+1+a.length by omega]at this;exact this
theorem my{m:List (Nat×Ch×Value)}{G:List (Nat×Bool)}(A:SS.Rel ⟨m,G⟩ f fr): ∀{z:List Nat} {l:List (Nat×Value)},fins m z=some l->aA fr l
 | [],l,h=>by simp only[fins,a00]at h;subst h;trivial
 |d::z,l,h=>by
  unfold fins at h;split at h
  ·rename_i v l' E N;simp only[a00]at h;subst h;exact⟨by have:=A.sl d [] v E;exact this,my A N⟩
  cases h
theorem iL{m:List (Nat×Ch×Value)}{G:List (Nat×Bool)}(N:SS.Rel ⟨m,G⟩ f fr){lo hi:Nat}{ex:List Nat}(h:m.all (fun e=>inR lo hi ex e.1)=true):Leaves lo hi ex f fr:=⟨fun j E=>by
 refine N.no j ?_;have key: ∀(m:List (Nat×Ch×Value)),m.all (fun e=>inR lo hi ex e.1)=true->lk m j=none:=by
  intro m;induction m with
  |nil=>intro _;rfl
  |cons e m ih=>
   obtain⟨s,x⟩:=e
   intro z
   simp only[a0J,a07]at z
   show(bif Nat.beq s j then some x else lk m j)=none
   cases A:Nat.beq s j with
   |true=>have:=a09 A;subst this;rw[E]at z;cases z.1
   |false=>exact ih z.2
 exact key m h⟩
theorem rel0:SS.Rel ⟨[],[]⟩ f f:=⟨fun t c v h=>(by cases h),fun _ _=>rfl,fun s g h=>(by cases h),fun t c v h=>(by cases h)⟩
theorem top_ok{i:Nat}{a:List Oper}{hs:List (Nat×Hint)}{lo hi:Nat}{ex E:List Nat}{l:List (Nat×Value)}{p:Prop}(h:fX P G0 W sz ops f i a hs lo hi ex E=some (l,p)):
  ∃S,rgL P G0 W sz ops f hs i a ⟨[],[]⟩=some (S,p)/\∀fr,S.Rel f fr->∃g,fr=gC (hav lo hi ex g f) l:=by
 unfold fX at h
 split at h
 ·cases h
 rename_i S U N
 cases z:S.m.all (fun e=>inR lo hi ex e.1) with
 |false=>rw[z]at h;cases h
 |true=>
  rw[z]at h
  simp only[cond_true]at h
  split at h
  ·rename_i l' T;simp only[a00,a01]at h;obtain⟨rfl,rfl⟩:=h;refine⟨S,N,fun fr A=>⟨fr,?_⟩⟩;rw[←(iL A z).eq,fc (my A T)]
  cases h
theorem wk_rg{id:Nat}(hs:List (Nat×Hint))(lo hi:Nat)(ex:List Nat){z:List Nat}{l:List (Nat×Value)}{p:Prop}(h:fX P G0 (W0 P G0 K H) sz ops f 0 ops.toList hs lo hi ex z=some (l,p))(T:p)
  (N: ∀g,WK P G0 K sz .skip k (gC (hav lo hi ex g f) l) H Q):WK P G0 K sz (.region id ops false) k f H Q:=by
 obtain⟨S,A,E⟩:=top_ok h
 refine aa ?_
 have:=wo_row (os:=[]) (k:=k) (Q:=Q) ok0 V A T rel0 (fun fr H' e U=>by obtain⟨g,rfl⟩:=E fr U;subst e;exact eN (N g))
 rwa [a0r]at this
theorem wk_rgD{id:Nat}(z:(aY ops&&P.follows .mixedOrders)=true)(hs:List (Nat×Hint))(lo hi:Nat)(ex:List Nat){A:List Nat}{l:List (Nat×Value)}{p:Prop}(h:fX P G0 (W0 P G0 K {H with log:=[]}) sz ops f 0 ops.toList hs lo hi ex A=some (l,p))(U:p)
  (T: ∀g,WK P G0 K sz .skip k (gC (hav lo hi ex g f) l) H Q):WK P G0 K sz (.region id ops true) k f H Q:=by
 obtain⟨S,E,N⟩:=top_ok h
 refine aF z ?_
 have:=wf_row (os:=[]) (k:=k) (Q:=Q) (D:=[]) V E U rel0 (fun fr z=>by obtain⟨g,rfl⟩:=N fr z;exact ew (T g))
 rwa [a0r]at this
theorem wo_rg(n i:Nat)(hs:List (Nat×Hint))(lo hi:Nat)(ex:List Nat){os:List Oper}{z:List Nat}{l:List (Nat×Value)}{p:Prop}(h:fX P G0 (W0 P G0 K H) sz ops f i (d6 os n) hs lo hi ex z=some (l,p))(T:p)
  (N: ∀g,WO P G0 K sz ops (ed os n) k (gC (hav lo hi ex g f) l) H Q):WO P G0 K sz ops os k f H Q:=by
 obtain⟨S,A,E⟩:=top_ok h
 have:=wo_row (os:=ed os n) (k:=k) (Q:=Q) ok0 V A T rel0 (fun fr H' e U=>by obtain⟨g,rfl⟩:=E fr U;subst e;exact N g)
 rwa [bV,bZ,a16]at this
end
end Go.R
end
noncomputable section
namespace Go.R
def foc:Nat->Code->List Fr->Code×List Fr
 |0,c,k=>(c,k)
 |n+1,.seq a b,k=>foc n a (.seq b::k)
 |n+1,.block id b,k=>foc n b (.block id::k)
 |n+1,.skip,.seq b::k=>foc n b k
 |n+1,.skip,.block _::k=>foc n .skip k
 |n+1,.exit id,.seq _::k=>foc n (.exit id) k
 |n+1,.exit id,.block id'::k=>bif Nat.beq id id' then foc n .skip k else foc n (.exit id) k
 |_+1,c,k=>(c,k)
section
variable {P:Program} {G:Nat} {K:bM} {sz:Nat} {Q:Ex->Fn->Heap->Prop} {f:Fn} {H:Heap}
theorem wk_foc': ∀(n:Nat) (c:Code) (k:List Fr),WK P G K sz (foc n c k).1 (foc n c k).2 f H Q->WK P G K sz c k f H Q:=by
 intro n;induction n with
 |zero=>intro c k h;exact h
 |succ n ih=>
  intro c k h
  cases c with
  |seq a b=>exact wk_seq (ih _ _ h)
  |block id b=>exact wk_block (ih _ _ h)
  |skip=>
   cases k with
   |nil=>exact h
   |cons x k=>
    cases x with
    |seq b=>exact wk_skip_seq (ih _ _ h)
    |block id=>exact lS (ih _ _ h)
  |exit id=>
   cases k with
   |nil=>exact h
   |cons x k=>
    cases x with
    |seq b=>exact wk_exit_seq (ih _ _ h)
    |block id'=>
     have z:WK P G K sz (bif Nat.beq id id' then foc n .skip k else foc n (.exit id) k).1 (bif Nat.beq id id' then foc n .skip k else foc n (.exit id) k).2 f H Q:=h
     cases A:Nat.beq id id' with
     |true=>
      have:=a09 A
      subst this
      rw[A]at z
      exact lT (ih _ _ z)
     |false=>
      rw[A]at z
      exact jm A (ih _ _ z)
  |_=>exact h
variable {c c1 c2:Code} {k k1 k2:List Fr}
theorem aj(n:Nat)(z:foc n c k=(c1,k1))(h:WK P G K sz c1 k1 f H Q):WK P G K sz c k f H Q:=wk_foc' n c k (by rw[z];exact h)
theorem az(n m:Nat){x:Operand}{a b:Code}{v:Bool}(Z:cS f x= .bool v)(T:bg G x=true)(A:foc n a k=(c1,k1))(E:foc m b k=(c2,k2))(U:v=true->WK P G K sz c1 k1 f H Q)(N:v=false->WK P G K sz c2 k2 f H Q):WK P G K sz (.cond x a b) k f H Q:=
 wk_cond Z T (fun z=>aj n A (U z)) (fun z=>aj m E (N z))
theorem bm(n:Nat){x:Operand}{a b:Code}{v:Bool}(N:cS f x= .bool v)(E:v=true)(A:bg G x=true)(z:foc n a k=(c1,k1))(h:WK P G K sz c1 k1 f H Q):WK P G K sz (.cond x a b) k f H Q:=wk_true N E A (aj n z h)
theorem kW(n:Nat){x:Operand}{a b:Code}{v:Bool}(N:cS f x= .bool v)(E:v=false)(A:bg G x=true)(z:foc n b k=(c1,k1))(h:WK P G K sz c1 k1 f H Q):WK P G K sz (.cond x a b) k f H Q:=wk_false N E A (aj n z h)
theorem bH(d_:Fn->Heap->Prop)(A:(∀z H',d_ z H'->WK P G K sz .skip k z H' Q)->WK P G K sz c k f H Q)(E: ∀z H',d_ z H'->WK P G K sz .skip k z H' Q):WK P G K sz c k f H Q:=A E
theorem wr(n:Nat){id:Nat}{ops:Array Oper}(hs:List (Nat×Hint))(lo hi:Nat)(ex:List Nat)(l:List (Nat×Value)){p:Prop}(E:p)(h:fX P G (W0 P G K H) sz ops f 0 ops.toList hs lo hi ex (dQ Prod.fst l)=some (l,p))(z:foc n .skip k=(c1,k1))
  (A: ∀g,WK P G K sz c1 k1 (gC (hav lo hi ex g f) l) H Q):WK P G K sz (.region id ops false) k f H Q:=wk_rg hs lo hi ex h E fun g=>aj n z (A g)
theorem wrD(n:Nat){id:Nat}{ops:Array Oper}(hs:List (Nat×Hint))(lo hi:Nat)(ex:List Nat)(l:List (Nat×Value)){p:Prop}(E:p)(N:(aY ops&&P.follows .mixedOrders)=true)(h:fX P G (W0 P G K {H with log:=[]}) sz ops f 0 ops.toList hs lo hi ex (dQ Prod.fst l)=some (l,p))(z:foc n .skip k=(c1,k1))
  (A: ∀g,WK P G K sz c1 k1 (gC (hav lo hi ex g f) l) H Q):WK P G K sz (.region id ops true) k f H Q:=wk_rgD N hs lo hi ex h E fun g=>aj n z (A g)
theorem wro(n i:Nat){ops:Array Oper}{os z:List Oper}(hs:List (Nat×Hint))(lo hi:Nat)(ex:List Nat)(l:List (Nat×Value)){p:Prop}(N:p)(h:fX P G (W0 P G K H) sz ops f i (d6 os n) hs lo hi ex (dQ Prod.fst l)=some (l,p))(A:ed os n=z)
  (E: ∀g,WO P G K sz ops z k (gC (hav lo hi ex g f) l) H Q):WO P G K sz ops os k f H Q:=wo_rg n i hs lo hi ex h N (by rw[A];exact E)
def HP(_:List (Nat×Hint))(p:Prop):Prop:=p
theorem Hn_:HP [] True:=trivial
theorem Ha_{hs:List (Nat×Hint)}{p q:Prop}(h:q)(r:HP hs p):HP hs (q/\p):=⟨h,r⟩
theorem Hl_(i:Nat){H:Heap}{t:TypeId}{a v:Value}{hs:List (Nat×Hint)}{p:Prop}(h:LDv P H t a v)(r:HP hs p):HP ((i,.o v)::hs) (LDv P H t a v/\p):=⟨h,r⟩
theorem Hc_(i:Nat){H:Heap}{g:FuncId}{args:List Value}{v:Value}{hs:List (Nat×Hint)}{p:Prop}(h:C P G K g args H fun v' H'=>v'=v/\H'=H)(r:HP hs p):HP ((i,.o v)::hs) ((C P G K g args H fun v' H'=>v'=v/\H'=H)/\p):=⟨h,r⟩
theorem Ho_(i:Nat)(x:Hint){hs:List (Nat×Hint)}{p q:Prop}(h:q)(r:HP hs p):HP ((i,x)::hs) (q/\p):=⟨h,r⟩
theorem Hw_(i:Nat)(x:Hint){hs:List (Nat×Hint)}{p:Prop}(r:HP hs p):HP ((i,x)::hs) p:=r
theorem wrp(n:Nat){id:Nat}{ops:Array Oper}{hs:List (Nat×Hint)}(lo hi:Nat)(ex:List Nat)(l:List (Nat×Value)){p:Prop}(E:HP hs p)(h:fX P G (W0 P G K H) sz ops f 0 ops.toList hs lo hi ex (dQ Prod.fst l)=some (l,p))(z:foc n .skip k=(c1,k1))
  (A: ∀g,WK P G K sz c1 k1 (gC (hav lo hi ex g f) l) H Q):WK P G K sz (.region id ops false) k f H Q:=wr n hs lo hi ex l E h z A
theorem wrDp(n:Nat){id:Nat}{ops:Array Oper}{hs:List (Nat×Hint)}(lo hi:Nat)(ex:List Nat)(l:List (Nat×Value)){p:Prop}(E:HP hs p)(N:(aY ops&&P.follows .mixedOrders)=true)(h:fX P G (W0 P G K {H with log:=[]}) sz ops f 0 ops.toList hs lo hi ex (dQ Prod.fst l)=some (l,p))(z:foc n .skip k=(c1,k1))
  (A: ∀g,WK P G K sz c1 k1 (gC (hav lo hi ex g f) l) H Q):WK P G K sz (.region id ops true) k f H Q:=wrD n hs lo hi ex l E N h z A
theorem cj(n i:Nat){ops:Array Oper}{os z:List Oper}{hs:List (Nat×Hint)}(lo hi:Nat)(ex:List Nat)(l:List (Nat×Value)){p:Prop}(N:HP hs p)(h:fX P G (W0 P G K H) sz ops f i (d6 os n) hs lo hi ex (dQ Prod.fst l)=some (l,p))(A:ed os n=z)
  (E: ∀g,WO P G K sz ops z k (gC (hav lo hi ex g f) l) H Q):WO P G K sz ops os k f H Q:=wro n i hs lo hi ex l N h A E
theorem ae(n:Nat){ops:Array Oper}(z:foc n .skip k=(c1,k1))(h:WK P G K sz c1 k1 f H Q):WO P G K sz ops [] k f H Q:=eN (aj n z h)
theorem bB(n:Nat){ops:Array Oper}{D:List (Nat×ID)}{i:Nat}(z:foc n .skip k=(c1,k1))(h:WK P G K sz c1 k1 f H Q):WF2 P G K sz ops D i [] k f H Q:=ew (aj n z h)
end
theorem vA{a b:Prop}(h:a)(k:b):a/\b:=⟨h,k⟩
theorem vi{n:Int}(h: -9223372036854775808<=n/\n<9223372036854775808:=by first|(dsimp only;omega)|omega):rng .i64 n:=h
theorem vu{n:Int}(h:0<=n/\n<18446744073709551616):rng .u64 n:=h
section
variable {P:Program} {G:Nat} {K:bM} {H:Heap} {F:Fz} {B:Base} {L R:List Fp}
theorem ld1{b o i:Nat}{cs:List Value}{w:Value}{t:TypeId}(hc:HC H.get b o cs)(E:aggOf P t=some false)(N:cs[i]?=some w):LDv P H t (.pointer (some ⟨b,o+i,none⟩)) w:=by obtain⟨all,T,U,z,A⟩:=hc.get N;show ovl (H.loadV P t ⟨b,o+i,none⟩) H=_;unfold Heap.loadV;rw[E];simp only;unfold Heap.cellAt;simp only[z,fV,A];rfl
theorem ldN{b o i n:Nat}{cs l:List Value}{t:TypeId}(hc:HC H.get b o cs)(T:aggOf P t=some true)(hs:cY P t=some n)(U:Nat.ble (i+n) cs.length=true)(z:d6 (ed cs i) n=l):LDv P H t (.pointer (some ⟨b,o+i,none⟩)) (.agg ⟨l⟩):=by obtain⟨all,Z,ro,A,E,N⟩:=hc.part (a06 U);rw[bV,bZ]at z;show ovl (H.loadV P t ⟨b,o+i,none⟩) H=_;unfold Heap.loadV;rw[T];simp only[hs];unfold Heap.loadN;rw[←z];simp only[A,bV,bZ,bE,E,N,a12,cond_true];rfl
theorem hc0{b o:Nat}{cs:List Value}(h:HC H.get b o cs):HC ({H with log:=[]}:Heap).get b o cs:=h
theorem cq{f:FuncId}{args:List Value}{Q:Value->Heap->Prop}{v:Value}(h:C P G K f args H Q)(z: ∀v' H',Q v' H'->v'=v/\H'=H):C P G K f args H fun v' H'=>v'=v/\H'=H:=h.mono z
section
variable {α:Type} [Rp α] {v:Value} {l:List α}
theorem Sv.view{get:Nat->Option AObj}(h:Sv F get v l): ∃cf:Nat->List Value,∀(j:Nat),(∀d:α,j<l.length->Rp.rep F (cf j) (l.getD j d)/\HC get (sB v) (sO v+j *Rp.sz α) (cf j))/\(l.length<=j->cf j=[]):=by
 have A: ∀j,∃cs,(∀(d:α),j<l.length->Rp.rep F cs (l.getD j d)/\HC get (sB v) (sO v+j *Rp.sz α) cs)/\(l.length<=j->cs=[]):=by
  intro j;by_cases z:j<l.length
  ·obtain⟨cs,N,T⟩:=h.at (a05 z);refine⟨cs,fun d _=>⟨?_,T⟩,fun h=>absurd h M⟩;rw[a03,a05 z];exact N
  exact⟨[],fun _ E=>absurd E z,fun _=>rfl⟩
 exact⟨fun j=>(A j).choose,fun j=>(A j).choose_spec⟩
abbrev VW(F:Fz)(get:Nat->Option AObj)(v:Value)(l:List α)(cf:Nat->List Value)(j:Nat):Prop:=(∀d:α,j<l.length->Rp.rep F (cf j) (l.getD j d)/\HC get (sB v) (sO v+j *Rp.sz α) (cf j))/\(l.length<=j->cf j=[])
theorem Sv.ix{get:Nat->Option AObj}(h:Sv F get v l){j:Int}(A:0<=j:=by first|(dsimp only;omega)|omega)(z:j<l.length:=by first|(dsimp only;omega)|omega):IX v j:=by
 rcases h with⟨_,rfl⟩|⟨b,off,k,o,rfl,T,cs,N,ro,rfl,U,E,Z,h6⟩
 ·simp at z;omega
 exact⟨b,off,_,k,V,A,z,E⟩
end
def sA:Value->Option Addr
 | .slice a _ _=>a
 |_=>none
def sK:Value->Nat
 | .slice _ _ k=>k
 |_=>0
abbrev cA(cs:List Value)(i:Nat):Option Addr:=sA (cs.getD i undef)
abbrev cK(cs:List Value)(i:Nat):Nat:=sK (cs.getD i undef)
end
theorem cV{α:Type}{l:List α}{j:Nat}{d:α}(h:l.length<=j):l.getD j d=d:=by rw[a03,a0L h];rfl
section
variable {F:Fz} {get:Nat->Option AObj} {v:Value} {cf:Nat->List Value} {j:Nat}
theorem vI{l:List Int}(h:VW F get v l cf j)(E:j<l.length:=by first|(dsimp only;omega)|omega):HC get (sB v) (sO v+j *Rp.sz Int) [.int .i64 (l.getD j 0)]:=by obtain⟨⟨A,_⟩,z⟩:=h.1 0 E;rw[A]at z;exact z
theorem fI{l:List Int}(h:VW F get v l cf j):in64 (l.getD j 0):=by
 rcases a0j j l.length with hj|hj
 ·exact(h.1 0 hj).1.2
 rw[cV hj];decide
theorem vB{l:List Bool}(h:VW F get v l cf j)(E:j<l.length:=by first|(dsimp only;omega)|omega):HC get (sB v) (sO v+j *Rp.sz Bool) [.bool (l.getD j false)]:=by obtain⟨A,z⟩:=h.1 false E;rw[show cf j=_ from A]at z;exact z
theorem vS{l:List Str}(h:VW F get v l cf j)(E:j<l.length:=by first|(dsimp only;omega)|omega):HC get (sB v) (sO v+j *Rp.sz Str) [.string ⟨⟨(l.getD j default).b⟩⟩]:=by obtain⟨A,z⟩:=h.1 default E;rw[show cf j=_ from A]at z;exact z
theorem vU{l:List U64}(h:VW F get v l cf j)(E:j<l.length:=by first|(dsimp only;omega)|omega):HC get (sB v) (sO v+j *Rp.sz U64) [.int .u64 (l.getD j default).n]:=by obtain⟨⟨A,_⟩,z⟩:=h.1 default E;rw[A]at z;exact z
theorem fU{l:List U64}(h:VW F get v l cf j):0<=(l.getD j default).n/\(l.getD j default).n<18446744073709551616:=by
 rcases a0j j l.length with hj|hj
 ·exact(h.1 default hj).1.2
 rw[cV hj];exact⟨Int.le_refl _,by decide⟩
theorem vL{α:Type} [Rp α]{l:List (List α)}(h:VW F get v l cf j)(E:j<l.length:=by first|(dsimp only;omega)|omega):HC get (sB v) (sO v+j *Rp.sz (List α)) [.slice (cA (cf j) 0) (l.getD j default).length (cK (cf j) 0)]:=by obtain⟨⟨a,k,A,_⟩,z⟩:=h.1 default E;rw[A]at z⊢;exact z
theorem fL{α:Type} [Rp α]{l:List (List α)}(h:VW F get v l cf j):SR F (.slice (cA (cf j) 0) (l.getD j default).length (cK (cf j) 0)) (l.getD j default):=by
 rcases a0j j l.length with hj|hj
 ·obtain⟨⟨a,k,z,A⟩,_⟩:=h.1 default hj;rw[z];exact A
 rw[cV hj,h.2 hj];exact SR.nil
theorem ap_callc{P:Program}{z:Operand}{d:Option Tmp}{ty:TypeId}{pos:String}{af:Array Edge}{gd:Option (Nat×Bool)}{H:Heap}{args:Array Operand}{A:Array TypeId}{i:FuncId}{fn:Func}{f:Fn}{l:List Value}{x y:Array Value}(U:cS f z= .func (.func i) x y)(N:P.funcs[i]?=some fn)(E:(fn.body.isSome&& !(fn.name== "runtime.NumGoroutine"))=true)(T:appL x.toList (appL (dQ (cS f) args.toList) y.toList)=l):
  AP P (cS f) ⟨d,.call ⟨.value z,args,A⟩,ty,pos,af,gd⟩ H (.enter i l,H):=by
 refine⟨?_⟩
 show fy (fM P (cS f z) (dQ (cS f) args.toList)) H=_
 rw[U]
 unfold fM
 simp only[N,E,cond_true,T]
 rfl
end
theorem vq{a b:Int}(A:in64 a)(hb:b≠ -1):rng .i64 (a.tdiv b):=by
 show in64 _;by_cases E:b=0
 ·subst E;rw[Int.tdiv_zero];decide
 have z:(a.tdiv b).natAbs=a.natAbs/b.natAbs:=Int.natAbs_tdiv a b;by_cases N:b=1
 ·subst N;rw[Int.tdiv_one];exact A
 have T:2<=b.natAbs:=M
 have U:(a.tdiv b).natAbs *2<=a.natAbs:=by rw[z];exact a0e (Nat.mul_le_mul_left _ T) (Nat.div_mul_le_self _ _)
 obtain⟨Z,h7⟩:=A;clear z;constructor<;>omega
theorem ve{n m:Int}(h:n=m)(z: -9223372036854775808<=m/\m<9223372036854775808):n=m/\rng .i64 m:=⟨h,z⟩
section
variable {P:Program} {t:TypeId} {fs:Array Field} {xs ys:List Value} {bs:List Bool}
theorem agEq(z:xs.all noA0=true)(A:ys.all noA0=true)(N:P.underlying t=some (.struct fs))(hs:P.stoodInHeld t=false)(E:P.eqGuardType P.depth t=false)(h:EqFs P 9999 ⟨xs⟩ ⟨ys⟩ fs.toList bs):AGB P .eql t (.agg ⟨xs⟩) (.agg ⟨ys⟩) (.bool (bs.all id)):=
 fun _ _ _ _ _ _ _ _ _ _ T U=>ap_agEq T U z A N hs E h
theorem agNe(A:xs.all noA0=true)(E:ys.all noA0=true)(hu:P.underlying t=some (.struct fs))(hs:P.stoodInHeld t=false)(hg:P.eqGuardType P.depth t=false)(h:EqFs P 9999 ⟨xs⟩ ⟨ys⟩ fs.toList bs):AGB P .neq t (.agg ⟨xs⟩) (.agg ⟨ys⟩) (.bool (!bs.all id)):=by
 intro ρ x y yt d ty pos af gd H z N;refine⟨?_⟩;show aBin P ρ _ .neq t (ρ x) y H=_;rw[z];show bD P ρ _ H=_;unfold bD;have Z:((Op.binOp .neq t x y yt).operands.toList.all fun x=>gZ (ρ x))=true:=by simp[Op.operands,z,N,hZ A,hZ E]
 simp only[Z,cond_true];have h2:aB P (execOp ρ ⟨d,.binOp .neq t x y yt,ty,pos,af,gd⟩)=some (.value (Value.bool (!bs.all id))):=by
  unfold execOp;simp only[z,N,aJ];have T:aB P (eqGuard .neq t x y (.agg ⟨xs⟩) (.agg ⟨ys⟩))=some ():=by simp[eqGuard,hg]
  have U:aB P (binOp .neq t (.agg ⟨xs⟩) (.agg ⟨ys⟩))=some (Value.bool (!bs.all id)):=by show aB P (Op.equal t (.agg ⟨xs⟩) (.agg ⟨ys⟩)>>=fun b=>(Pure.pure (Value.bool (!b)):Sem Value))=_;rw[aJ,show Op.equal t (.agg ⟨xs⟩) (.agg ⟨ys⟩)=Op.equalIn (9999+1) t (.agg ⟨xs⟩) (.agg ⟨ys⟩) from V,eq_struct hu hs h];rfl
  simp only[T,U,a0l];rfl
 rw[h2];rfl
end
end Go.R
end
noncomputable section
namespace Go.R
section
variable {B:Base} {F:Fz} {H:Heap} {L R:List Fp} {x:Fp}
theorem HS.first(h:HS B F H (x::L) R):HS B F H [x] R:=HS.sub h (by simp)
theorem HS.didW{z:Heap}{W:List Nat}(h:HS (.of {z with log:=[]} W) F H L R): ∀b,b∈H.log->z.next<=b\/b∈W:=fun b A=>by
 rcases h.log b A with h1|h1|h1
 ·simp[Base.of]at h1
 ·exact .inl h1
 exact .inr h1
end
end Go.R
end
namespace Go.R
end Go.R
namespace Go.R
theorem over_all: ∀(cs z:List Value),cs.length=z.length->over cs z=z
 | [],[],_=>rfl
 | [],_::_,h=>by simp at h
 |_::_,[],h=>by simp at h
 |c::cs,v::z,h=>by show v::over cs z=_;rw[over_all cs z (by simpa using h)]
theorem fq{α:Type} [Rp α]{F:Fz}{c_ Y:α}{cl:List Value}(h:Rp.rep F cl Y): ∀cs,Rp.rep F cs c_->0+cl.length<=cs.length/\Rp.rep F (bc cs 0 cl) Y:=by
 intro cs hc;have z:=Rp.len h;have A:=Rp.len hc;refine⟨by omega,?_⟩;have:bc cs 0 cl=over cs cl:=by cases cs<;>rfl
 rw[this,over_all _ _ M];exact h
end Go.R
namespace Go.R
theorem HS.nin{B:Base}{F:Fz}{H:Heap}{L R:List Fp}(h:HS B F H L R){i j:Nat}{p q:Fp}(hi:L[i]?=some p)(Z:L[j]?=some q)(E:i≠j){b:Nat}(U:b∈p.map Prod.fst):b∉q.map Prod.fst:=by
 intro hq;have hc:=h.callOwn hi;have z:=hc.nd;have N:q∈L.set i []:=by refine a0n (i:=j) ?_;rw[a2d E];exact Z
 simp only[a0U,a0m,a0P,a14,a1o]at z;refine z.2.2 b U b ?_ V;obtain⟨⟨T,o⟩,A,rfl⟩:=a0u.1 hq;exact a0u.2 ⟨(T,o),a0T.2 ⟨q,List.mem_append_left _ N,A⟩,V⟩
end Go.R
namespace Go.R
theorem SR.len'{α:Type} [Rp α]{F:Fz}{a:Option Addr}{n k:Nat}{l:List α}(h:SR F (.slice a n k) l):l.length=n:=by obtain⟨z,A,e⟩:=Sv.shape h;injection e with _ e _;exact e.symm
theorem SR.norm{α:Type} [Rp α]{F:Fz}{a:Option Addr}{n k:Nat}{l:List α}(h:SR F (.slice a n k) l):SR F (.slice a l.length k) l:=by rw[h.len'];exact h
theorem HS.apq{B:Base}{F:Fz}{H:Heap}{L R:List Fp}(h:HS B F H L R){i:Nat}{p:Fp}(hi:L[i]?=some p): ∀b,b∈p.map Prod.fst->¬F b≠none:=by intro b E N;obtain⟨⟨A,o⟩,z,rfl⟩:=a0u.1 E;exact N (h.own p (.inl (a0n hi)) A o z).2.2
theorem SR.q{α:Type} [Rp α]{F:Fz}{a:Option Addr}{n k:Nat}{l:List α}(h:SR F (.slice a n k) l): ∀p,a=some p->F p.block≠none:=by
 intro p z;rcases h with⟨e,_⟩|⟨b,off,N,o,e,A,_⟩
 ·injection e with e1;rw[e1]at z;cases z
 injection e with e1;rw[e1]at z;obtain rfl:=Option.some.inj z;rw[show F b=some o from A];exact fun E=>by cases E
end Go.R
noncomputable section
set_option linter.unusedVariables false
namespace Go.R
open Go
section
variable {P:Program} {G:Nat} {K:bM} {sz:Nat} {Q:Ex->Fn->Heap->Prop} {ops:Array Oper} {D:List (Nat×ID)} {i:Nat} {os:List Oper} {k k1 k2:List Fr} {c c1 c2:Code} {f:Fn} {H H1:Heap} {v:Value}
variable {d:Tmp} {ty:TypeId} {pos:String} {af:Array Edge} {x y:Operand}
theorem zi(n m:Nat){a b:Code}{v:Bool}(T:v=true->WK P G K sz c1 k1 f H Q)(E:v=false->WK P G K sz c2 k2 f H Q)(U:cS f x= .bool v:=by rfl)(N:bg G x=true:=by rfl)(z:foc n a k=(c1,k1):=by rfl)(A:foc m b k=(c2,k2):=by rfl):WK P G K sz (.cond x a b) k f H Q:=az n m U N z A T E
theorem zd(n m:Nat){a b:Code}{p:Prop}{i:Decidable p}(T:p->WK P G K sz c1 k1 f H Q)(E: ¬p->WK P G K sz c2 k2 f H Q)(U:cS f x= .bool (@decide p i):=by rfl)(N:bg G x=true:=by rfl)(z:foc n a k=(c1,k1):=by rfl)(A:foc m b k=(c2,k2):=by rfl):WK P G K sz (.cond x a b) k f H Q:=az n m U N z A (fun h=>T (of_decide_eq_true h)) fun h=>E (of_decide_eq_false h)
theorem za(v:Value)(h:WO P G K sz ops os k (upd f d v) H Q)(E:cS f x=v:=by rfl)(A:(Op.assign x).operands.toList.all (bg G)=true:=by rfl)(z:Nat.ble (d+1) sz=true:=by rfl):WO P G K sz ops (⟨some d,.assign x,ty,pos,af,none⟩::os) k f H Q:=wa v E A z h
theorem zm(v:Value)(h:WO P G K sz ops os k (upd f d v) H Q)(E:cS f x=v:=by rfl)(A:(Op.move x).operands.toList.all (bg G)=true:=by rfl)(z:Nat.ble (d+1) sz=true:=by rfl):WO P G K sz ops (⟨some d,.move x,ty,pos,af,none⟩::os) k f H Q:=wm v E A z h
theorem zfm(v:Value)(h:WF2 P G K sz ops ((i,.v)::D) (i+1) os k (upd f d v) H Q)(E:cS f x=v:=by rfl)(A:(Op.move x).operands.toList.all (bg G)=true:=by rfl)(z:Nat.ble (d+1) sz=true:=by rfl):WF2 P G K sz ops D i (⟨some d,.move x,ty,pos,af,none⟩::os) k f H Q:=fm v E A z h
theorem zc{args:Array Operand}{z:Array TypeId}{g:FuncId}{fn:Func}{l:List Value}{R:Value->Heap->Prop}(hc:C P G K g l H R)(h: ∀v A,R v A->WO P G K sz ops os k (upd f d v) A Q)(T:P.funcs[g]?=some fn:=by rfl)(E:(fn.body.isSome&& !(fn.name== "runtime.NumGoroutine"))=true:=by rfl)(U:dQ (cS f) args.toList=l:=by rfl)(Z:(Op.call ⟨.value (.func g),args,z⟩).operands.toList.all (bg G)=true:=by rfl)(N:Nat.ble (d+1) sz=true:=by rfl):
  WO P G K sz ops (⟨some d,.call ⟨.value (.func g),args,z⟩,ty,pos,af,none⟩::os) k f H Q:=aH (aq T E U) Z N hc h
theorem zp{s:TypeId}{b o n:Nat}(z:Nat)(h:WF2 P G K sz ops ((i,.v)::D) (i+1) os k (upd f d (.pointer (some ⟨b,z,none⟩))) H Q)(T:cS f x= .pointer (some ⟨b,o,none⟩):=by rfl)(A:iB P s (.pointer (some ⟨b,o,none⟩)) n=some (.pointer (some ⟨b,z,none⟩)):=by rfl)(N:(Op.fieldAddr s x n).operands.toList.all (bg G)=true:=by rfl)(E:Nat.ble (d+1) sz=true:=by rfl):WF2 P G K sz ops D i (⟨some d,.fieldAddr s x n,ty,pos,af,none⟩::os) k f H Q:=aK (fJ T A) N E (fE V) (eE _) h
theorem zl{t:TypeId}{b o o':Nat}(j:Nat){cs:List Value}{w:Value}(hc:HC ({H with log:=[]}:Heap).get b o cs)(h:WF2 P G K sz ops ((i,.l b)::D) (i+1) os k (upd f d w) H Q)(z:cS f x= .pointer (some ⟨b,o',none⟩):=by rfl)(A:aggOf P t=some false:=by rfl)(N:o'=o+j:=by rfl)(Z:cs[j]?=some w:=by rfl)(U:(Op.load t x).operands.toList.all (bg G)=true:=by rfl)(E:Nat.ble (d+1) sz=true:=by rfl)(T:okB ops i (.l b) D=true:=by rfl):WF2 P G K sz ops D i (⟨some d,.load t x,ty,pos,af,none⟩::os) k f H Q:=aK (cW (H:={H with log:=[]}) z A hc N Z) U E (cP z) (kb T) h
theorem zx(α:Type) [Rp α]{t e:TypeId}{Z:IntKind}{F:Fz}{l:List α}(j:Nat)(hs:Sv F ({H with log:=[]}:Heap).get v l)(h:WF2 P G K sz ops ((i,.v)::D) (i+1) os k (upd f d (.pointer (some ⟨sB v,sO v+j *Rp.sz α,none⟩))) H Q)(A:(j:Int)<l.length:=by first|(dsimp only;omega)|omega)(T:cS f x=v:=by rfl)(hi:cS f y= .int Z (j:Int):=by rfl)(N:P.underlying t=some (.slice e):=by rfl)(U:cY P e=some (Rp.sz α):=by rfl)(E:(Op.indexAddr t x y).operands.toList.all (bg G)=true:=by rfl)(z:Nat.ble (d+1) sz=true:=by rfl):
  WF2 P G K sz ops D i (⟨some d,.indexAddr t x y,ty,pos,af,none⟩::os) k f H Q:=aK (fH (H:={H with log:=[]}) T hi N U hs M A) E z (fE rfl) (eE _) h
theorem zy(α:Type) [Rp α]{t e:TypeId}{ki:IntKind}{F:Fz}{l:List α}(j:Int)(hs:Sv F ({H with log:=[]}:Heap).get v l)(h:WF2 P G K sz ops ((i,.v)::D) (i+1) os k (upd f d (.pointer (some ⟨sB v,sO v+j.toNat *Rp.sz α,none⟩))) H Q)(z:0<=j:=by first|(dsimp only;omega)|omega)(E:j<l.length:=by first|(dsimp only;omega)|omega)(U:cS f x=v:=by rfl)(hi:cS f y= .int ki j:=by rfl)(T:P.underlying t=some (.slice e):=by rfl)(Z:cY P e=some (Rp.sz α):=by rfl)(N:(Op.indexAddr t x y).operands.toList.all (bg G)=true:=by rfl)(A:Nat.ble (d+1) sz=true:=by rfl):
  WF2 P G K sz ops D i (⟨some d,.indexAddr t x y,ty,pos,af,none⟩::os) k f H Q:=aK (fH (H:={H with log:=[]}) U hi T Z hs z E) N A (fE rfl) (eE _) h
end
end Go.R
end
noncomputable section
set_option linter.unusedVariables false
namespace Go.R
def ownAt(L:List Fp)(q:Nat):Option (Nat×List Value):=match nth L q with
 |some [(b,.cells cs none false)]=>some (b,cs)
 |_=>none
theorem mn{L:List Fp}{q b:Nat}{cs:List Value}(h:ownAt L q=some (b,cs)):L[q]?=some [(b,.cells cs none false)]:=by
 unfold ownAt at h;split at h
 ·rename_i z;simp only[a00,a01]at h;obtain⟨rfl,rfl⟩:=h;rw[←fV];exact z
 cases h
def WN:FW:=⟨fun _ _ _=>False,fun _ _ _=>False,fun _ _ _ _ _=>False,fun _ _ _ _ _=>False,fun _ _ _ _ _=>False⟩
theorem okN{P:Program}{G0:Nat}{K:bM}{d_:Heap->Prop}:WN.OK P G0 K d_:=⟨fun h=>h.elim,fun h=>h.elim,fun h=>h.elim,fun h=>h.elim,fun h=>h.elim⟩
def ldR(P:Program)(t:TypeId)(cs:List Value)(o:Nat):Option Value:=match aggOf P t with
 |some false=>nth cs o
 |some true=>match cY P t with
  |some n=>bif Nat.ble (o+n) (eu cs) then fcM (d6 (ed cs o) n) fun l=>some (.agg ⟨l⟩) else none
  |none=>none
 |none=>none
def stR(P:Program)(L:List Fp)(q b:Nat)(cs:List Value)(t:TypeId)(o:Nat)(v:Value):Option (List Fp):=match cY P t with
 |some n=>fcV v fun v=>fcM v.cells.toList fun cl=>bif Nat.beq (eu cl) n&&(Nat.ble (o+eu cl) (eu cs)&&lQ Value.oneCell' cl) then
   fcL (bc cs o cl) fun z=>fcL (L.set q [(b,.cells z none false)]) some
  else none
 |none=>none
def sgL(P:Program)(G0:Nat)(W:FW)(sz:Nat)(ops:Array Oper)(f:Fn)(hs:List (Nat×Hint)):Nat->List Oper->SS->List Fp->Option (SS×List Fp×Prop)
 |_,[],S,L=>some (S,L,True)
 |i,o::os,S,L=>match hintAt hs i with
  | .r q=>match ownAt L q,o.guard,o.op.operands.toList.all (bg G0)&&o.op.operands.toList.all (S.can []) with
   |some (b,cs),none,true=>match o.dst,o.op with
    |some d,.load t a=>match S.rd f a with
     | .pointer (some ⟨b',o',none⟩)=>match ldR P t cs o' with
      |some v=>bif Nat.ble (d+1) sz then match putS none [] S.G S.m d v with
        |some (S1,_)=>match sgL P G0 W sz ops f hs (i+1) os S1 L with
         |some (S2,L2,p)=>some (S2,L2,b'=b/\p)
         |none=>none
        |none=>none else none
      |none=>none
     |_=>none
    |none,.store t a x=>match S.rd f a with
     | .pointer (some ⟨b',o',none⟩)=>match stR P L q b cs t o' (S.rd f x) with
      |some L1=>match sgL P G0 WN sz ops f hs (i+1) os S L1 with
       |some (S2,L2,p)=>some (S2,L2,b'=b/\p)
       |none=>none
      |none=>none
     |_=>none
    |_,_=>none
   |_,_,_=>none
  |h=>match stepS P G0 W sz ops f S h o with
   |some (S1,q)=>match sgL P G0 W sz ops f hs (i+1) os S1 L with
    |some (S2,L2,p)=>some (S2,L2,andO q p)
    |none=>none
   |none=>none
section
variable {P:Program} {G0:Nat} {K:bM} {sz:Nat} {Q:Ex->Fn->Heap->Prop} {ops:Array Oper} {os:List Oper} {k:List Fr} {f fr:Fn} {H:Heap} {S:SS} {B:Base} {F:Fz} {L R:List Fp}
theorem ldR_ok{t:TypeId}{cs:List Value}{o b:Nat}{v:Value}{a:Operand}{ρ:Operand->Value}{d:Option Tmp}{ty:TypeId}{pos:String}{af:Array Edge}{gd:Option (Nat×Bool)}(hc:HC H.get b 0 cs)(E:ρ a= .pointer (some ⟨b,o,none⟩))(h:ldR P t cs o=some v):AP P ρ ⟨d,.load t a,ty,pos,af,gd⟩ H (.val v,H):=by
 unfold ldR at h;split at h
 ·rename_i z;exact cW (i:=o) E z hc (a1f _).symm (by rw[←fV];exact h)
 ·rename_i z;split at h
  ·rename_i n N;cases A:Nat.ble (o+n) (eu cs) with
   |false=>rw[A]at h;cases h
   |true=>
    rw[A]at h
    simp only[cond_true,fcM_eq,a00]at h
    subst h
    exact cp (i:=o) E z N hc (a1f _).symm (by rw[←bE];exact A) V
  cases h
 cases h
theorem stR_ok{q b o:Nat}{cs:List Value}{t:TypeId}{v:Value}{A:List Fp}{a x:Operand}{ρ:Operand->Value}{d:Option Tmp}{ty:TypeId}{pos:String}{af:Array Edge}{gd:Option (Nat×Bool)}(hs:HS B F H L R)(T:L[q]?=some [(b,.cells cs none false)])(E:ρ a= .pointer (some ⟨b,o,none⟩))(U:ρ x=v)(h:stR P L q b cs t o v=some A):
  ∃r:Rs,AP P ρ ⟨d,.store t a x,ty,pos,af,gd⟩ H (.skip,r.H)/\(HS B F r.H A R/\Wr H r.H [b]):=by
 unfold stR at h
 split at h
 ·rename_i n N;simp only[fcV_eq,fcM_eq,lB]at h;cases z:(Nat.beq (eu v.cells.toList) n&&(Nat.ble (o+eu v.cells.toList) (eu cs)&&lQ Value.oneCell' v.cells.toList)) with
  |false=>rw[z]at h;cases h
  |true=>
   rw[z]at h
   simp only[cond_true,a00]at h
   subst h
   simp only[a07,bE]at z
   exact rs_rec hs T E U N V z.1 z.2.1 z.2.2 (by rw[lB])
 cases h
theorem gV{a:Operand}(z:S.Rel f fr)(h:S.can [] a=true):cS fr a=S.rd f a:=rd_ok (c:=[]) z V h
theorem jT{hs:List (Nat×Hint)}: ∀{a:List Oper} {i:Nat} {W:FW} {S S':SS} {L L':List Fp} {p:Prop} {fr:Fn} {H:Heap},W.OK P G0 K (· =H)->sgL P G0 W sz ops f hs i a S L=some (S',L',p)->p->S.Rel f fr->HS B F H L R->
  (∀z H',HS B F H' L' R->(a.all (fun o=>o.dst.isSome)=true->H'=H)->S'.Rel f z->WO P G0 K sz ops os k z H' Q)->WO P G0 K sz ops (a++os) k fr H Q
 | [],i,W,S,S',L,L',p,fr,H,hW,h,_,hr,hh,hk=>by simp only[sgL,a00,a01]at h;obtain⟨rfl,rfl,_⟩:=h;exact hk fr H hh (fun _=>rfl) hr
 |o::a,i,W,S,S',L,L',p,fr,H,hW,h,A,hr,hh,hk=>by
  unfold sgL at h;split at h
  ·rename_i q _;split at h
   ·rename_i b cs ho hg hc;rw[a07]at hc;have hq:=mn ho;obtain⟨bl,op,ty,pos,af,gd⟩:=o;simp only at hg hc h;subst hg;split at h
    ·rename_i d t x;simp only[Op.operands,a0J,a1E,a0X]at hc;split at h
     ·rename_i b' o' U;split at h
      ·rename_i v Z;cases hb:Nat.ble (d+1) sz with
       |false=>rw[hb]at h;cases h
       |true=>
        rw[hb]at h
        simp only[cond_true]at h
        split at h
        ·rename_i S1 q1 e3;split at h
         ·rename_i S2 L2 p2 e4;simp only[a00,a01]at h;obtain⟨rfl,rfl,rfl⟩:=h;obtain⟨rfl,A⟩:=A;have h1:=(jY (m:=S.m) (G:=S.G) hr (c:=[]) (fun _ _ hm=>(a0d hm).elim) e3).1;exact aS (ldR_ok (HS.hc hh hq) (by rw[gV hr hc.2];exact U) Z) (by simp only[Op.operands,a0J,a1E,a0X];exact hc.1) hb (jT hW e4 A h1 hh fun z H' N a2 T=>hk z H' N (fun E=>a2 (by simpa using E)) T)
         cases h
        cases h
      cases h
     cases h
    ·rename_i t x y;simp only[Op.operands,a0J,a1E,a0X,a07]at hc;split at h
     ·rename_i b' o' U;split at h
      ·rename_i L1 Z;split at h
       ·rename_i S2 L2 p2 e4;simp only[a00,a01]at h;obtain⟨rfl,rfl,rfl⟩:=h;obtain⟨rfl,A⟩:=A;refine d5 (stR_ok hh hq (by rw[gV hr hc.2.1];exact U) (gV hr hc.2.2) Z) (by simp only[Op.operands,a0J,a1E,a0X,a07];exact hc.1) ?_;rintro _ H1 _ ⟨h5,_⟩;exact jT okN e4 A hr h5 fun z H' N a2 T=>hk z H' N (fun E=>by simp at E) T
       cases h
      cases h
     cases h
    cases h
   cases h
  split at h
  ·rename_i S1 q h1;split at h
   ·rename_i S2 L2 p2 h2;simp only[a00,a01]at h;obtain⟨rfl,rfl,rfl⟩:=h;obtain⟨hq,a0⟩:=fj A;obtain⟨d,c,G1,v,U,Z,e3,e4,e5,e6⟩:=gp hW hr h1 hq;exact wo_do (d_:=(· =H)) U Z e3 (fF hr e4) e5 V fun H' ax=>by subst ax;exact jT hW h2 a0 e6 hh fun z H' N a2 T=>hk z H' N (fun E=>a2 (by simp only[a0J,a07]at E;exact E.2)) T
   cases h
  cases h
def sdL(P:Program)(G0:Nat)(W:FW)(sz:Nat)(ops:Array Oper)(f:Fn)(hs:List (Nat×Hint)):Nat->List Oper->SS->List Fp->List (Nat×ID)->Option (SS×List Fp×List (Nat×ID)×Prop)
 |_,[],S,L,D=>some (S,L,D,True)
 |i,o::os,S,L,D=>match hintAt hs i with
  | .r q=>match ownAt L q,o.guard,o.op.operands.toList.all (bg G0)&&o.op.operands.toList.all (S.can []) with
   |some (b,cs),none,true=>match o.dst,o.op with
    |some d,.load t a=>match S.rd f a with
     | .pointer (some ⟨b',o',none⟩)=>match ldR P t cs o' with
      |some v=>bif Nat.ble (d+1) sz&&okB ops i (.l b') D then match putS none [] S.G S.m d v with
        |some (S1,_)=>match sdL P G0 W sz ops f hs (i+1) os S1 L ((i,.l b')::D) with
         |some (S2,L2,D2,p)=>some (S2,L2,D2,b'=b/\p)
         |none=>none
        |none=>none else none
      |none=>none
     |_=>none
    |none,.store t a x=>match S.rd f a with
     | .pointer (some ⟨b',o',none⟩)=>match stR P L q b cs t o' (S.rd f x),okB ops i (.x [b']) D with
      |some L1,true=>match sdL P G0 WN sz ops f hs (i+1) os S L1 ((i,.x [b'])::D) with
       |some (S2,L2,D2,p)=>some (S2,L2,D2,b'=b/\p)
       |none=>none
      |_,_=>none
     |_=>none
    |_,_=>none
   |_,_,_=>none
  |h=>match stepS P G0 W sz ops f S h o with
   |some (S1,q)=>bif aU o.op then match sdL P G0 W sz ops f hs (i+1) os S1 L ((i,.v)::D) with
     |some (S2,L2,D2,p)=>some (S2,L2,D2,andO q p)
     |none=>none
    else bif D.all (fun e=>bnD e.2) then match sdL P G0 W sz ops f hs (i+1) os S1 L ((i,.r)::D) with
     |some (S2,L2,D2,p)=>some (S2,L2,D2,andO q p)
     |none=>none
    else none
   |none=>none
theorem wf_doV{D:List (Nat×ID)}{i d:Nat}{o:Oper}{c:Ch}{A:List (Nat×Bool)}{v:Value}(T:aU o.op=true)(U:o.dst=some d)(E:Nat.ble (d+1) sz=true)(Z:o.op.operands.toList.all (bg G0)=true)(N:GOK ops f fr S o.guard c A)
  (hp:act A c=true->PRes P G0 K (· ={H with log:=[]}) (cS fr) ⟨some d,o.op,o.type,o.pos,o.after,none⟩ {H with log:=[]} v) (h:WF2 P G0 K sz ops ((i,.v)::D) (i+1) os k (upd fr d (bif act A c then v else undef)) H Q):WF2 P G0 K sz ops D i (o::os) k fr H Q:=by
 obtain⟨ag,op,ty,pos,af,gd⟩:=o
 simp only at T U Z N hp
 subst U
 cases z:act A c with
 |true=>
  rw[z]at h
  have base:WF2 P G0 K sz ops D i (⟨some d,op,ty,pos,af,none⟩::os) k fr H Q:=by
   cases hp z with
   |val hv'=>exact aK (id:= .v) hv' Z E (fE T) (eE _) h
   |call g args he hk hc=>
    exfalso
    cases op<;>first|(cases hk;done)|(cases T;done)
  cases gd with
  |none=>exact base
  |some jw=>exact bu (N.on z) V base
 |false=>
  rw[z]at h
  have:=N.off z
  cases gd with
  |none=>exact absurd this id
  |some jw=>
   rcases this with h1|h1
   ·exact jo h1 E h
   exact bw h1 V E h
theorem jV{hs:List (Nat×Hint)}: ∀{a:List Oper} {i:Nat} {W:FW} {S S':SS} {L L':List Fp} {D D':List (Nat×ID)} {p:Prop} {fr:Fn} {H:Heap},W.OK P G0 K (· ={H with log:=[]})->sdL P G0 W sz ops f hs i a S L D=some (S',L',D',p)->p->S.Rel f fr->HS B F H L R->
  (∀z H',HS B F H' L' R->(a.all (fun o=>o.dst.isSome)=true->H'=H)->S'.Rel f z->WF2 P G0 K sz ops D' (i+a.length) os k z H' Q)->WF2 P G0 K sz ops D i (a++os) k fr H Q
 | [],i,W,S,S',L,L',D,D',p,fr,H,hW,h,_,hr,hh,hk=>by simp only[sdL,a00,a01]at h;obtain⟨rfl,rfl,rfl,_⟩:=h;exact hk fr H hh (fun _=>rfl) hr
 |o::a,i,W,S,S',L,L',D,D',p,fr,H,hW,h,E,hr,hh,hk=>by
  rw[a0a,show i+(a.length+1)=i+1+a.length by omega]at hk;unfold sdL at h;split at h
  ·rename_i q _;split at h
   ·rename_i b cs ho hg hc;rw[a07]at hc;have hq:=mn ho;obtain⟨b1,op,ty,pos,af,gd⟩:=o;simp only at hg hc h;subst hg;split at h
    ·rename_i d t x;simp only[Op.operands,a0J,a1E,a0X]at hc;split at h
     ·rename_i b' o' U;split at h
      ·rename_i v Z;cases hb:(Nat.ble (d+1) sz&&okB ops i (.l b') D) with
       |false=>rw[hb]at h;cases h
       |true=>
        rw[hb]at h
        rw[a07]at hb
        simp only[cond_true]at h
        split at h
        ·rename_i S1 q1 e3;split at h
         ·rename_i S2 L2 D2 p2 e4;simp only[a00,a01]at h;obtain⟨rfl,rfl,rfl,rfl⟩:=h;obtain⟨rfl,E⟩:=E;have h1:=(jY (m:=S.m) (G:=S.G) hr (c:=[]) (fun _ _ hm=>(a0d hm).elim) e3).1;have e5:cS fr x= .pointer (some ⟨b',o',none⟩):=by rw[gV hr hc.2];exact U
          exact aK (id:= .l b') (ldR_ok (HS.hc hh.log0 hq) e5 Z) (by simp only[Op.operands,a0J,a1E,a0X];exact hc.1) hb.1 (cP e5) (kb hb.2) (jV hW e4 E h1 hh fun z H' N a2 T=>hk z H' N (fun A=>a2 (by simpa using A)) T)
         cases h
        cases h
      cases h
     cases h
    ·rename_i t x y;simp only[Op.operands,a0J,a1E,a0X,a07]at hc;split at h
     ·rename_i b' o' U;split at h
      ·rename_i L1 Z e3;split at h
       ·rename_i S2 L2 D2 p2 e4;simp only[a00,a01]at h;obtain⟨rfl,rfl,rfl,rfl⟩:=h;obtain⟨rfl,E⟩:=E;refine gz (id:= .x [b']) (stR_ok hh.log0 hq (by rw[gV hr hc.2.1];exact U) (gV hr hc.2.2) Z) (by simp only[Op.operands,a0J,a1E,a0X,a07];exact hc.1) ?_ (kb e3) ?_
        ·rintro _ H1 _ ⟨_,hwr⟩;exact dK V V (Wr.did hwr)
        rintro _ H1 _ ⟨h5,_⟩ l hl;exact jV okN e4 E hr (HS.lg h5 hh hl) fun z H' N a2 T=>hk z H' N (fun A=>by simp at A) T
       cases h
      cases h
     cases h
    cases h
   cases h
  split at h
  ·rename_i S1 q h1;cases hv:aU o.op with
   |true=>
    rw[hv]at h
    simp only[cond_true]at h
    split at h
    ·rename_i S2 L2 D2 p2 h2;simp only[a00,a01]at h;obtain⟨rfl,rfl,rfl,rfl⟩:=h;obtain⟨hq,av⟩:=fj E;obtain⟨d,c,G1,v,U,Z,e3,e4,e5,e6⟩:=gp hW hr h1 hq;exact wf_doV hv U Z e3 (fF hr e4) (fun A=>e5 A _ V) (jV hW h2 av e6 hh fun z H' N a2 T=>hk z H' N (fun A=>a2 (by simp only[a0J,a07]at A;exact A.2)) T)
    cases h
   |false=>
    rw[hv]at h
    simp only[cond_false]at h
    cases hD:D.all (fun e=>bnD e.2) with
    |false=>rw[hD]at h;cases h
    |true=>
     rw[hD]at h
     simp only[cond_true]at h
     split at h
     ·rename_i S2 L2 D2 p2 h2;simp only[a00,a01]at h;obtain⟨rfl,rfl,rfl,rfl⟩:=h;obtain⟨hq,av⟩:=fj E;obtain⟨d,c,G1,v,U,Z,e3,e4,e5,e6⟩:=gp hW hr h1 hq;exact wf_do hD U Z e3 (fF hr e4) (fun A=>e5 A _ V) (jV hW h2 av e6 hh fun z H' N a2 T=>hk z H' N (fun A=>a2 (by simp only[a0J,a07]at A;exact A.2)) T)
     cases h
  cases h
theorem Hr_(i q:Nat){b:Nat}{hs:List (Nat×Hint)}{p:Prop}(r:HP hs p):HP ((i,.r q)::hs) (b=b/\p):=⟨V,r⟩
def sgE(lo hi:Nat)(ex z:List Nat)(r:Option (SS×List Fp×Prop)):Option (List (Nat×Value)×List Fp×Prop):=match r with
 |none=>none
 |some (S,L,p)=>bif S.m.all (fun e=>inR lo hi ex e.1) then
   match fins S.m z with
   |some l=>some (l,L,p)
   |none=>none
  else none
def sdE(lo hi:Nat)(ex z:List Nat)(r:Option (SS×List Fp×List (Nat×ID)×Prop)):Option (List (Nat×Value)×List Fp×List (Nat×ID)×Prop):=match r with
 |none=>none
 |some (S,L,D,p)=>bif S.m.all (fun e=>inR lo hi ex e.1) then
   match fins S.m z with
   |some l=>some (l,L,D,p)
   |none=>none
  else none
theorem sgE_ok{lo hi:Nat}{ex N:List Nat}{r:Option (SS×List Fp×Prop)}{l:List (Nat×Value)}{A:List Fp}{p:Prop}(h:sgE lo hi ex N r=some (l,A,p)): ∃S,r=some (S,A,p)/\∀fr,S.Rel f fr->∃g,fr=gC (hav lo hi ex g f) l:=by
 unfold sgE at h;split at h
 ·cases h
 rename_i S U Z;cases z:S.m.all (fun e=>inR lo hi ex e.1) with
 |false=>rw[z]at h;cases h
 |true=>
  rw[z]at h
  simp only[cond_true]at h
  split at h
  ·rename_i l' T;simp only[a00,a01]at h;obtain⟨rfl,rfl,rfl⟩:=h;refine⟨S,V,fun fr E=>⟨fr,?_⟩⟩;rw[←(iL E z).eq,fc (my E T)]
  cases h
theorem sdE_ok{lo hi:Nat}{ex T:List Nat}{r:Option (SS×List Fp×List (Nat×ID)×Prop)}{l:List (Nat×Value)}{E:List Fp}{A:List (Nat×ID)}{p:Prop}(h:sdE lo hi ex T r=some (l,E,A,p)): ∃S,r=some (S,E,A,p)/\∀fr,S.Rel f fr->∃g,fr=gC (hav lo hi ex g f) l:=by
 unfold sdE at h;split at h
 ·cases h
 rename_i S L1 Z p1;cases z:S.m.all (fun e=>inR lo hi ex e.1) with
 |false=>rw[z]at h;cases h
 |true=>
  rw[z]at h
  simp only[cond_true]at h
  split at h
  ·rename_i l' U;simp only[a00,a01]at h;obtain⟨rfl,rfl,rfl,rfl⟩:=h;refine⟨S,V,fun fr N=>⟨fr,?_⟩⟩;rw[←(iL N z).eq,fc (my N U)]
  cases h
variable {c1:Code} {k1:List Fr}
theorem sgo(n i:Nat){z:List Oper}{hs:List (Nat×Hint)}(lo hi:Nat)(ex:List Nat)(l:List (Nat×Value)){A:List Fp}{p:Prop}(hp:HP hs p)(Z:HS B F H L R)(h:sgE lo hi ex (dQ Prod.fst l) (sgL P G0 (W0 P G0 K H) sz ops f hs i (d6 os n) ⟨[],[]⟩ L)=some (l,A,p))(U:ed os n=z)
  (hk: ∀g H',HS B F H' A R->WO P G0 K sz ops z k (gC (hav lo hi ex g f) l) H' Q):WO P G0 K sz ops os k f H Q:=by
 subst U
 obtain⟨S,N,T⟩:=sgE_ok (f:=f) h
 have:=jT (os:=ed os n) (k:=k) (Q:=Q) ok0 N hp rel0 Z (fun fr H' E _ hr=>by obtain⟨g,rfl⟩:=T fr hr;exact hk g H' E)
 rwa [bV,bZ,a16]at this
theorem sgr(n:Nat){id:Nat}{hs:List (Nat×Hint)}(lo hi:Nat)(ex:List Nat)(l:List (Nat×Value)){z:List Fp}{p:Prop}(hp:HP hs p)(U:HS B F H L R)(h:sgE lo hi ex (dQ Prod.fst l) (sgL P G0 (W0 P G0 K H) sz ops f hs 0 ops.toList ⟨[],[]⟩ L)=some (l,z,p))(T:foc n .skip k=(c1,k1))
  (Z: ∀g H',HS B F H' z R->WK P G0 K sz c1 k1 (gC (hav lo hi ex g f) l) H' Q):WK P G0 K sz (.region id ops false) k f H Q:=by
 obtain⟨S,E,N⟩:=sgE_ok (f:=f) h
 refine aa ?_
 have:=jT (os:=[]) (k:=k) (Q:=Q) ok0 E hp rel0 U (fun fr H' A _ hr=>by obtain⟨g,rfl⟩:=N fr hr;exact eN (aj n T (Z g H' A)))
 rwa [a0r]at this
theorem sdo(n:Nat){i i':Nat}{z:List Oper}{hs:List (Nat×Hint)}(lo hi:Nat)(ex:List Nat)(l:List (Nat×Value)){E:List Fp}{D A:List (Nat×ID)}{p:Prop}(hp:HP hs p)(hh:HS B F H L R)(h:sdE lo hi ex (dQ Prod.fst l) (sdL P G0 (W0 P G0 K {H with log:=[]}) sz ops f hs i (d6 os n) ⟨[],[]⟩ L D)=some (l,E,A,p))(N:(ed os n,i+(d6 os n).length)=(z,i'))
  (hk: ∀g H',HS B F H' E R->WF2 P G0 K sz ops A i' z k (gC (hav lo hi ex g f) l) H' Q):WF2 P G0 K sz ops D i os k f H Q:=by
 simp only[a01]at N
 obtain⟨rfl,rfl⟩:=N
 obtain⟨S,U,Z⟩:=sdE_ok (f:=f) h
 have:=jV (os:=ed os n) (k:=k) (Q:=Q) ok0 U hp rel0 hh (fun fr H' T _ hr=>by obtain⟨g,rfl⟩:=Z fr hr;exact hk g H' T)
 rwa [bV,bZ,a16]at this
theorem bn(n i:Nat){A:List Oper}{hs:List (Nat×Hint)}(lo hi:Nat)(ex:List Nat)(l:List (Nat×Value)){E:List Fp}{p:Prop}(hp:HP hs p)(U:HS B F H L R)(h:sgE lo hi ex (dQ Prod.fst l) (sgL P G0 (W0 P G0 K H) sz ops f hs i (d6 os n) ⟨[],[]⟩ L)=some (l,E,p))(z:(ed os n,(d6 os n).all (fun o=>o.dst.isSome))=(A,true))
  (Z: ∀g,WO P G0 K sz ops A k (gC (hav lo hi ex g f) l) H Q):WO P G0 K sz ops os k f H Q:=by
 simp only[a01]at z
 obtain⟨rfl,z⟩:=z
 obtain⟨S,N,T⟩:=sgE_ok (f:=f) h
 have:=jT (os:=ed os n) (k:=k) (Q:=Q) ok0 N hp rel0 U (fun fr H' ai e hr=>by obtain⟨g,rfl⟩:=T fr hr;rw[e z];exact Z g)
 rwa [bV,bZ,a16]at this
theorem bF(n:Nat){id:Nat}{hs:List (Nat×Hint)}(lo hi:Nat)(ex:List Nat)(l:List (Nat×Value)){A:List Fp}{p:Prop}(Z:HP hs p)(T:HS B F H L R)(h:sgE lo hi ex (dQ Prod.fst l) (sgL P G0 (W0 P G0 K H) sz ops f hs 0 ops.toList ⟨[],[]⟩ L)=some (l,A,p))(z:(foc n .skip k,ops.toList.all (fun o=>o.dst.isSome))=((c1,k1),true))
  (U: ∀g,WK P G0 K sz c1 k1 (gC (hav lo hi ex g f) l) H Q):WK P G0 K sz (.region id ops false) k f H Q:=by
 rw[a01]at z
 obtain⟨S,E,N⟩:=sgE_ok (f:=f) h
 refine aa ?_
 have:=jT (os:=[]) (k:=k) (Q:=Q) ok0 E Z rel0 T (fun fr H' ag e hr=>by obtain⟨g,rfl⟩:=N fr hr;rw[e z.2];exact eN (aj n z.1 (U g)))
 rwa [a0r]at this
theorem d8(n:Nat){i i':Nat}{A:List Oper}{hs:List (Nat×Hint)}(lo hi:Nat)(ex:List Nat)(l:List (Nat×Value)){N:List Fp}{D E:List (Nat×ID)}{p:Prop}(hp:HP hs p)(Z:HS B F H L R)(h:sdE lo hi ex (dQ Prod.fst l) (sdL P G0 (W0 P G0 K {H with log:=[]}) sz ops f hs i (d6 os n) ⟨[],[]⟩ L D)=some (l,N,E,p))(z:(ed os n,i+(d6 os n).length,(d6 os n).all (fun o=>o.dst.isSome))=(A,i',true))
  (hk: ∀g,WF2 P G0 K sz ops E i' A k (gC (hav lo hi ex g f) l) H Q):WF2 P G0 K sz ops D i os k f H Q:=by
 simp only[a01]at z
 obtain⟨rfl,rfl,z⟩:=z
 obtain⟨S,T,U⟩:=sdE_ok (f:=f) h
 have:=jV (os:=ed os n) (k:=k) (Q:=Q) ok0 T hp rel0 Z (fun fr H' al e hr=>by obtain⟨g,rfl⟩:=U fr hr;rw[e z];exact hk g)
 rwa [bV,bZ,a16]at this
theorem sdr0(n:Nat){id:Nat}{hs:List (Nat×Hint)}(lo hi:Nat)(ex:List Nat)(l:List (Nat×Value)){N:List Fp}{E:List (Nat×ID)}{p:Prop}(hp:HP hs p)(Z:HS B F H L R)(A:(aY ops&&P.follows .mixedOrders)=true)(h:sdE lo hi ex (dQ Prod.fst l) (sdL P G0 (W0 P G0 K {H with log:=[]}) sz ops f hs 0 ops.toList ⟨[],[]⟩ L [])=some (l,N,E,p))(z:(foc n .skip k,ops.toList.all (fun o=>o.dst.isSome))=((c1,k1),true))
  (hk: ∀g,WK P G0 K sz c1 k1 (gC (hav lo hi ex g f) l) H Q):WK P G0 K sz (.region id ops true) k f H Q:=by
 rw[a01]at z
 obtain⟨S,T,U⟩:=sdE_ok (f:=f) h
 refine aF A ?_
 have:=jV (os:=[]) (k:=k) (Q:=Q) ok0 T hp rel0 Z (fun fr H' ai e A=>by obtain⟨g,rfl⟩:=U fr A;rw[e z.2];exact ew (aj n z.1 (hk g)))
 rwa [a0r]at this
theorem wcD{D:List (Nat×ID)}{i j:Nat}{d:Tmp}{ty:TypeId}{pos:String}{af:Array Edge}{args:Array Operand}{E:Array TypeId}{g:FuncId}{fn:Func}{al:List Value}{T:Value->Heap->Prop}{q:Fp}(W:List Nat)(hh:HS B F H L R)(hq:L[j]?=some q)(hw:q.map Prod.fst=W)(hc:C P G0 K g al {H with log:=[]} T)
  (z:(P.funcs[g]?,dQ (cS f) args.toList,Nat.ble (d+1) sz,(Op.call ⟨.value (.func g),args,E⟩).operands.toList.all (bg G0))=(some fn,al,true,true)) (N:(fn.body.isSome&& !(fn.name== "runtime.NumGoroutine"))=true) (an:okD ops i (.x W) D)
  (h: ∀v A,T v A->∃F' U b_,HS (.of {H with log:=[]} W) F' A (U::b_) (L.set j []++R)/\∀Z,HS B F' Z (L.set j U++b_) R->WF2 P G0 K sz ops ((i,.x W)::D) (i+1) os k (upd f d v) Z Q):
  WF2 P G0 K sz ops D i (⟨some d,.call ⟨.value (.func g),args,E⟩,ty,pos,af,none⟩::os) k f H Q:=by
 subst hw
 simp only[a01]at z
 refine aN (W:=q.map Prod.fst) (aq z.1 N z.2.1) z.2.2.2 z.2.2.1 V hc an ?_
 intro v A hT
 obtain⟨F',U,b_,h1,h2⟩:=h v A hT
 refine⟨HS.didW h1,fun l hl=>h2 _ ?_⟩
 exact HS.lg (HS.backOwn hh.log0 hq V (fun _ N=>N) h1) hh hl
theorem HS.bO{W:List Nat}{p q:Fp}{b_:List Fp}{i:Nat}{F':Fz}{z H':Heap}(h:HS B F H L R)(k:HS (.of z W) F' H' (q::b_) (L.set i []++R))(hi:L[i]?=some p:=by rfl)(A:z=H:=by rfl)(E: ∀b,b∈W->b∈p.map Prod.fst:=by exact fun _ h=>h):HS B F' H' (L.set i q++b_) R:=by exact HS.backOwn h hi A E k
theorem zn{e:TypeId}{d:Tmp}{ty:TypeId}{pos:String}{af:Array Edge}{z:List Value}(E:HS B F H L R)(A:(cJ P e,Nat.ble (d+1) sz)=(some z,true))(N: ∀b H1,HS B F H1 (L++[[(b,.cells z none false)]]) R->WO P G0 K sz ops os k (upd f d (.pointer (some ⟨b,0,none⟩))) H1 Q):WO P G0 K sz ops (⟨some d,.alloc e,ty,pos,af,none⟩::os) k f H Q:=by simp only[a01]at A;refine aV (rs_new E A.1) V A.2 ?_;rintro _ H1 _ ⟨b,rfl,h1,_⟩;exact N b H1 h1
theorem znD{D:List (Nat×ID)}{i:Nat}{e:TypeId}{d:Tmp}{ty:TypeId}{pos:String}{af:Array Edge}{z:List Value}(E:HS B F H L R)(A:(cJ P e,Nat.ble (d+1) sz,okB ops i .a D)=(some z,true,true))(N: ∀b H1,HS B F H1 (L++[[(b,.cells z none false)]]) R->WF2 P G0 K sz ops ((i,.a)::D) (i+1) os k (upd f d (.pointer (some ⟨b,0,none⟩))) H1 Q):WF2 P G0 K sz ops D i (⟨some d,.alloc e,ty,pos,af,none⟩::os) k f H Q:=by simp only[a01]at A;refine e9 (id:= .a) (rs_new E.log0 A.1) V A.2.1 (fun _ _ _ _=>did_a V V V) (kb A.2.2) ?_;rintro _ H1 _ ⟨b,rfl,h1,_⟩ l hl;exact N b _ (HS.lg h1 E hl)
def litL(P:Program)(f:Fn)(m:Nat)(t:TypeId)(n:Nat)(A:Array (Nat×Operand)):Option (List Value):=match d7 P t with
 |some (s,z)=>bif Nat.beq s m&&Nat.ble (n *s) 16777216 then match fillL (fun i=>some (i *s,s)) (cz n z) (dQ (fun p=>(p.1,cS f p.2)) A.toList) with
   |some cs=>fcM cs some
   |none=>none
  else none
 |none=>none
theorem litL_ok{m:Nat}{t:TypeId}{n:Nat}{A:Array (Nat×Operand)}{cs:List Value}(h:litL P f m t n A=some cs): ∃z,d7 P t=some (m,z)/\Nat.ble (n *m) 16777216=true/\Instr.fill (fun i=>some (i *m,m)) ⟨cz n z⟩ (dQ (fun p=>(p.1,cS f p.2)) A.toList)=some ⟨cs⟩:=by
 unfold litL at h;split at h
 ·rename_i s z e;cases E:(Nat.beq s m&&Nat.ble (n *s) 16777216) with
  |false=>rw[E]at h;cases h
  |true=>
   rw[E]at h
   simp only[cond_true]at h
   rw[a07]at E
   have:=a09 E.1
   subst this
   split at h
   ·rename_i T N;rw[fcM_eq,a00]at h;subst h;exact⟨z,e,E.2,mz _ _ _ _ N⟩
   cases h
 cases h
theorem RL.nl{α:Type} [Rp α]:RL F [] ([]:List α):=rfl
theorem RL.cs{α:Type} [Rp α]{x:α}{l:List α}{c r:List Value}(h:Rp.rep F c x)(t:RL F r l):RL F (c++r) (x::l):=⟨c,r,V,h,t⟩
section
variable {α:Type} [Rp α] {d:Tmp} {ty:TypeId} {pos:String} {af:Array Edge} {D:List (Nat×ID)} {i:Nat}
theorem zlo{t:TypeId}{n:Nat}{A:Array (Nat×Operand)}{cells E:List Value}(l:List α)(hh:HS B F H L R)(N:(litL P f (Rp.sz α) t n A,Nat.ble (d+1) sz,(Op.buildSlice t n A).operands.toList.all (bg G0),eu l)=(some cells,true,true,n))(hr:RL F E l)(hc:cells=E)
  (hk: ∀a T p H1,OS F (.slice a l.length T) l p->HS B F H1 (L++[p]) R->WO P G0 K sz ops os k (upd f d (.slice a l.length T)) H1 Q):WO P G0 K sz ops (⟨some d,.buildSlice t n A,ty,pos,af,none⟩::os) k f H Q:=by
 subst hc
 simp only[a01]at N
 obtain⟨z,U,Z,h3⟩:=litL_ok N.1
 refine aV (rs_lit l hh V U Z h3 hr (by rw[←bE];exact N.2.2.2)) N.2.2.1 N.2.1 ?_
 rintro _ H1 p ⟨a,T,rfl,ho,h5,_⟩
 exact hk a T p H1 ho h5
theorem zld{t:TypeId}{n:Nat}{A:Array (Nat×Operand)}{cells E:List Value}(l:List α)(U:HS B F H L R)(N:(litL P f (Rp.sz α) t n A,Nat.ble (d+1) sz,(Op.buildSlice t n A).operands.toList.all (bg G0),eu l,okB ops i .a D)=(some cells,true,true,n,true))(hr:RL F E l)(hc:cells=E)
  (hk: ∀a T p H1,OS F (.slice a l.length T) l p->HS B F H1 (L++[p]) R->WF2 P G0 K sz ops ((i,.a)::D) (i+1) os k (upd f d (.slice a l.length T)) H1 Q):WF2 P G0 K sz ops D i (⟨some d,.buildSlice t n A,ty,pos,af,none⟩::os) k f H Q:=by
 subst hc
 simp only[a01]at N
 obtain⟨z,Z,h2,h3⟩:=litL_ok N.1
 refine e9 (id:= .a) (rs_lit l U.log0 V Z h2 h3 hr (by rw[←bE];exact N.2.2.2.1)) N.2.2.1 N.2.1 (fun _ _ _ _=>did_a V V V) (kb N.2.2.2.2) ?_
 rintro _ H1 p ⟨a,T,rfl,ho,h5,_⟩ lg hl
 exact hk a T p _ ho (HS.lg h5 U hl)
theorem zao{s0 x0:Operand}{st e:TypeId}{v u:Value}{l N:List α}{p:Fp}{ad:Nat}{z:List Value}(q:Nat)(ho:OS F v l p)(hh:HS B F H L R)(hu:Sv F H.get u N)(E:(L[q]?,cS f s0,cS f x0,P.underlying st)=(some p,v,u,some (.slice e)))(T:(cY P e,eL P e,cJ P e)=(some (Rp.sz α),some ad,some z))
  (A:(Nat.beq (eu z) (Rp.sz α)&&(Nat.ble ad 4096&&(!Nat.beq (Rp.sz α) 0&&(Nat.ble (d+1) sz&&(Op.call ⟨.builtin .append, #[s0,x0], #[st,st]⟩).operands.toList.all (bg G0)))))=true) (hl:l.length+N.length<=2147483648)
  (hk: ∀a U Z H1,OS F (.slice a (l++N).length U) (l++N) Z->HS B F H1 (L.set q Z) R->WO P G0 K sz ops os k (upd f d (.slice a (l++N).length U)) H1 Q):WO P G0 K sz ops (⟨some d,.call ⟨.builtin .append, #[s0,x0], #[st,st]⟩,ty,pos,af,none⟩::os) k f H Q:=by
 simp only[a01]at E T
 simp only[a07,a0B]at A
 refine aV (rs_app ho hh E.1 E.2.1 E.2.2.1 hu E.2.2.2 T.1 T.2.1 T.2.2 A.1 A.2.1 A.2.2.1 hl) A.2.2.2.2 A.2.2.2.1 ?_
 rintro _ H1 Z ⟨a,U,rfl,h5,h6,_⟩
 exact hk a U Z H1 h5 h6
theorem zad{s0 x0:Operand}{st e:TypeId}{v u:Value}{l N:List α}{p:Fp}{ad:Nat}{z:List Value}(q:Nat)(ho:OS F v l p)(hh:HS B F H L R)(hu:Sv F H.get u N)(E:(L[q]?,cS f s0,cS f x0,P.underlying st)=(some p,v,u,some (.slice e)))(T:(cY P e,eL P e,cJ P e)=(some (Rp.sz α),some ad,some z))
  (A:(Nat.beq (eu z) (Rp.sz α)&&(Nat.ble ad 4096&&(!Nat.beq (Rp.sz α) 0&&(Nat.ble (d+1) sz&&(Op.call ⟨.builtin .append, #[s0,x0], #[st,st]⟩).operands.toList.all (bg G0)))))=true) (hl:l.length+N.length<=2147483648) (an:okD ops i (.x (p.map Prod.fst)) D)
  (hk: ∀a U Z H1,OS F (.slice a (l++N).length U) (l++N) Z->HS B F H1 (L.set q Z) R->WF2 P G0 K sz ops ((i,.x (p.map Prod.fst))::D) (i+1) os k (upd f d (.slice a (l++N).length U)) H1 Q):WF2 P G0 K sz ops D i (⟨some d,.call ⟨.builtin .append, #[s0,x0], #[st,st]⟩,ty,pos,af,none⟩::os) k f H Q:=by
 simp only[a01]at E T
 simp only[a07,a0B]at A
 refine e9 (id:= .x (p.map Prod.fst)) (rs_app ho hh.log0 E.1 E.2.1 E.2.2.1 hu E.2.2.2 T.1 T.2.1 T.2.2 A.1 A.2.1 A.2.2.1 hl) A.2.2.2.2 A.2.2.2.1 ?_ an ?_
 ·rintro _ _ _ ⟨_,_,rfl,_,_,hwr⟩;exact dK V V (Wr.did hwr)
 rintro _ H1 Z ⟨a,U,rfl,h5,h6,_⟩ lg hl'
 exact hk a U Z _ h5 (HS.lg h6 hh hl')
end
end
end Go.R
end
noncomputable section
set_option linter.unusedVariables false
namespace Go.R
def JJ(B:Base)(F:Fz)(L R:List Fp)(H:Heap):Prop:= ∃F',Fz.le F F'/\HS B F' H L R
section
variable {P:Program} {G:Nat} {K:bM} {sz:Nat} {Q:Ex->Fn->Heap->Prop} {f:Fn} {H:Heap} {B:Base} {F:Fz} {L R:List Fp} {c1:Code} {k k1:List Fr}
theorem jl0(hs:HS B F H L R){b:Nat}{cs:List Value}{w:Value}(t:TypeId)(i j:Nat)(z:aggOf P t=some false)(h:L[j]?=some [(b,.cells cs none false)])(A:cs[i]?=some w): ∀H,JJ B F L R H->LDv P H t (.pointer (some ⟨b,i,none⟩)) w:=
 fun _ ⟨_,_,q⟩=>by have:=ld1 (o:=0) (HS.hc q h) z A;rwa [a1f]at this
theorem jn0(hs:HS B F H L R){b:Nat}{cs l:List Value}(t:TypeId)(i n j:Nat)(z:aggOf P t=some true)(N:cY P t=some n)(h:L[j]?=some [(b,.cells cs none false)])(E:Nat.ble (i+n) cs.length=true)(A:d6 (ed cs i) n=l): ∀H,JJ B F L R H->LDv P H t (.pointer (some ⟨b,i,none⟩)) (.agg ⟨l⟩):=
 fun _ ⟨_,_,q⟩=>by have:=ldN (o:=0) (HS.hc q h) z N E A;rwa [a1f]at this
def FzC(F:Fz)(b:Nat)(cs:List Value):Prop:=F b=some (.cells cs none false)
theorem jc(hs:HS B F H L R){g:FuncId}{args:List Value}{α:Type}{e:α->Value}{c_:α}(h: ∀z H1,Fz.le F z->HS (.of H1 []) z H1 [] (L++R)->C P G K g args H1 fun v E=> ∃(o:α) (A:Fz),Fz.le z A/\HS (.of H1 []) A E [] (L++R)/\v=e o/\o=c_):
  ∀H,JJ B F L R H->C P G K g args H fun v H'=>v=e c_/\JJ B F L R H':=
 fun H ⟨z,h1,q⟩=>(h z H h1 q.call).mono fun v H' ⟨o,A,h2,q2,e1,e2⟩=>⟨by rw[e1,e2],A,Fz.le_trans h1 h2,by
  have:=q.back V q2;rwa [a0r]at this⟩
end
end Go.R
end
noncomputable section
set_option linter.unusedVariables false
namespace Go.R
section
variable {P:Program} {G0:Nat} {K:bM} {sz:Nat} {Q:Ex->Fn->Heap->Prop} {ops:Array Oper} {os:List Oper} {k k1:List Fr} {c1:Code} {f fr:Fn} {H:Heap} {S:SS} {B:Base} {F:Fz} {L R:List Fp}
theorem sj_row{hs:List (Nat×Hint)}: ∀{a:List Oper} {i:Nat} {S S':SS} {E:List Fp} {p:Prop} {fr:Fn} {H:Heap},JJ B F L R H->a.all (fun o=>o.dst.isSome)=true->sgL P G0 (WJ P G0 K (JJ B F L R)) sz ops f hs i a S L=some (S',E,p)->p->S.Rel f fr->
  (∀A H',JJ B F L R H'->S'.Rel f A->WO P G0 K sz ops os k A H' Q)->WO P G0 K sz ops (a++os) k fr H Q
 | [],i,S,S',E,p,fr,H,hJ,_,h,_,hr,hk=>by simp only[sgL,a00,a01]at h;obtain⟨rfl,_,_⟩:=h;exact hk fr H hJ hr
 |o::a,i,S,S',E,p,fr,H,hJ,hd,h,z,hr,hk=>by
  rw[a0J,a07]at hd;unfold sgL at h;split at h
  ·rename_i q _;split at h
   ·rename_i b cs ho hg hc;rw[a07]at hc;have hq:=mn ho;obtain⟨a6,op,ty,pos,af,gd⟩:=o;simp only at hg hc h hd;subst hg;split at h
    ·rename_i d t x;simp only[Op.operands,a0J,a1E,a0X]at hc;split at h
     ·rename_i b' o' N;split at h
      ·rename_i v T;cases hb:Nat.ble (d+1) sz with
       |false=>rw[hb]at h;cases h
       |true=>
        rw[hb]at h
        simp only[cond_true]at h
        split at h
        ·rename_i S1 q1 U;split at h
         ·rename_i S2 L2 p2 Z;simp only[a00,a01]at h;obtain⟨rfl,rfl,rfl⟩:=h;obtain⟨rfl,z⟩:=z;have h1:=(jY (m:=S.m) (G:=S.G) hr (c:=[]) (fun _ _ hm=>(a0d hm).elim) U).1;obtain⟨F',al,hh⟩:=hJ;exact aS (ldR_ok (HS.hc hh hq) (by rw[gV hr hc.2];exact N) T) (by simp only[Op.operands,a0J,a1E,a0X];exact hc.1) hb (sj_row ⟨F',al,hh⟩ hd.2 Z z h1 hk)
         cases h
        cases h
      cases h
     cases h
    ·cases hd.1
    cases h
   cases h
  split at h
  ·rename_i S1 q h1;split at h
   ·rename_i S2 L2 p2 h2;simp only[a00,a01]at h;obtain⟨rfl,rfl,rfl⟩:=h;obtain⟨hq,av⟩:=fj z;obtain⟨d,c,G1,v,N,T,U,Z,e5,e6⟩:=gp okJ hr h1 hq;exact wo_do N T U (fF hr Z) e5 hJ fun H' an=>sj_row an hd.2 h2 av e6 hk
   cases h
  cases h
theorem sj(n:Nat){id:Nat}{hs:List (Nat×Hint)}(lo hi:Nat)(ex:List Nat)(l:List (Nat×Value)){p:Prop}(U:HP hs p)(N:HS B F H L R)(h:sgE lo hi ex (dQ Prod.fst l) (sgL P G0 (WJ P G0 K (JJ B F L R)) sz ops f hs 0 ops.toList ⟨[],[]⟩ L)=some (l,L,p))(z:(foc n .skip k,ops.toList.all (fun o=>o.dst.isSome))=((c1,k1),true))
  (T: ∀g H F',Fz.le F F'->HS B F' H L R->WK P G0 K sz c1 k1 (gC (hav lo hi ex g f) l) H Q):WK P G0 K sz (.region id ops false) k f H Q:=by
 rw[a01]at z
 obtain⟨S,A,E⟩:=sgE_ok (f:=f) h
 refine aa ?_
 have:=sj_row (os:=[]) (k:=k) (Q:=Q) ⟨F,Fz.le_refl F,N⟩ z.2 A U rel0 (fun fr H' ⟨F',q1,q2⟩ hr=>by obtain⟨g,rfl⟩:=E fr hr;exact eN (aj n z.1 (T g H' F' q1 q2)))
 rwa [a0r]at this
theorem Hk_(i:Nat){d_:Heap->Prop}{g:FuncId}{args:List Value}{v:Value}{hs:List (Nat×Hint)}{p:Prop}(h: ∀H,d_ H->C P G0 K g args H fun v' H'=>v'=v/\d_ H')(r:HP hs p):HP ((i,.o v)::hs) ((∀H,d_ H->C P G0 K g args H fun v' H'=>v'=v/\d_ H')/\p):=⟨h,r⟩
theorem bt(i:Nat){z w0:Bool}{H:Heap}{t:TypeId}{a v:Value}{hs:List (Nat×Hint)}{p:Prop}(h:z=w0->LDv P H t a v)(r:HP hs p):HP ((i,.o v)::hs) ((z=w0->LDv P H t a v)/\p):=⟨h,r⟩
theorem Hc1_(i:Nat){z w0:Bool}{H:Heap}{g:FuncId}{args:List Value}{v:Value}{hs:List (Nat×Hint)}{p:Prop}(h:z=w0->C P G0 K g args H fun v' H'=>v'=v/\H'=H)(r:HP hs p):HP ((i,.o v)::hs) ((z=w0->C P G0 K g args H fun v' H'=>v'=v/\H'=H)/\p):=⟨h,r⟩
theorem mV(i:Nat){z w0:Bool}{d_:Heap->Prop}{t:TypeId}{a v:Value}{hs:List (Nat×Hint)}{p:Prop}(h:z=w0->∀H,d_ H->LDv P H t a v)(r:HP hs p):HP ((i,.o v)::hs) ((z=w0->∀H,d_ H->LDv P H t a v)/\p):=⟨h,r⟩
theorem Hk1_(i:Nat){z w0:Bool}{d_:Heap->Prop}{g:FuncId}{args:List Value}{v:Value}{hs:List (Nat×Hint)}{p:Prop}(h:z=w0->∀H,d_ H->C P G0 K g args H fun v' H'=>v'=v/\d_ H')(r:HP hs p):HP ((i,.o v)::hs) ((z=w0->∀H,d_ H->C P G0 K g args H fun v' H'=>v'=v/\d_ H')/\p):=⟨h,r⟩
theorem Hl2_(i:Nat){z w0 A E:Bool}{H:Heap}{t:TypeId}{a v:Value}{hs:List (Nat×Hint)}{p:Prop}(h:z=w0->A=E->LDv P H t a v)(r:HP hs p):HP ((i,.o v)::hs) ((z=w0->A=E->LDv P H t a v)/\p):=⟨h,r⟩
theorem Hc2_(i:Nat){z w0 A E:Bool}{H:Heap}{g:FuncId}{args:List Value}{v:Value}{hs:List (Nat×Hint)}{p:Prop}(h:z=w0->A=E->C P G0 K g args H fun v' H'=>v'=v/\H'=H)(r:HP hs p):HP ((i,.o v)::hs) ((z=w0->A=E->C P G0 K g args H fun v' H'=>v'=v/\H'=H)/\p):=⟨h,r⟩
theorem Hl3_(i:Nat){z w0 A N E T:Bool}{H:Heap}{t:TypeId}{a v:Value}{hs:List (Nat×Hint)}{p:Prop}(h:z=w0->A=N->E=T->LDv P H t a v)(r:HP hs p):HP ((i,.o v)::hs) ((z=w0->A=N->E=T->LDv P H t a v)/\p):=⟨h,r⟩
theorem Hc3_(i:Nat){z w0 A N E T:Bool}{H:Heap}{g:FuncId}{args:List Value}{v:Value}{hs:List (Nat×Hint)}{p:Prop}(h:z=w0->A=N->E=T->C P G0 K g args H fun v' H'=>v'=v/\H'=H)(r:HP hs p):HP ((i,.o v)::hs) ((z=w0->A=N->E=T->C P G0 K g args H fun v' H'=>v'=v/\H'=H)/\p):=⟨h,r⟩
end
end Go.R
end
noncomputable section
set_option linter.unusedVariables false
namespace Go.R
open Go
structure TabS(f:List UInt8->Option Value)(es:List (Value×Value)):Prop where
 key: ∀e,e∈es->∃k,e.1= .string ⟨⟨k⟩⟩
 at_: ∀k,eI .string (.string ⟨⟨k⟩⟩) es=f k
def updS(f:List UInt8->Option Value)(k:List UInt8)(v:Value):List UInt8->Option Value:=fun x=>if x=k then some v else f x
section
variable {P:Program} {ρ:Operand->Value} {d:Option Tmp} {ty:TypeId} {pos:String} {af:Array Edge} {gd:Option (Nat×Bool)} {B:Base} {F:Fz} {H:Heap} {L R:List Fp} {f:List UInt8->Option Value} {es:List (Value×Value)}
end
def tabS(l:List (List UInt8)):List (Value×Value):=l.foldl (fun es k=>eP (.string ⟨⟨k⟩⟩) (.bool true) es) []
def tabB(b:Nat)(l:List (List UInt8)):Fp:=[(b,.tab (tabS l))]
def inS(l:List (List UInt8))(k:List UInt8):Option Value:=if k∈l then some (.bool true) else none
section
variable {P:Program} {ρ:Operand->Value} {d:Option Tmp} {ty:TypeId} {pos:String} {af:Array Edge} {gd:Option (Nat×Bool)} {B:Base} {F:Fz} {H:Heap} {L R:List Fp}
end
def FzT(F:Fz)(b:Nat)(l:List (List UInt8)):Prop:=F b=some (.tab (tabS l))
section
variable {P:Program} {B:Base} {F F':Fz} {H:Heap} {L R:List Fp} {b:Nat} {l:List (List UInt8)}
end
def tabK(l:List (List UInt8×Int)):List (Value×Value):=l.foldl (fun es k=>eP (.string ⟨⟨k.1⟩⟩) (.int .i64 k.2) es) []
def tabJ(b:Nat)(l:List (List UInt8×Int)):Fp:=[(b,.tab (tabK l))]
def lasK(l:List (List UInt8×Int))(k:List UInt8):Option Int:=l.foldl (fun r e=>if k=e.1 then some e.2 else r) none
def inK(l:List (List UInt8×Int))(k:List UInt8):Option Value:=(lasK l k).map (.int .i64)
section
variable {P:Program} {ρ:Operand->Value} {d:Option Tmp} {ty:TypeId} {pos:String} {af:Array Edge} {gd:Option (Nat×Bool)} {B:Base} {F F':Fz} {H:Heap} {L R:List Fp} {b:Nat} {l:List (List UInt8×Int)} {k:List UInt8}
def FzK(F:Fz)(b:Nat)(l:List (List UInt8×Int)):Prop:=F b=some (.tab (tabK l))
end
end Go.R
end
noncomputable section
set_option linter.unusedVariables false
namespace Go.R
open Go
section
variable {P:Program} {ρ:Operand->Value} {d:Option Tmp} {ty:TypeId} {pos:String} {af:Array Edge} {gd:Option (Nat×Bool)} {B:Base} {F:Fz} {H:Heap} {L R:List Fp} {v:Value} {l:List UInt8} {p:Fp}
end
structure GdT where
 b:List UInt8
 a:Option Addr
 k:Nat
 p:Fp
 ok:OS (fun _=>none) (.slice a b.length k) b p
def psG(g:Nat)(w:GdT):Fp:=(g,.cells [.slice w.a w.b.length w.k] none false)::w.p
section
variable {B:Base} {F:Fz} {H:Heap} {L R:List Fp}
end
end Go.R
end
noncomputable section
namespace Go.R
section
variable {B:Base} {F F':Fz} {H:Heap} {L R:List Fp}
theorem HS.flat(h:HS B F H L R){N:List Fp}(hp:N.flatten.Perm L.flatten):HS B F H N R:=by
 have Z: ∀p,p∈N->∀x,x∈p->∃A,A∈L/\x∈A:=fun p ag x hx=>a0T.1 (hp.mem_iff.1 (a0T.2 ⟨p,ag,hx⟩))
 refine⟨h.fz,fun p z b o E=>?_,?_,h.n0,h.log,fun p z b o E=>?_⟩
 ·rcases z with z|z
  ·obtain⟨A,T,U⟩:=Z p z _ E;exact h.own A (.inl T) b o U
  exact h.own p (.inr z) b o E
 ·have:=h.nd;rw[a0R]at this⊢;exact(((hp.append_right R.flatten).map _).nodup_iff).2 this
 obtain⟨A,T,U⟩:=Z p z _ E;exact h.mine A T b o U
theorem kp{α:Type}{L:List (List α)}{i:Nat}{p:List α}(q:List α)(hi:L[i]?=some p):((L.set i q).flatten++p).Perm (L.flatten++q):=by obtain⟨A,C,z,E⟩:=io L i p q hi;rw[E,z];simp only[a0R,a0P,a0p];refine a10 _ ?_;refine List.Perm.trans (a10 q a1s) ?_;refine List.Perm.trans (a15 q p _) ?_;exact a10 p a1s
theorem HS.open(h:HS B F H L R){i:Nat}{p q r:Fp}(hi:L[i]?=some p)(N:p.Perm (q++r)):HS B F H (L.set i q++[r]) R:=by
 refine h.flat ?_;have z:=kp q hi;have A:((L.set i q).flatten++r++q).Perm (L.flatten++q):=by refine List.Perm.trans ?_ z;rw[a0p];exact a10 _ (a1s.trans N.symm)
 have E:=(List.perm_append_right_iff q).1 A;simpa[a0R] using E
theorem HS.close(h:HS B F H L R){i j:Nat}{p q r:Fp}(E:i≠j)(hi:L[i]?=some q)(Z:L[j]?=some r)(hp:p.Perm (q++r)):HS B F H ((L.set i p).set j []) R:=by
 refine h.flat ?_;have N:=kp p hi;have A:(L.set i p)[j]?=some r:=by rw[a2d E];exact Z
 have z:=kp [] A;rw[a0r]at z;have T:(((L.set i p).set j []).flatten++(r++q)).Perm (L.flatten++p):=by rw[←a0p];exact(z.append_right q).trans N
 have U:(((L.set i p).set j []).flatten++p).Perm (L.flatten++p):=(a10 _ (hp.trans a1s)).trans T;exact(List.perm_append_right_iff p).1 U
end
structure Hd where
 a:Option Addr
 n:Nat
 k:Nat
instance :Inhabited Hd:=⟨⟨none,0,0⟩⟩
def Hd.v(h:Hd):Value:= .slice h.a h.n h.k
instance :Rp Hd where
 sz:=1
 rep _ cs h:=cs=[.slice h.a h.n h.k]
 len:=by rintro F cs x rfl;rfl
 one:=by rintro F cs x rfl;rfl
 mono:=by intro F F' cs x _ h;exact h
theorem vH{F:Fz}{get:Nat->Option AObj}{v:Value}{l:List Hd}{cf:Nat->List Value}{j:Nat}(h:VW F get v l cf j)(E:j<l.length:=by first|(dsimp only;omega)|omega):
  HC get (sB v) (sO v+j *Rp.sz Hd) [.slice (l.getD j default).a (l.getD j default).n (l.getD j default).k]:=by
 obtain⟨A,z⟩:=h.1 default E
 rw[show cf j=_ from A]at z;exact z
def FAM{ι β:Type}(Ch:Fz->ι->β->Fp->Prop)(F:Fz):List ι->List β->Fp->Prop
 | [],[],p=>p=[]
 |h::hs,x::xs,p=> ∃q r,p=q++r/\Ch F h x q/\FAM Ch F hs xs r
 |_,_,_=>False
section
variable {ι β:Type} {Ch:Fz->ι->β->Fp->Prop} {F F':Fz}
theorem FAM.len: ∀{hs:List ι} {xs:List β} {p:Fp},FAM Ch F hs xs p->hs.length=xs.length
 | [],[],_,_=>rfl
 |_::_,_::_,_,⟨_,_,_,_,h⟩=>by rw[a0a,a0a,h.len]
 | [],_::_,_,h=>h.elim
 |_::_,[],_,h=>h.elim
theorem FAM.mono(z: ∀{h x q},Ch F h x q->Ch F' h x q): ∀{hs:List ι} {xs:List β} {p:Fp},FAM Ch F hs xs p->FAM Ch F' hs xs p
 | [],[],_,h=>h
 |_::_,_::_,_,⟨q,r,e,h1,h⟩=>⟨q,r,e,z h1,h.mono z⟩
 | [],_::_,_,h=>h.elim
 |_::_,[],_,h=>h.elim
theorem FAM.rep{z:ι}{A:β}(k:Ch F z A []): ∀n,FAM Ch F (List.replicate n z) (List.replicate n A) []
 |0=>rfl
 |n+1=>⟨[],[],V,k,FAM.rep k n⟩
theorem FAM.open [Inhabited ι] [Inhabited β](U: ∀{G Z:Fz},G.le Z->∀{h x q},Ch G h x q->Ch Z h x q): ∀{hs:List ι} {xs:List β} {p:Fp} (i:Nat),FAM Ch F hs xs p->i<xs.length->
  ∃q r,p.Perm (q++r)/\Ch F (hs.getD i default) (xs.getD i default) r/\∀F',F.le F'->∀A N z,Ch F' A N z->∃E,E.Perm (q++z)/\FAM Ch F' (hs.set i A) (xs.set i N) E
 | [],[],_,i,_,hi=>by simp at hi
 |h::hs,x::xs,p,0,⟨q,r,e,h1,h2⟩,_=>by refine⟨r,q,by rw[e];exact a1s,h1,fun F' T A N z hc=>⟨z++r,a1s,z,r,V,hc,h2.mono (U T)⟩⟩
 |h::hs,x::xs,p,i+1,⟨q,r,e,h1,h2⟩,hi=>by
  obtain⟨q1,r1,g1,g2,g3⟩:=FAM.open U i h2 (by simpa using hi);refine⟨q++q1,r1,?_,by simpa using g2,fun F' T A N z hc=>?_⟩
  ·rw[e,a0p];exact a10 q g1
  obtain⟨E,g4,g5⟩:=g3 F' T A N z hc;exact⟨q++E,by rw[a0p];exact a10 q g4,q,E,V,U T h1,by simpa using g5⟩
 | [],_::_,_,_,h,_=>h.elim
 |_::_,[],_,_,h,_=>h.elim
theorem FAM.at [Inhabited ι] [Inhabited β]: ∀{hs:List ι} {xs:List β} {p:Fp} (i:Nat),FAM Ch F hs xs p->i<xs.length->∃q,(∀x,x∈q->x∈p)/\Ch F (hs.getD i default) (xs.getD i default) q
 | [],[],_,i,_,hi=>by simp at hi
 |_::_,_::_,_,0,⟨q,r,e,h1,h2⟩,_=>⟨q,fun x z=>by rw[e];exact a08.2 (.inl z),h1⟩
 |_::hs,_::xs,_,i+1,⟨q,r,e,h1,h2⟩,hi=>by obtain⟨N,A,E⟩:=FAM.at i h2 (by simpa using hi);exact⟨N,fun x z=>by rw[e];exact a08.2 (.inr (A x z)),by simpa using E⟩
 | [],_::_,_,_,h,_=>h.elim
 |_::_,[],_,_,h,_=>h.elim
end
theorem eO{β:Type}{d:β}: ∀(l:List β) (i:Nat),l.set i (l.getD i d)=l
 | [],_=>rfl
 |_::_,0=>rfl
 |x::l,i+1=>by have:=eO (d:=d) l i;simp only[a2i,a1Y];rw[this]
section
variable {α:Type} [Rp α] {F F':Fz}
theorem OS.froz{v:Value}{l:List α}{p:Fp}(h:OS F v l p)(N:F.le F')(T: ∀b o,(b,o)∈p->F' b=some o):SR F' v l:=by
 rcases h with⟨z,A,_⟩|⟨b,off,k,cs,U,z,A,E⟩
 ·exact .inl ⟨z,A⟩
 exact .inr ⟨b,off,k,_,z,T b _ (by rw[A];simp),E.mono N⟩
theorem SR.n{h:Hd}{l:List α}(k:SR F h.v l):h.n=l.length:=by obtain⟨a,z,e⟩:=Sv.shape k;unfold Hd.v at e;injection e
theorem RL.conv{β:Type} [Rp β]: ∀{l:List α} {m:List β} {cs:List Value},l.length=m.length->(∀(i:Nat) x y,l[i]?=some x->m[i]?=some y->∀c,Rp.rep F c x->Rp.rep F' c y)->RL F cs l->RL F' cs m
 | [],[],_,_,_,h=>h
 |x::l,y::m,cs,hl,hc,⟨c,r,e,h1,h2⟩=>⟨c,r,e,hc 0 x y V V c h1,RL.conv (by simpa using hl) (fun i a b z A=>hc (i+1) a b (by simpa using z) (by simpa using A)) h2⟩
theorem SR.conv{β:Type} [Rp β]{v:Value}{l:List α}{m:List β}(A:Rp.sz α=Rp.sz β)(h:SR F v l)(z:l.length=m.length)(hF:F.le F')(hc: ∀(i:Nat) x y,l[i]?=some x->m[i]?=some y->∀c,Rp.rep F c x->Rp.rep F' c y):SR F' v m:=by
 rcases h with⟨rfl,rfl⟩|⟨b,off,k,o,N,T,cs,E,ro,e,U,Z,h5,h6⟩
 ·cases m with
  |nil=>exact .inl ⟨V,V⟩
  |cons _ _=>simp at z
 refine .inr ⟨b,off,k,o,by rw[←z];exact N,hF _ _ T,cs,E,ro,e,by rw[←A];exact U,by rw[←z];exact Z,?_,by rw[←A];exact h6⟩;rw[←z,←A];exact RL.conv z hc h5
theorem SR.nin{B:Base}{H:Heap}{L R:List Fp}{v:Value}{l:List α}{i j:Nat}{p:Fp}(h:SR F v l)(s:HS B F H L R)(hi:L[i]?=some p)(T:j<l.length):sB v∉p.map Prod.fst:=by
 rcases h with⟨_,rfl⟩|⟨b,off,k,o,rfl,E,_⟩
 ·simp at T
 intro U;obtain⟨⟨z,o'⟩,N,e⟩:=a0u.1 U;have A:z=b:=e;subst A;have:=(s.own p (.inl (a0n hi)) z o' N).2.2;rw[E]at this;cases this
class Ri(α:Type) [Rp α]:Prop where
 ind: ∀{F F':Fz} {cs:List Value} {x:α},Rp.rep F cs x->Rp.rep F' cs x
instance :Ri Int:=⟨fun h=>h⟩
instance :Ri Bool:=⟨fun h=>h⟩
instance :Ri Str:=⟨fun h=>h⟩
instance :Ri U64:=⟨fun h=>h⟩
instance :Ri UInt8:=⟨fun h=>h⟩
instance :Ri Hd:=⟨fun h=>h⟩
theorem OS.ind [Ri α]{v:Value}{l:List α}{p:Fp}(h:OS F v l p):OS F' v l p:=by
 rcases h with h|⟨b,off,k,cs,opn,h1,h2,cs',opn',ro',e,h3,h4,h5,h6⟩
 ·exact .inl h
 exact .inr ⟨b,off,k,cs,opn,h1,h2,cs',opn',ro',e,h3,h4,RL.conv V (fun i x y A z c hc=>by rw[A]at z;cases z;exact Ri.ind hc) h5,h6⟩
end
class HasHd(ι:Type) where
 hd:ι->Hd
instance :HasHd Hd:=⟨fun h=>h⟩
def OH{ι α:Type} [HasHd ι] [Rp α](F:Fz)(h:ι)(l:List α)(p:Fp):Prop:=OS F (HasHd.hd h).v l p
abbrev SF{ι α:Type} [HasHd ι] [Rp α](F:Fz)(hs:List ι)(ls:List (List α))(p:Fp):Prop:=FAM (OH (ι:=ι) (α:=α)) F hs ls p
section
variable {ι α:Type} [HasHd ι] [Rp α] {F F':Fz} {B:Base} {H:Heap} {L R:List Fp} {hs:List ι} {ls:List (List α)} {p:Fp}
theorem SF.mono(z:F.le F')(h:SF F hs ls p):SF F' hs ls p:=FAM.mono (Ch:=OH (ι:=ι) (α:=α)) (fun k=>OS.mono (α:=α) z k) h
theorem SF.rep(n:Nat):SF F (List.replicate n (default:Hd)) (List.replicate n ([]:List α)) []:=FAM.rep (Ch:=OH (ι:=Hd) (α:=α)) (show OS F (Hd.v default) ([]:List α) [] from OS.nil) n
def SB(F:Fz)(hs:List ι)(ls:List (List α))(i:Nat)(N:Fp):Prop:= ∀F',F.le F'->∀z l' E,OH F' z l' E->∃A,A.Perm (N++E)/\SF F' (hs.set i z) (ls.set i l') A
theorem OS.nlen{a:Option Addr}{n k:Nat}{l:List α}{p:Fp}(h:OS F (.slice a n k) l p):n=l.length:=by obtain⟨z,A,e⟩:=h.shape;injection e
theorem SF.shutN{T E:Fp}{i:Nat}{l':List α}(A:ι)(w:SB F hs ls i T)(hF:F.le F')(s:HS B F' H L R){q m:Nat}(N:q≠m)(hq:L[q]?=some T)(hm:L[m]?=some E)
  (h:OS F' (HasHd.hd A).v l' E): ∃z,HS B F' H ((L.set q z).set m []) R/\SF F' (hs.set i A) (ls.set i l') z:=by
 obtain⟨z,U,Z⟩:=w F' hF A l' E h
 exact⟨z,s.close N hq hm U,Z⟩
end
section
variable {ι α:Type} [HasHd ι] [Inhabited ι] [Rp α] {F F':Fz} {B:Base} {H:Heap} {L R:List Fp} {hs:List ι} {ls:List (List α)} {p:Fp}
theorem SF.open(h:SF F hs ls p)(s:HS B F H L R){q i:Nat}(Z:L[q]?=some p)(hi:i<ls.length):
  ∃z A,HS B F H (L.set q z++[A]) R/\OS F (.slice (HasHd.hd (hs.getD i default)).a (HasHd.hd (hs.getD i default)).n (HasHd.hd (hs.getD i default)).k) (ls.getD i []) A/\SB F hs ls i z:=by
 obtain⟨z,A,E,N,T⟩:=FAM.open (Ch:=OH (ι:=ι) (α:=α)) (fun U _ _ _ k=>OS.mono (α:=α) U k) i h hi
 exact⟨z,A,s.open Z E,N,T⟩
theorem SF.shut{E N:Fp}{i:Nat}{l':List α}(w:SB F hs ls i E)(T:F.le F')(s:HS B F' H L R){q m:Nat}(z:q≠m)(Z:L[q]?=some E)(U:L[m]?=some N)
  (h:OS F' (.slice (HasHd.hd (hs.getD i default)).a (HasHd.hd (hs.getD i default)).n (HasHd.hd (hs.getD i default)).k) l' N): ∃A,HS B F' H ((L.set q A).set m []) R/\SF F' hs (ls.set i l') A:=by
 have:=SF.shutN (hs.getD i default) w T s z Z U h
 rw[eO]at this;exact this
theorem SF.shut0{E N:Fp}{i:Nat}(w:SB F hs ls i E)(T:F.le F')(s:HS B F' H L R){q m:Nat}(z:q≠m)(Z:L[q]?=some E)(U:L[m]?=some N)
  (h:OS F' (.slice (HasHd.hd (hs.getD i default)).a (HasHd.hd (hs.getD i default)).n (HasHd.hd (hs.getD i default)).k) (ls.getD i []) N): ∃A,HS B F' H ((L.set q A).set m []) R/\SF F' hs ls A:=by
 have:=SF.shut w T s z Z U h
 rw[eO]at this;exact this
theorem SF.freeze(h:SF F hs ls p)(s:HS B F H L R){q:Nat}(Z:L[q]?=some p): ∃F',F.le F'/\HS B F' H (L.set q []) R/\(∀i,i<ls.length->SR F' (HasHd.hd (hs.getD i default)).v (ls.getD i [])):=by obtain⟨F',z,N,T⟩:=s.freeze Z;refine⟨F',z,N,fun i hi=>?_⟩;obtain⟨r,A,E⟩:=FAM.at (Ch:=OH (ι:=ι) (α:=α)) i h hi;exact OS.froz (α:=α) E z fun b o U=>T b o (A _ U)
end
section
variable {α:Type} [Rp α] {F F':Fz} {B:Base} {H:Heap} {L R:List Fp}
theorem SR.rows{v:Value}{hs:List Hd}{ls:List (List α)}(h:SR F v hs)(U:hs.length=ls.length)(k: ∀i,i<ls.length->SR F (HasHd.hd (hs.getD i default)).v (ls.getD i [])):SR F v ls:=by
 refine SR.conv (α:=Hd) (β:=List α) V h U F.le_refl fun i x y Z E c hc=>?_
 have hi:=(a0q.1 E).1;have k1:=k i hi;have N:hs.getD i default=x:=by rw[a03,Z];rfl
 have T:ls.getD i []=y:=by rw[a03,E];rfl
 rw[N,T]at k1;have A:=SR.n (h:=x) k1;have z:c=[.slice x.a x.n x.k]:=hc;refine⟨x.a,x.k,by rw[←A];exact z,?_⟩;rw[←A];exact k1
theorem HS.thawX{F1 F2:Fz}{H':Heap}{b_:List Fp}{i:Nat}{p:Fp}(h:HS B F H L R)(hi:L[i]?=some p)(hF:F.le F1)(hp: ∀b o,(b,o)∈p->F1 b=some o)(U:F1.le F2)(k:HS B F2 H' (L.set i []++b_) R):HS B F H' (L++b_) R:=by
 obtain⟨A,C,e1,e2⟩:=eH L i p hi;have b0:p∈L:=a0n hi;have ao: ∀b,F2 b=none->F b=none:=fun b N=>by
  cases hq:F b with
  |none=>rfl
  |some z=>rw[U _ _ (hF _ _ hq)]at N;cases N
 refine⟨fun b o N=>k.fz b o (U _ _ (hF _ _ N)),fun x E b o N=>?_,?_,k.n0,k.log,fun x E b o N=>?_⟩
 ·by_cases Z:x=p
  ·subst Z;obtain⟨g1,g2⟩:=k.fz b o (U _ _ (hp b o N));exact⟨g1,g2,(h.own x (.inl b0) b o N).2.2⟩
  have hk:x∈L.set i []++b_\/x∈R:=by
   rcases E with E|E
   ·rcases a08.1 E with E|E
    ·refine .inl (a08.2 (.inl ?_));rw[e2];rw[e1]at E;rcases a08.1 E with E|E
     ·exact a08.2 (.inl E)
     rcases a0s.1 E with E|E
     ·exact absurd E Z
     exact a08.2 (.inr (a0i _ E))
    exact .inl (a08.2 (.inr E))
   exact .inr E
  obtain⟨g1,g2,g3⟩:=k.own x hk b o N;exact⟨g1,g2,ao b g3⟩
 ·have kn:=k.nd;have hn:=h.nd;rw[e2]at kn;rw[e1]at hn⊢;have ar: ∀a,a∈p.map Prod.fst->∀c,c∈b_.flatten.map Prod.fst->a≠c:=by rintro a T c hc rfl;obtain⟨⟨b,o⟩,N,rfl⟩:=a0u.1 T;obtain⟨⟨b',o'⟩,bk,e⟩:=a0u.1 hc;obtain⟨x,E,bl⟩:=a0T.1 bk;have e':b'=b:=e;subst e';have:=(k.own x (.inl (a08.2 (.inr E))) b' o' bl).2.2;rw[U _ _ (hp b' o N)]at this;cases this
  simp only[a0p,a0U,a0R,a0P,a14,a1o,a08,a0m]at kn hn⊢;obtain⟨a1,⟨a2,⟨a3,a4,a5⟩,a6⟩,a7⟩:=kn;obtain⟨b1,⟨b2,⟨b3,b4,b5⟩,b6⟩,b7⟩:=hn;refine⟨a1,⟨b2,⟨a2,⟨a3,a4,a5⟩,a6⟩,fun a T c hc=>?_⟩,fun a T c hc=>?_⟩
  ·rcases hc with hc|hc|hc
   ·exact b6 a T c (.inl hc)
   ·exact ar a T c hc
   exact b6 a T c (.inr hc)
  rcases hc with hc|hc|hc|hc
  ·exact b7 a T c (.inl hc)
  ·exact a7 a T c (.inl hc)
  ·exact a7 a T c (.inr (.inl hc))
  exact b7 a T c (.inr (.inr hc))
 rcases a08.1 E with E|E
 ·exact h.mine x E b o N
 exact k.mine x (a08.2 (.inr E)) b o N
theorem HS.thawL{F2:Fz}{H':Heap}{U:List Fp}{i i':Nat}{p:Fp}(h:HS B F H L R)(hi:L[i]?=some p)(hF:F.le F2)(hp: ∀b o,(b,o)∈p->F2 b=some o)(a7:U[i']?=some [])(k:HS B F2 H' U R):HS B F H' (U.set i' p) R:=by
 obtain⟨A,C,Z,e2⟩:=io U i' [] p a7;have ad:p∈L:=a0n hi;have aw: ∀b,F2 b=none->F b=none:=fun b N=>by
  cases hq:F b with
  |none=>rfl
  |some z=>rw[hF _ _ hq]at N;cases N
 have ai: ∀x,x∈U.set i' p\/x∈R->x=p\/(x∈U\/x∈R):=by
  intro x E;rcases E with E|E
  ·rw[e2]at E;rcases a08.1 E with E|E
   ·exact .inr (.inl (by rw[Z];exact a08.2 (.inl E)))
   rcases a0s.1 E with E|E
   ·exact .inl E
   exact .inr (.inl (by rw[Z];exact a08.2 (.inr (a0i _ E))))
  exact .inr (.inr E)
 refine⟨fun b o N=>k.fz b o (hF _ _ N),fun x E b o N=>?_,?_,k.n0,k.log,fun x E b o N=>?_⟩
 ·rcases ai x E with rfl|E
  ·obtain⟨g1,g2⟩:=k.fz b o (hp b o N);exact⟨g1,g2,(h.own x (.inl ad) b o N).2.2⟩
  obtain⟨g1,g2,g3⟩:=k.own x E b o N;exact⟨g1,g2,aw b g3⟩
 ·have kn:=k.nd;have hn:=h.nodup_of ad;have ax: ∀x,x∈U\/x∈R->∀a,a∈p.map Prod.fst->a∉x.map Prod.fst:=by intro x E a T hc;obtain⟨⟨b,o⟩,N,rfl⟩:=a0u.1 T;obtain⟨⟨b',o'⟩,a6,e⟩:=a0u.1 hc;have e':b'=b:=e;subst e';have:=(k.own x E b' o' a6).2.2;rw[hp b' o N]at this;cases this
  have ag: ∀(c_:List Fp),(∀x∈c_,x∈U\/x∈R)->∀a,a∈p.map Prod.fst->∀c,c∈c_.flatten.map Prod.fst->a≠c:=by rintro c_ hX a T c hc rfl;obtain⟨y,hy,e⟩:=a0u.1 hc;obtain⟨x,E,a9⟩:=a0T.1 hy;exact ax x (hX x E) a T (a0u.2 ⟨y,a9,e⟩)
  have hA:=ag A (fun x E=> .inl (by rw[Z];exact a08.2 (.inl E)));have hC:=ag C (fun x E=> .inl (by rw[Z];exact a08.2 (.inr (a0i _ E))));have hR:=ag R (fun x E=> .inr E);rw[Z]at kn;rw[e2];simp only[a0p,a0U,a0R,a0P,a14,a1o,a08,a0m]at kn⊢;obtain⟨a1,⟨a2,a3,a4⟩,a5⟩:=kn;refine⟨a1,⟨hn,⟨a2,a3,a4⟩,fun a T c hc=>?_⟩,fun a T c hc=>?_⟩
  ·rcases hc with hc|hc
   ·exact hC a T c hc
   exact hR a T c hc
  rcases hc with hc|hc
  ·exact fun e=>hA c hc a T e.symm
  exact a5 a T c hc
 rcases ai x (.inl E) with rfl|hx'
 ·exact h.mine x ad b o N
 rw[e2]at E;rcases a08.1 E with E|E
 ·exact k.mine x (by rw[Z];exact a08.2 (.inl E)) b o N
 rcases a0s.1 E with rfl|E
 ·exact h.mine x ad b o N
 exact k.mine x (by rw[Z];exact a08.2 (.inr (a0i _ E))) b o N
end
end Go.R
end
noncomputable section
namespace Go.R
section
variable {α:Type} [Rp α] {P:Program} {ρ:Operand->Value} {d:Option Tmp} {ty:TypeId} {pos:String} {af:Array Edge} {gd:Option (Nat×Bool)} {B:Base} {F:Fz} {H:Heap} {L R:List Fp} {v:Value} {l:List α} {p:Fp}
def At(α:Type) [Rp α](v:Value)(n i:Nat)(a:Option Addr):Prop:=n<=i\/a=some ⟨sB v,sO v+i *Rp.sz α,none⟩
theorem rs_cutX{x:Operand}{lo:Option Operand}{t e:TypeId}{i q:Nat}(h:OS F v l p)(hs:HS B F H L R)(hq:L[q]?=some p)(hx:ρ x=v)(U:P.underlying t=some (.slice e))(Z:cY P e=some (Rp.sz α))
  (h2:bU 0 (lo.map ρ)=some i) (T:i<=l.length):
  ∃r:Rs,AP P ρ ⟨d,.slice t x lo none none,ty,pos,af,gd⟩ H (.val r.v,r.H)/\(∃a k,r.v= .slice a (l.drop i).length k/\r.H=H/\OS F (.slice a (l.drop i).length k) (l.drop i) p/\At α v l.length i a):=by
 have N: ∀w,bA P t v (lo.map ρ) none none H=some w->AP P ρ ⟨d,.slice t x lo none none,ty,pos,af,gd⟩ H (.val w,H):=by intro w hw;refine⟨?_⟩;show ovl (bA P t (ρ x) (lo.map ρ) (Option.map ρ none) (Option.map ρ none) H) H=_;rw[hx,a1Z,hw];rfl
 have h1:bU l.length (none:Option Value)=some l.length:=rfl
 have et:(l.take l.length).drop i=l.drop i:=by rw[a1h]
 rcases h with⟨rfl,rfl,rfl⟩|⟨b,off,k,cs,a6,rfl,rfl,g2⟩
 ·have ao:i=0:=by simpa using T
  subst ao;refine⟨⟨.slice none 0 0,H,[]⟩,N _ ?_,none,0,V,V,OS.nil,.inl (a0b _)⟩;unfold bA;have A:=kE (n:=0) (k:=0) (hi:=(none:Option Value)) V h2 (a0b 0) (a0b 0);simp only[U,A,Z,Option.isSome_some,cond_true]
 have hb:=hs.get hq (a0f.2 V)
 have E:=Sl_cut (F:=F) g2 T (a0b _)
 rw[et]at E
 obtain⟨a5,a4,a7,e1,g1,g3,g4,g5⟩:=id g2
 injection e1 with e1 e2 e3
 subst e1 e2 e3
 have A:=kE (n:=l.length) (k:=k) (hi:=(none:Option Value)) h1 h2 T g3
 have z:(l.drop i).length=l.length-i:=a0D
 rcases g5 with rfl|rfl
 ·cases hk:Nat.beq k i with
  |true=>
   have ar:=a09 hk
   have e0:l.drop i=[]:=a0v (by rw[z];omega)
   refine⟨⟨.slice (some ⟨b,off,none⟩) (l.length-i) (k-i),H,[]⟩,N _ ?_,some ⟨b,off,none⟩,k-i,by rw[z],V,?_,.inl M⟩
   ·unfold bA;simp only[U,A,Z,hb,hk,cond_true]
   rw[e0,ar,a1L]
   exact .inr ⟨b,off,0,cs,none,V,V,Sl_at0 (k:=k) (l:=l) g2⟩
  |false=>
   refine⟨⟨.slice (some ⟨b,off+i *Rp.sz α,none⟩) (l.length-i) (k-i),H,[]⟩,N _ ?_,_,k-i,by rw[z],V,.inr ⟨b,_,k-i,cs,none,V,V,E⟩,.inr V⟩
   unfold bA
   simp only[U,A,Z,hb,hk,cond_false]
 refine⟨⟨.slice (some ⟨b,off+i *Rp.sz α,none⟩) (l.length-i) (k-i),H,[]⟩,N _ ?_,_,k-i,by rw[z],V,.inr ⟨b,_,k-i,cs,some (Rp.sz α),V,V,E⟩,.inr V⟩
 unfold bA
 simp only[U,A,Z,hb,a12,cond_true]
def cpL(l:List α)(i:Nat)(z:List α):List α:=l.take i++(z.take (l.length-i)++l.drop (i+min z.length (l.length-i)))
theorem rs_cp{d0 s0:Operand}{t e:TypeId}{i q k1:Nat}{a1:Option Addr}{z:List α}{u:Value}(h:OS F v l p)(hs:HS B F H L R)(hq:L[q]?=some p)(hd:ρ d0= .slice a1 (l.drop i).length k1)(ha:At α v l.length i a1)(hi:i<=l.length)
  (h2:OS F u z p) (hx:ρ s0=u) (ht:P.underlying t=some (.slice e)) (hz:cY P e=some (Rp.sz α)):
  ∃r:Rs,AP P ρ ⟨d,.call ⟨.builtin .copy, #[d0,s0], #[t,t]⟩,ty,pos,af,gd⟩ H (.val r.v,r.H)/\(r.v= .int .i64 ((min z.length (l.length-i):Nat):Int)/\OS F v (cpL l i z) r.p/\HS B F r.H (L.set q r.p) R/\Wr H r.H (p.map Prod.fst)):=by
 have bb:(l.drop i).length=l.length-i:=a0D
 have hm:lenA u=some z.length:=(h2.sv hs hq).first.1
 have a4: ∀w H1,mS P #[t,t] (.slice a1 (l.length-i) k1) u H=some (w,H1)->AP P ρ ⟨d,.call ⟨.builtin .copy, #[d0,s0], #[t,t]⟩,ty,pos,af,gd⟩ H (.val w,H1):=by intro w H1 hw;refine⟨?_⟩;show ovh (mS P #[t,t] (ρ d0) (ρ s0) H)=_;rw[hd,hx,bb,hw];rfl
 have bl:L.set q p=L:=by obtain⟨A,C,e1,Z⟩:=eH L q p hq;rw[Z p,←e1]
 cases hn:Nat.beq (min z.length (l.length-i)) 0 with
 |true=>
  have N:=a09 hn
  refine⟨⟨.int .i64 ((min z.length (l.length-i):Nat):Int),H,p⟩,a4 _ _ ?_,V,?_,by rw[bl];exact hs,fun b hb=> .inl hb⟩
  ·unfold mS;simp only[a28,a0W,ht,hm,hz];rw[show Nat.min z.length (l.length-i)=min z.length (l.length-i) from V,hn,N];rfl
  have e:cpL l i z=l:=by unfold cpL;rw[N,a26];have:z.take (l.length-i)=[]:=a0v (by rw[a0k,Nat.min_comm];exact N);rw[this,a0m,a16]
  rw[e];exact h
 |false=>
  have N:min z.length (l.length-i)≠0:=fun e=>by rw[e]at hn;cases hn
  rcases ha with ha|ha
  ·omega
  subst ha
  rcases h with⟨rfl,rfl,rfl⟩|⟨b,off,k,cs,T,rfl,rfl,ds,dl,d3,e1,g1,g3,g4,g5⟩
  ·simp at N
  injection e1 with e1 Z e3
  subst e1 Z e3
  replace g1:=g1 V
  have hb:=hs.get hq (b:=b) (o:= .cells cs T false) (a0f.2 V)
  let n:=min z.length (l.length-i)
  obtain⟨E,bk,av⟩: ∃E,fk H (Rp.sz α) n u=some E/\RL F E (z.take n):=by
   rcases h2 with⟨rfl,rfl,h3⟩|⟨b2,aw,k2,dt,dn,rfl,Z,g6⟩
   ·cases h3
   simp only[List.cons.injEq,a01,AObj.cells.injEq,and_true]at Z;obtain⟨rfl,rfl,rfl⟩:=Z;have an:(z.take n).length=n:=by rw[a0k];omega
   have h3:Sv F H.get (.slice (some ⟨b,aw,none⟩) (z.take n).length k2) (z.take n):=by obtain⟨c1,c2,c3,c4,c5,c6,c7,c8⟩:=g6;refine .inr ⟨b,aw,k2,_,V,hb,c1,c2,c3,c4,c5,by rw[an];omega,?_,c8⟩;have h4:=c7.take n;rw[a2m,a2h (a0E _ M)]at h4;rw[an];exact h4
   obtain⟨_,E,h4,h5⟩:=h3.first;rw[an]at h4;exact⟨E,h4,h5⟩
  have U:=av.length
  have b4:(z.take n).length=n:=by rw[a0k];omega
  rw[b4]at U
  have a3:(i+n) *Rp.sz α<=l.length *Rp.sz α:=a0E _ M
  have d1:l.length *Rp.sz α<=k *Rp.sz α:=a0E _ g3
  have ai:off+i *Rp.sz α+E.length<=cs.length:=by rw[U];rw[a13]at a3;omega
  have b5:=hN (b:=b) (o:=off+i *Rp.sz α) hb ai av.one
  have al:(cpL l i z).length=l.length:=by unfold cpL;simp only[a04,a0k,a0D];omega
  have hw:=hs.wr (H1:=H.put b (.cells (bc cs (off+i *Rp.sz α) E) T false)) (q:=[(b,.cells (bc cs (off+i *Rp.sz α) E) T false)]) hq fun k=>⟨F,F.le_refl,by simpa using k.put (i:=0) V⟩
  obtain⟨F',dv,d2,b7⟩:=hw
  refine⟨⟨.int .i64 ((n:Nat):Int),_,[(b,.cells (bc cs (off+i *Rp.sz α) E) T false)]⟩,a4 _ _ ?_,V,.inr ⟨b,off,k,_,T,by rw[al],V,_,_,_,V,fun _=>by rw[ce _ _ _ ai];exact g1,by rw[al];exact g3,?_,g5⟩,hs.put hq,b7⟩
  ·unfold mS;simp only[a28,a0W,ht,hm,hz];rw[show Nat.min z.length (l.length-i)=min z.length (l.length-i) from V,hn];simp only[cond_false];rw[show fk H (Rp.sz α) (min z.length (l.length-i)) u=some E from bk];simp only;rw[show(⟨sB (Value.slice (some ⟨b,off,none⟩) l.length k),sO (Value.slice (some ⟨b,off,none⟩) l.length k)+i *Rp.sz α,none⟩:Addr)=⟨b,off+i *Rp.sz α,none⟩ from V,b5];rfl
  rw[al]
  have hX:((cs.drop off).take (l.length *Rp.sz α)).length=l.length *Rp.sz α:=g4.length
  have a2:i *Rp.sz α+E.length<=((cs.drop off).take (l.length *Rp.sz α)).length:=by rw[hX,U];rw[a13]at a3;omega
  have key:((bc cs (off+i *Rp.sz α) E).drop off).take (l.length *Rp.sz α)=bc ((cs.drop off).take (l.length *Rp.sz α)) (i *Rp.sz α) E:=by
   apply a1b;intro q;rw[bj _ _ _ _ a2,a0A,a0N,bj _ _ _ _ ai];by_cases c1:q<l.length *Rp.sz α
   ·rw[if_pos c1];by_cases c2:i *Rp.sz α<=q/\q<i *Rp.sz α+E.length
    ·rw[if_pos M,if_pos c2];congr 1;omega
    rw[if_neg M,if_neg c2,a0A,if_pos c1,a0N]
   rw[if_neg c1,if_neg M,a0A,if_neg c1]
  rw[key,jR _ _ _ a2]
  unfold cpL
  have e3:z.take (l.length-i)=z.take n:=by
   rcases Nat.le_total z.length (l.length-i) with hc|hc
   ·rw[a0h hc,a0h M]
   congr 1;omega
  rw[e3,a0p]
  refine(g4.take i).append (av.append ?_)
  have:=g4.drop (i+n)
  rw[U,←a13];exact this
end
end Go.R
end
noncomputable section
namespace Go.R
def tb(a:Int)(i:Nat):Bool:=a.toNat.testBit i
abbrev iF(a:Int):Prop:=0<=a/\a<18446744073709551616
theorem fG(op:BinOp)(a b:Int):iF (aX op .u64 a b):=by
 have h: ∀n:Int,iF (IntKind.u64.wrap n):=fun n=>by rw[u64_eq];constructor<;>omega
 unfold aX bits;cases op<;>first|exact h _|(constructor<;>decide)
theorem bv_nat{a:Int}(h:iF a):(bv a).toNat=a.toNat:=by
 have:=bv_toNat a;have z:a%18446744073709551616=a:=M
 rw[z]at this;omega
theorem wrap_nat(n:Nat)(h:n<18446744073709551616):(IntKind.u64.wrap (n:Int)).toNat=n:=by rw[u64_eq];omega
theorem tb_or{a b:Int}(z:iF a)(A:iF b)(i:Nat):tb (aX .or .u64 a b) i=(tb a i||tb b i):=by have e:aX .or .u64 a b=IntKind.u64.wrap ((bv a|||bv b).toNat:Int):=rfl;unfold tb;rw[e,wrap_nat _ (bv a|||bv b).isLt,BitVec.toNat_or,bv_nat z,bv_nat A,Nat.testBit_or]
theorem jP{a b:Int}(A:iF a)(E:iF b)(i:Nat):tb (aX .andNot .u64 a b) i=(tb a i&& !tb b i):=by
 have e:aX .andNot .u64 a b=IntKind.u64.wrap ((bv a&&& ~~~(bv b)).toNat:Int):=rfl;unfold tb;rw[e,wrap_nat _ (bv a&&& ~~~(bv b)).isLt,BitVec.toNat_and,Nat.testBit_and,bv_nat A];cases z:a.toNat.testBit i with
 |false=>rfl
 |true=>
  have hi:i<64:=by
   rcases a0j i 64 with h|h
   ·exact h
   rw[Nat.testBit_lt_two_pow (a0V (show a.toNat<2^64 by omega) (Nat.pow_le_pow_right M h))]at z;cases z
  rw[a1j,a1j,←BitVec.getLsbD,BitVec.getLsbD_not,BitVec.getLsbD,bv_nat E]
  simp[hi]
theorem tb_and1{a:Int}(A:iF a):aX .and .u64 a 1=1↔tb a 0=true:=by
 have e:aX .and .u64 a 1=IntKind.u64.wrap ((bv a&&&bv 1).toNat:Int):=rfl;have z:(bv a&&&bv 1).toNat=a.toNat%2:=by rw[BitVec.toNat_and,bv_nat A,show(bv 1).toNat=1 from by decide,Nat.and_one_is_mod]
 rw[e,z,u64_eq];unfold tb;rw[Nat.testBit_zero];simp;omega
theorem shl_one{k:Nat}(A:k<64):IntKind.u64.wrap (1 *2^(Nat.min k 64))=((2^k:Nat):Int):=by
 rw[show Nat.min k 64=k from a2h M,u64_eq,Int.one_mul];have:(2^k:Nat)<2^64:=Nat.pow_lt_pow_right M A;have e:((2:Int)^k)=((2^k:Nat):Int):=by simp
 have z:(2:Nat)^64=18446744073709551616:=by decide
 rw[z]at this;rw[e];generalize 2^k=q at this⊢;omega
theorem tb_shl{k:Nat}(z:k<64)(i:Nat):tb (IntKind.u64.wrap (1 *2^(Nat.min k 64))) i=decide (k=i):=by unfold tb;rw[shl_one z,a1O,Nat.testBit_two_pow]
theorem shl_rng(x:Int):iF (IntKind.u64.wrap x):=by rw[u64_eq];constructor<;>omega
theorem shr_nat{a:Int}(E:iF a){k:Nat}(A:k<=64):Int.fdiv a (2^(Nat.min k 64))=((a.toNat>>>k:Nat):Int):=by
 rw[show Nat.min k 64=k from a2h A,a1S];have e:((2:Int)^k)=((2^k:Nat):Int):=by simp
 have z:a=(a.toNat:Int):=M
 rw[e,Int.fdiv_eq_ediv_of_nonneg _ (Int.natCast_nonneg _)];conv=>lhs;rw[z]
 simp
theorem shr_rng{a:Int}(z:iF a){k:Nat}(A:k<=64):iF (Int.fdiv a (2^(Nat.min k 64))):=by
 rw[shr_nat z A];have:a.toNat>>>k<=a.toNat:=by rw[a1S];exact Nat.div_le_self _ _
 generalize a.toNat>>>k=q at this⊢;constructor<;>omega
theorem tb_shr{a:Int}(z:iF a){k:Nat}(A:k<=64)(i:Nat):tb (Int.fdiv a (2^(Nat.min k 64))) i=tb a (k+i):=by unfold tb;rw[shr_nat z A,a1O,Nat.testBit_shiftRight]
theorem tb_big{a:Int}(z:iF a){i:Nat}(hi:64<=i):tb a i=false:=
 Nat.testBit_lt_two_pow (a0V (show a.toNat<2^64 by omega) (Nat.pow_le_pow_right M hi))
theorem ne0_tb{a:Int}(z:iF a)(h:a≠0): ∃i,tb a i=true:=by obtain⟨i,hi⟩:=Nat.exists_testBit_of_ne_zero (show a.toNat≠0 by omega);exact⟨i,hi⟩
theorem eq0_tb{a:Int}(z:iF a)(h:a=0)(i:Nat):tb a i=false:=by subst h;exact Nat.zero_testBit i
def aD(s:List U64)(n:Nat):Bool:=tb (s.getD (n/64) default).n (n%64)
theorem mJ{s:List U64}{n:Nat}(h:64 *s.length<=n):aD s n=false:=by unfold aD;rw[cV M];exact Nat.zero_testBit _
theorem bit_set{s:List U64}{j:Nat}{v:Int}(z:j<s.length)(i:Nat):aD (s.set j ⟨v⟩) i=if i/64=j then tb v (i%64) else aD s i:=by
 unfold aD;simp only[a03,a24];by_cases h:j=i/64
 ·rw[if_pos h,if_pos h.symm,if_pos M];rfl
 rw[if_neg h,if_neg (fun e=>h e.symm)]
theorem bit_rep(n i:Nat):aD (List.replicate n (⟨0⟩:U64)) i=false:=by unfold aD;rw[a03,a1k];split<;>exact Nat.zero_testBit _
theorem add_ok{s:List U64}{n:Int}(h:0<=n/\n<64 *(s.length:Int))(z:iF (s.getD (Int.tdiv n 64).toNat default).n)(i:Nat):
  aD (s.set (Int.tdiv n 64).toNat ⟨aX .or .u64 (s.getD (Int.tdiv n 64).toNat default).n (IntKind.u64.wrap (1 *2^(Nat.min (Int.tmod n 64).toNat 64)))⟩) i=(aD s i||decide (i=n.toNat)):=by
 have A:(Int.tdiv n 64).toNat=n.toNat/64:=by rw[a1d h.1];omega
 have E:(Int.tmod n 64).toNat=n.toNat%64:=by rw[a1P h.1];omega
 rw[A]at z⊢
 rw[E,bit_set M,tb_or z (shl_rng _),tb_shl M]
 by_cases hi:i/64=n.toNat/64
 ·rw[if_pos hi];have N:tb (s.getD (n.toNat/64) default).n (i%64)=aD s i:=by unfold aD;rw[hi]
  rw[N];congr 1;rw[decide_eq_decide];omega
 rw[if_neg hi,decide_eq_false M,a1y]
theorem rem_ok{s:List U64}{n:Int}(h:0<=n/\n<64 *(s.length:Int))(z:iF (s.getD (Int.tdiv n 64).toNat default).n)(i:Nat):
  aD (s.set (Int.tdiv n 64).toNat ⟨aX .andNot .u64 (s.getD (Int.tdiv n 64).toNat default).n (IntKind.u64.wrap (1 *2^(Nat.min (Int.tmod n 64).toNat 64)))⟩) i=(aD s i&& !decide (i=n.toNat)):=by
 have A:(Int.tdiv n 64).toNat=n.toNat/64:=by rw[a1d h.1];omega
 have E:(Int.tmod n 64).toNat=n.toNat%64:=by rw[a1P h.1];omega
 rw[A]at z⊢
 rw[E,bit_set M,jP z (shl_rng _),tb_shl M]
 by_cases hi:i/64=n.toNat/64
 ·rw[if_pos hi];have N:tb (s.getD (n.toNat/64) default).n (i%64)=aD s i:=by unfold aD;rw[hi]
  rw[N];congr 2;rw[decide_eq_decide];omega
 rw[if_neg hi,decide_eq_false M,a1z,a0X]
theorem n64{s:List U64}{n:Int}(h:0<=n/\n<64 *(s.length:Int)):0<=Int.tdiv n 64/\Int.tdiv n 64<(s.length:Int)/\0<=Int.tmod n 64/\Int.tmod n 64<64:=by rw[a1d h.1,a1P h.1];omega
def uniB(s t:List U64)(k:Nat)(w:List U64):Prop:=w.length=s.length/\∀i,aD w i=(aD s i||(decide (i<64 *k)&&aD t i))
theorem uniB_zero{s t:List U64}:uniB s t 0 s:=⟨V,fun i=>by simp⟩
theorem jO{s t w:List U64}{k:Nat}(h:uniB s t k w)(i:Nat):tb (w.getD k default).n i=tb (s.getD k default).n i\/64<=i:=by
 rcases a0j i 64 with hi|hi
 ·left;have:=h.2 (64 *k+i);unfold aD at this;rw[show(64 *k+i)/64=k by omega,show(64 *k+i)%64=i by omega,decide_eq_false M,a1A,a1y]at this;exact this
 exact .inr hi
theorem uniB_same{s t w:List U64}{k:Nat}(h:uniB s t k w)(U:iF (t.getD k default).n)(Z:iF (w.getD k default).n)(T:aX .andNot .u64 (t.getD k default).n (w.getD k default).n=0):uniB s t (k+1) w:=by
 refine⟨h.1,fun i=>?_⟩;rw[h.2 i];by_cases hi:i<64 *k
 ·rw[decide_eq_true hi,decide_eq_true (show i<64 *(k+1) by omega)]
 by_cases A:i<64 *(k+1)
 ·rw[decide_eq_false hi,decide_eq_true A,a1A,a1j,a1y];have z:=eq0_tb (fG .andNot (t.getD k default).n (w.getD k default).n) T (i%64);rw[jP U Z]at z;have E:aD t i=tb (t.getD k default).n (i%64):=by unfold aD;rw[show i/64=k by omega]
  have N:aD s i=tb (w.getD k default).n (i%64):=by
   rcases jO h (i%64) with e|e
   ·rw[e];unfold aD;rw[show i/64=k by omega]
   omega
  rw[E,N];revert z;cases tb (t.getD k default).n (i%64)<;>cases tb (w.getD k default).n (i%64)<;>simp
 rw[decide_eq_false hi,decide_eq_false A]
theorem uniB_or{s t w:List U64}{k:Nat}(h:uniB s t k w)(E:k<s.length)(N:iF (t.getD k default).n)(T:iF (w.getD k default).n):uniB s t (k+1) (w.set k ⟨aX .or .u64 (w.getD k default).n (t.getD k default).n⟩):=by
 refine⟨by rw[a0c];exact h.1,fun i=>?_⟩;rw[bit_set (by rw[h.1];exact E)];by_cases hi:i/64=k
 ·rw[if_pos hi,tb_or T N];rw[decide_eq_true (show i<64 *(k+1) by omega),a1j];have z:aD t i=tb (t.getD k default).n (i%64):=by unfold aD;rw[hi]
  have A:aD s i=tb (w.getD k default).n (i%64):=by
   rcases jO h (i%64) with e|e
   ·rw[e];unfold aD;rw[hi]
   omega
  rw[z,A]
 rw[if_neg hi,h.2 i];congr 2;rw[decide_eq_decide];omega
theorem uniB_new{s t w:List U64}{k:Nat}(h:uniB s t k w)(A:iF (t.getD k default).n)(T:iF (w.getD k default).n)(E:aX .andNot .u64 (t.getD k default).n (w.getD k default).n≠0): ∃i,aD t i=true/\aD s i=false:=by
 obtain⟨q,z⟩:=ne0_tb (fG .andNot (t.getD k default).n (w.getD k default).n) E;rw[jP A T,a07,a0B]at z;have N:q<64:=by
  rcases a0j q 64 with h1|h1
  ·exact h1
  rw[tb_big A h1]at z;exact absurd z.1 e_
 refine⟨64 *k+q,?_,?_⟩
 ·unfold aD;rw[show(64 *k+q)/64=k by omega,show(64 *k+q)%64=q by omega];exact z.1
 rcases jO h q with e|e
 ·unfold aD;rw[show(64 *k+q)/64=k by omega,show(64 *k+q)%64=q by omega,←e];exact z.2
 omega
theorem uniB_all{s t w:List U64}{k:Nat}(h:uniB s t k w)(z:s.length<=k)(A:t.length=s.length)(i:Nat):aD w i=(aD s i||aD t i):=by
 rw[h.2 i];by_cases hi:i<64 *k
 ·rw[decide_eq_true hi,a1j]
 rw[mJ (s:=t) M,a1R]
def ln(s:List U64)(m:Nat):List Int:=List.map (fun i:Nat=>(i:Int)) ((List.range m).filter (aD s))
def gN(s:List U64):List Int:=ln s (64 *s.length)
theorem j9{s:List U64}{m:Nat}:ln s (m+1)=ln s m++if aD s m=true then [(m:Int)] else []:=by unfold ln;rw[List.range_succ,List.filter_append,a14];congr 1;rw[a1C];split<;>rfl
theorem lstK_skip{s:List U64}{m:Nat}: ∀(d:Nat),(∀i,m<=i->i<m+d->aD s i=false)->ln s m=ln s (m+d)
 |0,_=>rfl
 |d+1,h=>by rw[show m+(d+1)=(m+d)+1 by omega,j9,if_neg (by rw[h (m+d) M M];decide),a0r];exact lstK_skip d fun i z A=>h i z M
theorem lstK_len{s:List U64}{m:Nat}:(ln s m).length<=m:=by unfold ln;rw[a1G];have:=a17 (aD s) (List.range m);rwa [List.length_range]at this
theorem lst_mem{s:List U64}{x:Int}:x∈gN s↔0<=x/\aD s x.toNat=true:=by
 unfold gN ln;rw[a0u];constructor
 ·rintro⟨i,hi,rfl⟩;rw[a1X]at hi;exact⟨by omega,by rw[a1O];exact hi.2⟩
 rintro⟨A,z⟩;refine⟨x.toNat,a1X.2 ⟨a25.2 ?_,z⟩,by omega⟩;rcases a0j x.toNat (64 *s.length) with h2|h2
 ·exact h2
 rw[mJ h2]at z;cases z
theorem lst_asc{s:List U64}{m:Nat}:(ln s m).Pairwise (· < ·):=by
 unfold ln;rw[List.pairwise_map];refine(List.Pairwise.sublist List.filter_sublist (List.pairwise_lt_range (n:=m))).imp fun h=>?_
 omega
theorem list_stop{s:List U64}{k b:Nat}(A:iF (s.getD k default).n)(z:b<=64)(E:Int.fdiv (s.getD k default).n (2^(Nat.min b 64))=0):ln s (64 *k+b)=ln s (64 *(k+1)):=by
 rw[show 64 *(k+1)=64 *k+b+(64-b) by omega];refine lstK_skip _ fun i N T=>?_
 have:=eq0_tb (shr_rng A z) E (i-64 *k-b);rw[tb_shr A z]at this;unfold aD;rw[show i/64=k by omega,show i%64=b+(i-64 *k-b) by omega];exact this
theorem list_lt{s:List U64}{k b:Nat}(E:iF (s.getD k default).n)(A:b<=64)(z:Int.fdiv (s.getD k default).n (2^(Nat.min b 64))≠0):b<64:=by
 rcases a0j b 64 with h|h
 ·exact h
 exfalso;apply z;rw[shr_nat E A,a1S,Nat.div_eq_of_lt]
 ·rfl
 have:b=64:=M
 subst this;omega
theorem jD{s:List U64}{k b:Nat}(z:iF (s.getD k default).n)(A:b<64):(aX .and .u64 (Int.fdiv (s.getD k default).n (2^(Nat.min b 64))) 1=1)↔aD s (64 *k+b)=true:=by rw[tb_and1 (shr_rng z M),tb_shr z M,a26];unfold aD;rw[show(64 *k+b)/64=k by omega,show(64 *k+b)%64=b by omega]
end Go.R
end
noncomputable section
namespace Go.R
open Go.RowKit Go.WideShapes Go.ChangeShapes
section
variable {c_:Type} {enc:TypeId×Value->c_} {P:Program} {w:World} {μ:Emb} {H:Heap}
theorem Em.void(h:Em w μ H)(z:0<w.heap.size):Em w (μ.set H.next ⟨0,0,none,0⟩) (H.push (.cells [] none true)):=
 h.add (c:=0) (sh:=0) (cs:=[]) z fun i v A=>by simp at A
def EmC(enc:TypeId×Value->c_)(P:Program)(w:World)(t:TypeId)(α:Type) [Rp α](B:DataW c_->α->Prop):Prop:=
 ∀{μ:Emb} {H:Heap} {n:Nat} {cs:List Value} {x:DataW c_×List MemPlace},Em w μ H->DataW.trod enc P w 0 (fun _=>true) true n t cs=some x->
  ∃μ' H' c y,Em w μ' H'/\EmLe μ H μ' H'/\LRel μ' c cs/\Rp.rep H'.get c (y:α)/\B x.1 y
theorem gT{t:TypeId}(z:P.underlying t=some (.int .i64)):EmC enc P w t Int (fun _=>in64):=fun{μ H n cs x} h hd=>by obtain⟨m,rfl,_,A⟩:=DataW.trod_int z hd;have:=wf_in64 A;exact⟨μ,H,_,m,h,.refl _ _,.cons (.atom _ V) .nil,⟨V,this⟩,this⟩
theorem emC_bool{t:TypeId}(z:P.underlying t=some .bool):EmC enc P w t Bool (fun _ _=>True):=fun{μ H n cs x} h hd=>by obtain⟨m,rfl,_⟩:=DataW.trod_bool z hd;exact⟨μ,H,_,m,h,.refl _ _,.cons (.atom _ V) .nil,V,trivial⟩
theorem em_row{e:TypeId}{α:Type} [Rp α]{B:DataW c_->α->Prop}(he:EmC enc P w e α B)(hc:P.cellsOf e=Rp.sz α){a:Addr}{n:Nat}{D:Nat->DataW c_}{Pl:Nat->List MemPlace}:
  ∀(len:Nat),(∀i,i<len->∃cs,w.cells? 0 (a.add (i *P.cellsOf e)) (P.cellsOf e)=some cs/\DataW.trod enc P w 0 (fun _=>true) true n e cs=some (D i,Pl i))->∀{μ:Emb} {H:Heap},Em w μ H->
   ∃μ' H' c l,Em w μ' H'/\EmLe μ H μ' H'/\RL H'.get c (l:List α)/\l.length=len/\(∀i y,l[i]?=some y->B (D i) y)/\∀(i:Nat) v,c[i]?=some v->∃v',w.cell? (a.add i)=some v'/\VRel μ' v v'
 |0,_,μ,H,h=>⟨μ,H,[],[],h,.refl _ _,V,V,fun i y hy=>(by simp at hy),fun i v E=>by simp at E⟩
 |len+1,hx,μ,H,h=>by
  obtain⟨μ1,H1,c,l,h1,av,hr,hl,hB,hg⟩:=em_row he hc len (fun i hi=>hx i M) h;obtain⟨cs,al,hd⟩:=hx len M;obtain⟨μ2,H2,c2,y,h2,N,ad,ag,hy⟩:=he h1 hd;obtain⟨_,a4,U⟩:=World.cells?_some al;have a6:c.length=len *P.cellsOf e:=by rw[hr.length,hl,hc]
  refine⟨μ2,H2,c++c2,l++[y],h2,av.trans N,(hr.mono N.heap).append (.single ag),by simp[hl],fun i z A=>?_,fun i v E=>?_⟩
  ·rw[a1Q]at A;split at A
   ·exact hB i z A
   rename_i hi;have:i-l.length=0:=by have:=(a0q.1 A).1;simp at this;omega
   rw[this]at A;simp at A;subst A;rw[show i=len by omega];exact hy
  by_cases hi:i<c.length
  ·rw[a0S hi]at E;obtain⟨v',T,Z⟩:=hg i v E;exact⟨v',T,Z.mono N.emb⟩
  rw[a11 M]at E;obtain⟨v',T,Z⟩:=ad.get E;have a7:i-c.length<cs.length:=(a0q.1 T).1;refine⟨v',?_,Z⟩;rw[←T,←U _ M,Go.Deep.add_add];congr 2;omega
def LB{α:Type}(B:DataW c_->α->Prop)(d:DataW c_)(l:List α):Prop:=
 l.length<=maxLen/\∃(D:Nat->DataW c_) (rest:List (DataW c_)),(d= .slice ((List.range l.length).map D) rest\/(d= .nil/\l=[]))/\∀i y,l[i]?=some y->B (D i) y
theorem kw{t e:TypeId}{α:Type} [Rp α]{B:DataW c_->α->Prop}(h0:0<w.heap.size)(ht:P.underlying t=some (.slice e))(hc:P.cellsOf e=Rp.sz α)(hp:0<Rp.sz α)(he:EmC enc P w e α B):
  EmC enc P w t (List α) (LB B):=fun{μ H n cs x} h hd=>by
 rcases Go.Deep.open_slice ht hd with⟨rfl,A⟩|⟨a,len,bz,m,n',D,Pl,rfl,_,ar,b0,hm,A,E⟩
 ·exact⟨μ,H,[.slice none 0 0],[],h,.refl _ _,.cons (.atom _ V) .nil,⟨none,0,V,.nil⟩,a0I _,fun _=> .nil,[],.inr ⟨by rw[A],V⟩,fun i y hy=>(by simp at hy)⟩
 simp only[if_true]at hm
 subst hm
 rcases a1D m with hz|hpos
 ·subst hz;obtain rfl:len=0:=M
  refine⟨_,_,[.slice (some ⟨H.next,0,none⟩) 0 0],[],h.void h0,EmLe.add h ⟨0,0,none,0⟩ (.cells [] none true),.cons (.sliceZ _ _ _ _ (Emb.set_same _ _ _)) .nil,⟨some ⟨H.next,0,none⟩,0,V,.inr ⟨H.next,0,0,_,V,Heap.get_push_same _ _,[],none,true,V,fun E=>(by cases E),a0b _,?_,.inl V⟩⟩,a0I _,D,_,.inl (by rw[A];rfl),fun i y hy=>(by simp at hy)⟩;simp[RL]
 obtain⟨ag,Z,_⟩:=E 0 hpos
 obtain⟨_,an,T⟩:=World.cells?_some Z
 have ao:0<ag.length:=by rw[an,hc];exact hp
 have z: ∃v,w.cell? a=some v:=by have:=T 0 (by rw[hc];exact hp);rw[Go.Deep.add_add]at this;simp only[Nat.zero_mul,a26,show a.add 0=a by unfold Addr.add;rw[if_pos rfl]]at this;exact⟨_,this.trans (a05 ao)⟩
 obtain⟨v0,z⟩:=z
 have ay:a.spot=none/\a.block<w.heap.size:=by
  unfold World.cell? at z;split at z
  ·rename_i al;refine⟨?_,(a0C.1 al).1⟩;split at z
   ·cases z
   rename_i hs;simpa using hs
  cases z
 obtain⟨μ1,H1,c,l,U,a0,hr,hl,hB,hg⟩:=em_row he hc (a:=a) len (fun i hi=>E i M) h
 obtain⟨N,off,sp⟩:=a
 obtain⟨rfl,ai⟩:=ay
 have hA:=U.add (c:=N) (sh:=off) (cs:=c) ai (fun i v hv=>by
  obtain⟨v',e1,e2⟩:=hg i v hv;refine⟨v',?_,e2⟩;rw[←e1];congr 1;unfold Addr.add;split
  ·rename_i e;subst e;rfl
  rfl)
 subst hl
 refine⟨_,_,[.slice (some ⟨H1.next,0,none⟩) l.length m],l,hA,a0.trans (EmLe.add U ⟨N,off,none,0⟩ (.cells c none true)),.cons ?_ .nil,⟨_,_,V,?_⟩,by omega,D,_,.inl (by rw[A]),hB⟩
 ·have:=VRel.sliceC (μ:=μ1.set H1.next ⟨N,off,none,0⟩) H1.next 0 l.length m ⟨N,off,none,0⟩ (Emb.set_same _ _ _) V;simpa using this
 refine .inr ⟨H1.next,0,m,_,V,Heap.get_push_same _ _,_,none,true,V,fun E=>(by cases E),ar,?_,.inl V⟩
 rw[a1a,←hr.length,a1h]
 exact hr.mono (EmLe.add U ⟨N,off,none,0⟩ (.cells c none true)).heap
theorem kv{t:TypeId}{fs:Array Field}{n:Nat}{cs:List Value}{x:DataW c_×List MemPlace}(ht:P.underlying t=some (.struct fs))(Z:DataW.trod enc P w 0 (fun _=>true) true n t cs=some x):
  cs.length=P.cellsOf t/\∃m N,x.1= .agg N/\N.length=fs.size/\∀(i:Nat) (ty:TypeId) (off sz:Nat),(fs[i]?).map (fun f=>(f.type,f.offset))=some (ty,off)->P.cellsOf ty=sz->∃y,DataW.trod enc P w 0 (fun _=>true) true m ty ((cs.drop off).take sz)=some y/\N[i]?=some y.1:=by
 obtain⟨xs,m,_,hx,hl,E,hf⟩:=DataW.trod_struct ht Z
 refine⟨hl,m,xs.map (·.1),by rw[hx],by rw[a1G];exact E,fun i ty off sz hi T=>?_⟩
 cases z:fs[i]? with
 |none=>rw[z]at hi;cases hi
 |some f=>
  rw[z]at hi
  simp only[a1M,a00,a01]at hi
  obtain⟨rfl,rfl⟩:=hi
  subst T
  have U:=hf i f z
  have A:i<xs.length:=by rw[E];exact(a0C.1 z).1
  exact⟨_,U.trans (a05 A),by rw[a1n,a05 A];rfl⟩
theorem LRel.put{c r cs:List Value}{off sz:Nat}(h:LRel μ c ((cs.drop off).take sz))(k:LRel μ r (cs.drop (off+sz))):LRel μ (c++r) (cs.drop off):=by have:=h.append k;rwa [←a2n,a16]at this
theorem LRel.stop{cs:List Value}{off:Nat}(h:cs.length=off):LRel μ [] (cs.drop off):=by rw[a23 M];exact .nil
theorem EmC.arg{t:TypeId}{α:Type} [Rp α]{B:DataW c_->α->Prop}(A:EmC enc P w t α B)(h:Em w μ H){v:Value}{d:DataW c_}{ps:List MemPlace}(z:DataW.Trod enc P w 0 (fun _=>true) true t v d ps):
  ∃μ' H' c y,Em w μ' H'/\EmLe μ H μ' H'/\LRel μ' c v.cells.toList/\Rp.rep H'.get c (y:α)/\B d y:=by
 obtain⟨n,E⟩:=z
 exact A h E
theorem okWide_struct{fs:Array Field}{t:TypeId}{v:Value}{base:Nat}(E:P.underlying t=some (.struct fs))(z:Value.okWide P w .any base t v): ∃cs,v= .agg cs:=by unfold Value.okWide at z;rw[E]at z;obtain⟨cs,A,_⟩:=z;exact⟨cs,A⟩
theorem VRel.aggOf{c:List Value}{v:Value}(z: ∃cs,v= .agg cs)(h:LRel μ c v.cells.toList):VRel μ (.agg ⟨c⟩) v:=by obtain⟨cs,rfl⟩:=z;exact .agg _ _ h.1 h.2
theorem cell_size{a:Addr}{v:Value}(h:w.cell? a=some v):0<w.heap.size:=by
 unfold World.cell? at h;split at h
 ·rename_i z;have:=(a0C.1 z).1;omega
 cases h
end
end Go.R
end
noncomputable section
namespace Go.R
open Go.RowKit Go.WideShapes Go.ChangeShapes
section
variable {c_:Type} {enc:TypeId×Value->c_} {P:Program} {w:World} {μ:Emb} {H:Heap}
def EmR(enc:TypeId×Value->c_)(P:Program)(w:World)(t:TypeId)(α:Type) [Rp α](S:DataW c_->Prop)(B:DataW c_->α->Prop):Prop:=
 ∀{μ:Emb} {H:Heap} {n:Nat} {cs:List Value} {x:DataW c_×List MemPlace},S x.1->Em w μ H->DataW.trod enc P w 0 (fun _=>true) true n t cs=some x->
  ∃μ' H' c y,Em w μ' H'/\EmLe μ H μ' H'/\LRel μ' c cs/\Rp.rep H'.get c (y:α)/\B x.1 y
end
end Go.R
end
noncomputable section
namespace Go.R
open Go.ChangeShapes
section
variable {H:Type} {enc:TypeId×Value->H}
theorem handed_cond_and{a:Assume}{C:Checked}{os:Os}{f:FuncId}{fn:Func}{s:OpenSpec}{k:(H:Type)->List (DataW H)->Bool}(hk:s.cond=some k){F:Stop.Interp}{T:List PathCond}{z ad N Z:Bool}{Y:World->Array Value->Prop}
  (hY: ∀(w w':World) (args:Array Value),w.heap=w'.heap->Y w args->Y w' args)
  (a6:ownKnob C.prog.godebug=none) (ag:os.Started) (al:C.prog.inits.idxOf? f=none) (a1:C.prog.funcs[f]?=some fn)
  (ai: ∃(w:World) (A:Tape) (i:Input),w.os=os/\(w.forCall A i).Shaped C.prog/\i.vars=[]/\Input.okWide C.prog (w.forCall A i) .any w.heap.size f i/\
   ((s.pre enc C.prog fn T z (w.forCall A i).memory i.args/\Y (w.forCall A i).memory i.args)/\sizedMet enc C.prog fn s z (w.forCall A i).memory i.args)/\a.holds C.prog (lone (Frame.enter C.prog f i.args .normal) [] (w.forCall A i)))
  (U: ∀(W:World) (base:Nat) (args:Array Value) (ds gs:List (DataW H)) (E:List MemPlace),
   (∀(j:Nat) t v,fn.params[j]?=some t->args[j]?=some v->Value.okWide C.prog W .any base t v)->
   DataW.Whole enc C.prog fn.params.toList s.vars z W args.toList ds gs E->k H (ds++gs)=true->Y W args->
   Calls C.prog f args W fun e W'=> ∃v,e= .returned v/\(s.at F).post enc C.prog fn z ad N Z W args v W'):
  ReturnsInHanded a C os f .any (fun w args=>(s.pre enc C.prog fn T z w args/\Y w args)/\sizedMet enc C.prog fn s z w args) ((s.at F).post enc C.prog fn z ad N Z):=by
 refine returnsInHanded_of_calls a6 ag al ai ?_
 intro w A i _ _ _ a4 aw a2
 obtain⟨_,_,_,a0,ar,_,_,_,_,ax⟩:=a4
 have e:a0=fn:=Option.some.inj (ar.symm.trans a1)
 subst e
 obtain⟨⟨hp,hx⟩,_⟩:=aw
 obtain⟨ds,gs,E,hw,_,a3⟩:=(OpenSpec.pre_some hk T z _ _).1 hp
 have a5:=DataW.Whole.of_heap (w':=w.forCall A i) (by rfl) hw
 refine(U (w.forCall A i) w.heap.size i.args ds gs E ax a5 a3 (hY _ _ _ (by rfl) hx)).mono fun e W' ⟨v,he,hp⟩=>?_
 subst he
 exact ChangeSpec.post_blind hp
theorem witness_cond{C:Checked}{os:Os}{f:FuncId}{fn:Func}{s:OpenSpec}{k:(H:Type)->List (DataW H)->Bool}(hk:s.cond=some k){E:List PathCond}{z:Bool}{Y:World->Array Value->Prop}(modest:Bool)(w0:World)(args:Array Value)(fuel:Nat)(Z:w0.os=os)
  (ad:(w0.forCall (fun _ _=>0) ⟨#[],args,[]⟩).Shaped C.prog)
  (T:Input.okWideB C.prog (w0.forCall (fun _ _=>0) ⟨#[],args,[]⟩) f ⟨#[],args,[]⟩=true)
  {x:List (DataW H)×List (DataW H)×List MemPlace} (hx:DataW.whole enc C.prog (w0.forCall (fun _ _=>0) ⟨#[],args,[]⟩).memory fn.params.toList s.vars z args.toList fuel=some x)
  (N:E.all (PathCond.test C.prog ⟨fn.params.toList,x.1,s.bare.plain.varTypes C.prog,x.2.1⟩)=true) (U:k H (x.1++x.2.1)=true)
  (ag:s.bare.sizedB enc C.prog fn z (w0.forCall (fun _ _=>0) ⟨#[],args,[]⟩).memory args fuel=true)
  (hY:Y (w0.forCall (fun _ _=>0) ⟨#[],args,[]⟩).memory args):
  ∃(w:World) (A:Tape) (i:Input),w.os=os/\(w.forCall A i).Shaped C.prog/\i.vars=[]/\Input.okWide C.prog (w.forCall A i) .any w.heap.size f i/\
   ((s.pre enc C.prog fn E z (w.forCall A i).memory i.args/\Y (w.forCall A i).memory i.args)/\sizedMet enc C.prog fn s z (w.forCall A i).memory i.args)/\({modest:=modest}:Assume).holds C.prog (lone (Frame.enter C.prog f i.args .normal) [] (w.forCall A i)):=
 ⟨w0,fun _ _=>0,⟨#[],args,[]⟩,Z,ad,(Input.okWide_of_okWideB (base:=0) T).1,(Input.okWide_of_okWideB T).2,⟨⟨(OpenSpec.pre_some hk E z _ _).2 ⟨x.1,x.2.1,x.2.2,DataW.Whole_of_whole hx,N,U⟩,hY⟩,sizedMet_of_sizedB ag⟩,by
  simp only[Assume.holds];exact⟨by simp,by simp,fun _=>Modest.zero,by simp,by simp⟩⟩
end
end Go.R
end
noncomputable section
set_option linter.unusedVariables false
namespace Go.R
structure Eqs(s s':St):Prop where
 t:cU s.tmps=cU s'.tmps
 n:s.size=s'.size
 h:s.heap=s'.heap
def CgS(f g:St->Option (Ex×St)):Prop:= ∀s A,Eqs s A->∀e r,f s=some (e,r)->∃z,g A=some (e,z)/\Eqs r z
section
variable {P:Program} {G:Nat} {cf:cC} {ops:Array Oper}
end
def tabT(args:List Value):List (Nat×Value)->Tr Value
 | []=>eY 0 args .nil
 |(i,v)::l=>lset (tabT args l) i v
def endsTrue(d:Nat)(r:Option (Ex×St)):Bool:=match r with
 |some (.normal,s)=>(match cU s.tmps d with| .bool b=>b|_=>false)
 |some (.ret,s)=>(match cU s.tmps d with| .bool b=>b|_=>false)
 |_=>false
end Go.R
end
noncomputable section
set_option linter.unusedVariables false
namespace Go.R
structure PtrT where
 b:Nat
 deriving Inhabited
instance :Rp PtrT where
 sz:=1
 rep F cs x:=cs=[.pointer (some ⟨x.b,0,none⟩)]
 len:=by rintro F cs x rfl;rfl
 one:=by rintro F cs x rfl;rfl
 mono:=by intro F F' cs x _ h;exact h
section
variable {B:Base} {F F':Fz} {H:Heap} {L R:List Fp}
end
section
variable {P:Program} {G:Nat} {K:bM} {sz:Nat} {Q:Ex->Fn->Heap->Prop} {ops:Array Oper} {D:List (Nat×ID)} {i:Nat} {os:List Oper} {k:List Fr} {f:Fn} {H:Heap}
theorem wf_callG{d:Option Tmp}{op:Op}{ty:TypeId}{pos:String}{af:Array Edge}{W:List Nat}{g:FuncId}{args:List Value}{R:Value->Heap->Prop}(ha:AP P (cS f) ⟨d,op,ty,pos,af,none⟩ {H with log:=[]} (.enter g args,{H with log:=[]}))(ho:op.operands.toList.all (bg G)=true)(hd:dstOK d sz=true)(hk:fe op=true)
  (hc:C P G K g args {H with log:=[]} R) (an:okD ops i (.x W) D)
  (h: ∀v z,R v z->(∀b,b∈z.log->H.next<=b\/b∈W)/\∀l,(∀b,b∈l->b∈z.log\/b∈H.log)->WF2 P G K sz ops ((i,.x W)::D) (i+1) os k (updO f d v) {z with log:=l} Q):WF2 P G K sz ops D i (⟨d,op,ty,pos,af,none⟩::os) k f H Q:=⟨fun t fs ht U=>by
 obtain⟨N,v,z,al,hr⟩:=hc.out
 obtain⟨Z,h0⟩:=h v z hr
 obtain⟨t',h1,h2⟩:=hP (s:=⟨t,sz,z⟩) (v:=v) hd
 have hi:=dK (ops:=ops) (f:=f) (o:=⟨d,op,ty,pos,af,none⟩) V hk Z t sz H ht
 obtain⟨A,e,s',h3,h4⟩:=(h0 (dx H.next z.log++H.log) (fun b E=>by
  rcases a08.1 E with E|E
  ·exact .inl (fg E).1
  exact .inr E)).out t' ((i,dR ops ⟨d,op,ty,pos,af,none⟩ ⟨t,sz,H⟩ H.next z.log)::fs) (by rw[h2,ht]) ⟨V,hi,U⟩
 refine⟨Nat.max N A,e,s',?_,h4⟩
 have ao:step P G (call P G K (Nat.max N A)) ops ⟨d,op,ty,pos,af,none⟩ ⟨t,sz,{H with log:=[]}⟩=some ⟨t',sz,z⟩:=by unfold step be;simp only[cond_true,ho,dZ,ht,ha.eq,ef (a1N N A) _ _ _ _ al];exact h1
 unfold br gA
 rw[ao]
 simp only[di hi U an,cond_true]
 refine dD (a1l (a1g N A)) k _ _ (fun x T=>?_) _ h3
 cases hq:br P G (call P G K A) ops (i+1) ((i,dR ops ⟨d,op,ty,pos,af,none⟩ ⟨t,sz,H⟩ H.next z.log)::fs) os ⟨t',sz,{z with log:=dx H.next z.log++H.log}⟩ with
 |none=>rw[hq]at T;cases T
 |some y=>
  have:=d9 (ef (P:=P) (G:=G) (K:=K) (a1g N A)) _ _ _ _ _ hq
  rw[hq]at T
  rw[this];exact T⟩
end
section
variable {ι β:Type} {Ch:Fz->ι->β->Fp->Prop} {F:Fz}
end
end Go.R
end
noncomputable section
set_option linter.unusedVariables false
namespace Go.R
open Go
structure Lv(α:Type)(n:Nat) where
 r:Fz->List Value->α->Prop
 len: ∀{F:Fz} {cs:List Value} {x:α},r F cs x->cs.length=n
 one: ∀{F:Fz} {cs:List Value} {x:α},r F cs x->lQ Value.oneCell' cs=true
 mono: ∀{F F':Fz} {cs:List Value} {x:α},F.le F'->r F cs x->r F' cs x
abbrev Lv.rp{α:Type}{n:Nat}(r:Lv α n):Rp α:=⟨n,r.r,r.len,r.one,r.mono⟩
abbrev rpOf{α:Type}{n:Nat}(r:Nat->Lv α n):Rp α:=⟨n,fun F cs x=> ∃d,(r d).r F cs x,fun⟨d,h⟩=>(r d).len h,fun⟨d,h⟩=>(r d).one h,fun hF ⟨d,h⟩=>⟨d,(r d).mono hF h⟩⟩
end Go.R
end
noncomputable section
set_option linter.unusedVariables false
namespace Go.R
open Go
section
variable {α:Type} [Rp α] {P:Program} {ρ:Operand->Value} {d:Option Tmp} {ty:TypeId} {pos:String} {af:Array Edge} {gd:Option (Nat×Bool)} {B:Base} {F:Fz} {H:Heap} {L R:List Fp} {l:List α}
end
end Go.R
namespace Go.R
abbrev iI(n:Int):Value:= .int .i64 n
abbrev pT(b o:Nat):Value:= .pointer (some ⟨b,o,none⟩)
abbrev fP(b:Nat)(l:List Value):Fp:=[(b,.cells l none false)]
abbrev sL(a:Option Addr)(n k:Nat):Value:= .slice a n k
abbrev aG(l:List Value):Value:= .agg ⟨l⟩
abbrev tX(b:List UInt8):Value:= .string ⟨⟨b⟩⟩
theorem fT{a b c:Fz}(h:a.le b)(k:b.le c):a.le c:=Fz.le_trans h k
theorem fR{a:Fz}:a.le a:=Fz.le_refl a
theorem wR{P:Program}{G:Nat}{K:bM}{sz:Nat}{Q:Ex->Fn->Heap->Prop}{f:Fn}{H:Heap}{c1:Code}{k k1:List Fr}(n:Nat){id:Nat}{ops:Array Oper}(hs:List (Nat×Hint))(lo hi:Nat)(ex:List Nat)(l:List (Nat×Value)){p:Prop}(E:p)(z:foc n .skip k=(c1,k1))(A: ∀g,WK P G K sz c1 k1 (gC (hav lo hi ex g f) l) H Q)(h:fX P G (W0 P G K H) sz ops f 0 ops.toList hs lo hi ex (dQ Prod.fst l)=some (l,p):=by kernel_rfl):WK P G K sz (.region id ops false) k f H Q:=wr n hs lo hi ex l E h z A
theorem wRD{P:Program}{G:Nat}{K:bM}{sz:Nat}{Q:Ex->Fn->Heap->Prop}{f:Fn}{H:Heap}{c1:Code}{k k1:List Fr}(n:Nat){id:Nat}{ops:Array Oper}(hs:List (Nat×Hint))(lo hi:Nat)(ex:List Nat)(l:List (Nat×Value)){p:Prop}(E:p)(N:(aY ops&&P.follows .mixedOrders)=true)(z:foc n .skip k=(c1,k1))(A: ∀g,WK P G K sz c1 k1 (gC (hav lo hi ex g f) l) H Q)(h:fX P G (W0 P G K {H with log:=[]}) sz ops f 0 ops.toList hs lo hi ex (dQ Prod.fst l)=some (l,p):=by kernel_rfl):WK P G K sz (.region id ops true) k f H Q:=wrD n hs lo hi ex l E N h z A
theorem wRo{P:Program}{G:Nat}{K:bM}{sz:Nat}{Q:Ex->Fn->Heap->Prop}{f:Fn}{H:Heap}{k:List Fr}(n i:Nat){ops:Array Oper}{os z:List Oper}(hs:List (Nat×Hint))(lo hi:Nat)(ex:List Nat)(l:List (Nat×Value)){p:Prop}(N:p)(A:ed os n=z)(E: ∀g,WO P G K sz ops z k (gC (hav lo hi ex g f) l) H Q)(h:fX P G (W0 P G K H) sz ops f i (d6 os n) hs lo hi ex (dQ Prod.fst l)=some (l,p):=by kernel_rfl):WO P G K sz ops os k f H Q:=wro n i hs lo hi ex l N h A E
theorem wT{P:Program}{G:Nat}{K:bM}{sz:Nat}{Q:Ex->Fn->Heap->Prop}{f:Fn}{H:Heap}{c1:Code}{k k1:List Fr}(n:Nat){id:Nat}{ops:Array Oper}(hs:List (Nat×Hint))(lo hi:Nat)(ex:List Nat)(l:List (Nat×Value))(z:foc n .skip k=(c1,k1))(A: ∀g,WK P G K sz c1 k1 (gC (hav lo hi ex g f) l) H Q)(h:fX P G (W0 P G K H) sz ops f 0 ops.toList hs lo hi ex (dQ Prod.fst l)=some (l,True):=by kernel_rfl):WK P G K sz (.region id ops false) k f H Q:=wR n hs lo hi ex l trivial z A h
theorem wU{P:Program}{G:Nat}{K:bM}{sz:Nat}{Q:Ex->Fn->Heap->Prop}{f:Fn}{H:Heap}{c1:Code}{k k1:List Fr}(n:Nat){id:Nat}{ops:Array Oper}(hs:List (Nat×Hint))(lo hi:Nat)(ex:List Nat)(l:List (Nat×Value)){p:Prop}(E:p)(z:foc n .skip k=(c1,k1))(A: ∀g,WK P G K sz c1 k1 (gC (hav lo hi ex g f) l) H Q)(h:fX P G (W0 P G K H) sz ops f 0 ops.toList hs lo hi ex (dQ Prod.fst l)=some (l,p/\True):=by kernel_rfl):WK P G K sz (.region id ops false) k f H Q:=wR n hs lo hi ex l ⟨E,trivial⟩ z A h
theorem wTo{P:Program}{G:Nat}{K:bM}{sz:Nat}{Q:Ex->Fn->Heap->Prop}{f:Fn}{H:Heap}{k:List Fr}(n i:Nat){ops:Array Oper}{os z:List Oper}(hs:List (Nat×Hint))(lo hi:Nat)(ex:List Nat)(l:List (Nat×Value))(A:ed os n=z)(E: ∀g,WO P G K sz ops z k (gC (hav lo hi ex g f) l) H Q)(h:fX P G (W0 P G K H) sz ops f i (d6 os n) hs lo hi ex (dQ Prod.fst l)=some (l,True):=by kernel_rfl):WO P G K sz ops os k f H Q:=wRo n i hs lo hi ex l trivial A E h
theorem wUo{P:Program}{G:Nat}{K:bM}{sz:Nat}{Q:Ex->Fn->Heap->Prop}{f:Fn}{H:Heap}{k:List Fr}(n i:Nat){ops:Array Oper}{os z:List Oper}(hs:List (Nat×Hint))(lo hi:Nat)(ex:List Nat)(l:List (Nat×Value)){p:Prop}(N:p)(A:ed os n=z)(E: ∀g,WO P G K sz ops z k (gC (hav lo hi ex g f) l) H Q)(h:fX P G (W0 P G K H) sz ops f i (d6 os n) hs lo hi ex (dQ Prod.fst l)=some (l,p/\True):=by kernel_rfl):WO P G K sz ops os k f H Q:=wRo n i hs lo hi ex l ⟨N,trivial⟩ A E h
end Go.R
namespace Go.R
theorem g_{B:Base}{F:Fz}{H:Heap}{L R:List Fp}(h:HS B F H L R){b:Nat}{cs:List Value}(e:L[0]?=some [(b,.cells cs none false)]):HC H.get b 0 cs:=HS.hc h e
theorem h_{B:Base}{F:Fz}{H:Heap}{L R:List Fp}(h:HS B F H L R){b:Nat}{cs:List Value}(e:L[1]?=some [(b,.cells cs none false)]):HC H.get b 0 cs:=HS.hc h e
theorem i_{B:Base}{F:Fz}{H:Heap}{L R:List Fp}(h:HS B F H L R){b:Nat}{cs:List Value}(e:L[2]?=some [(b,.cells cs none false)]):HC H.get b 0 cs:=HS.hc h e
theorem j_{F:Fz}:∀{l:List Str},RL F (l.map fun s=>.string ⟨⟨s.b⟩⟩) l
|[]=>RL.nl
|_::_=>RL.cs rfl j_
theorem k_{p:Prop}(h:p:=by first|omega|(simp only[a04,a0a,a0g];omega)):p:=h
theorem l_{p:Prop}(h:p:=by first|omega|(dsimp only;omega)|(simp<;>omega)):p:=h
theorem m_{p:Prop}(h:p:=by simp;omega):p:=h
theorem n_{p:Prop}(h:p:=by first|omega|(simp<;>omega)):p:=h
theorem o_{p:Prop}(h:p:=by first|assumption|omega):p:=h
theorem p_{p:Prop}(h:p:=by first|omega|(simp only[a0c,a0m];omega)|(simp only[a0D,a0m];omega)):p:=h
theorem q_{p:Prop}(h:p:=by simp_all):p:=h
theorem r_{p:Prop}(h:p:=by first|omega|(simp only[a04,a0a,a0g,a0k,a0D];omega)):p:=h
theorem s_{p:Prop}(h:p:=by rfl):p:=h
theorem t_{p:Prop}(h:p:=by first|assumption|rfl):p:=h
theorem u_{p:Prop}(h:p:=by simp):p:=h
end Go.R
