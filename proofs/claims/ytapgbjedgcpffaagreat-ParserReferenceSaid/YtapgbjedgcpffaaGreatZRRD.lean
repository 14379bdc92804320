/-
Symbolic runs by computation, data, the laid table.
-/
import Derived.Test.YtapgbjedgcpffaaGreatZRRC
import Derived.Laws.Bits128
import Derived.OpenShut
import Derived.ReadAgain
import Derived.Test.YtapgbjedgcpffaaGreatZRRB
import Derived.Deep.Slices
import Derived.JoinedCond
import Derived.LaidLaws
import Derived.KernelRfl
noncomputable section
namespace Go.R
section
variable {P:Program} {f:Fn} {H:Heap} {rs:List ResultVar} {l:List Value}
theorem rN:cQ P f H []=some []:=rfl
theorem rT{t:Tmp}{v:Value}(E:f t=v)(h:cQ P f H rs=some l):cQ P f H (.tmp t::rs)=some (v::l):=by unfold cQ;rw[h,E]
theorem rC{a:Tmp}{t:TypeId}{p:Addr}{v:Value}(ha:f a= .pointer (some p))(E:H.loadV P t p=some v)(h:cQ P f H rs=some l):cQ P f H (.cell a t::rs)=some (v::l):=by unfold cQ;rw[ha];simp only[E,h]
theorem bS{t:TypeId}{b n:Nat}{cs:List Value}(ha:fN P t=some true)(hs:dV P t=some n)(hc:HC H.get b 0 cs)(T:cs.length=n):H.loadV P t ⟨b,0,none⟩=some (.agg ⟨cs⟩):=by obtain⟨all,U,Y,O,E⟩:=hc;unfold Heap.loadV;rw[ha];simp only[hs];unfold Heap.loadN;rw[a0U]at E;subst T;simp only[O,bR,bW,bz,a0U,E,a0M,cond_true]
end
section
variable {α:Type} [Rp α] {P:Program} {ρ:Operand->Value} {d:Option Tmp} {ty:TypeId} {pos:String} {af:Array Edge} {gd:Option (Nat×Bool)} {B:Base} {F:Fz} {H:Heap} {L R:List Fp} {v:Value} {l:List α} {p:Fp}
theorem ap_boolNe{t yt:TypeId}{x y:Operand}{a b:Bool}(O:ρ x= .bool a)(T:ρ y= .bool b)(E: ∀a b:Bool,aB P (ey .neq t x y a b)=some (.value (.bool (a !=b)))):AP P ρ ⟨d,.binOp .neq t x y yt,ty,pos,af,gd⟩ H (.val (.bool (a !=b)),H):=by
 refine⟨?_⟩;show aBin P ρ _ .neq t (ρ x) y H=_;rw[O];show bL P ρ _ H=_;unfold bL;have U:((Op.binOp .neq t x y yt).operands.toList.all fun x=>jM (ρ x))=true:=by simp[Op.operands,O,T,jM,dx]
 simp only[U,cond_true];have Y:aB P (execOp ρ ⟨d,.binOp .neq t x y yt,ty,pos,af,gd⟩)=some (.value (.bool (a !=b))):=by rw[←E a b];unfold execOp ey;simp only[O,T]
 rw[Y];rfl
theorem mT: ∀{l:List UInt8} {cs:List Value} {F:Fz},RL F cs l->ct cs=some l
 | [],cs,F,h=>by simp only[RL]at h;subst h;rfl
 |c::l,cs,F,h=>by obtain⟨a,r,rfl,rfl,E⟩:=h;show(match ct r with|some r=>some (UInt8.ofNat (c.toNat:Int).toNat::r)|none=>none)=_;rw[mT E];simp
theorem ap_cvB{s t e:TypeId}{x:Operand}{l:List UInt8}(hx:ρ x=v)(hs:P.underlying s=some (.slice e))(U:P.underlying t=some .string)(O:P.underlying e=some (.int .u8))(h:Sv F H.get v l):
  AP P ρ ⟨d,.convert s t x,ty,pos,af,gd⟩ H (.val (.string ⟨⟨l⟩⟩),H):=by
 refine⟨?_⟩
 show fJ P ρ _ s t (ρ x) H=_
 rw[hx]
 rcases h with⟨rfl,rfl⟩|⟨b,off,k,o,rfl,g1,cs,ar,ro,rfl,g2,g3,E,g5⟩
 ·show ovl (dh P s t none 0 H) H=_;unfold dh;simp only[hs,U,O];rfl
 show ovl (dh P s t (some ⟨b,off,none⟩) l.length H) H=_
 unfold dh
 simp only[hs,U,O]
 cases hb:Nat.beq l.length 0 with
 |true=>
  have:l=[]:=a0i (a06 hb)
  subst this;rfl
 |false=>
  simp only[cond_false]
  have T:=E.length
  have Y:Rp.sz UInt8=1:=rfl
  rw[Y,Nat.mul_one]at T
  rw[Y,Nat.mul_one]at E
  have Z:H.loadN ⟨b,off,none⟩ l.length=some ((cs.drop off).take l.length):=by unfold Heap.loadN;simp only[g1,bR,bW,bz];rw[T,a0M];rfl
  simp only[Z,mT E];rfl
theorem OS.len'{F:Fz}{a:Option Addr}{n k:Nat}{l:List α}{p:Fp}(h:OS F (.slice a n k) l p):l.length=n:=by obtain⟨E,O,e⟩:=h.shape;injection e with _ e _;exact e.symm
theorem ap_ixG{x i:Operand}{t:TypeId}{cs:Array Value}{w r:Value}(E:ρ x= .agg cs)(hi:ρ i=w)(h:aB P (Instr.index t (.agg cs) w)=some r):AP P ρ ⟨d,.index t x i,ty,pos,af,gd⟩ H (.val r,H):=by refine⟨?_⟩;show l6 P t (ρ x) (ρ i) H=_;rw[E,hi];show lift P (Instr.index t (.agg cs) w) H=_;unfold lift;rw[h]
end
theorem u8_of{n:Nat}(h:n<256):(n:Int)=((UInt8.ofNat n).toNat:Int):=by rw[UInt8.toNat_ofNat'];omega
theorem u8r{n:Nat}(h:n<256):[Value.int .u8 (n:Int)]=[.int .u8 ((UInt8.ofNat n).toNat:Int)]:=by rw[←u8_of h]
theorem natsub{k:IntKind}{a b:Nat}(h:b<=a)(E:k.wrap ((a-b:Nat):Int)=((a-b:Nat):Int)):k.wrap ((a:Int)-(b:Int))=((a-b:Nat):Int):=by rw[←Int.ofNat_sub h];exact E
section
variable {α:Type} [Rp α] {P:Program} {ρ:Operand->Value} {d:Option Tmp} {ty:TypeId} {pos:String} {af:Array Edge} {gd:Option (Nat×Bool)} {B:Base} {F:Fz} {H:Heap} {L R:List Fp} {v:Value} {l:List α} {p:Fp} {t e:TypeId} {x:Operand} {i j q:Nat}
theorem ap_slSd{s:List UInt8}{lo:Option Operand}(U:ρ x= .string ⟨⟨s⟩⟩)(T:P.underlying t=some .string)(O:cM 0 (lo.map ρ)=some i)(E:i<=s.length):
  AP P ρ ⟨d,.slice t x lo none none,ty,pos,af,gd⟩ H (.val (.string ⟨⟨s.drop i⟩⟩),H):=by
 have:=ap_slS (d:=d) (ty:=ty) (pos:=pos) (af:=af) (gd:=gd) (H:=H) (lo:=lo) (hi:=none) U T optN0 O E (a07 _)
 rwa [a0D (by simp)]at this
theorem rs_cutd{lo:Option Operand}(h:SR F v l)(hs:HS B F H L R)(U:ρ x=v)(T:P.underlying t=some (.slice e))(Y:dV P e=some (Rp.sz α))(O:cM 0 (lo.map ρ)=some i)(E:i<=l.length):
  ∃r:Rs,AP P ρ ⟨d,.slice t x lo none none,ty,pos,af,gd⟩ H (.val r.v,r.H)/\(∃a k,r.v= .slice a (l.drop i).length k/\r.H=H/\SR F (.slice a (l.drop i).length k) (l.drop i)):=by
 have:=rs_cut (d:=d) (ty:=ty) (pos:=pos) (af:=af) (gd:=gd) (hi:=none) h hs U T Y optN0 O E (a07 _)
 rwa [a0D (a07 _)]at this
theorem rs_cutt{hi:Option Operand}(h:SR F v l)(hs:HS B F H L R)(U:ρ x=v)(T:P.underlying t=some (.slice e))(Y:dV P e=some (Rp.sz α))(E:cM l.length (hi.map ρ)=some j)(O:j<=l.length):
  ∃r:Rs,AP P ρ ⟨d,.slice t x none hi none,ty,pos,af,gd⟩ H (.val r.v,r.H)/\(∃a k,r.v= .slice a (l.take j).length k/\r.H=H/\SR F (.slice a (l.take j).length k) (l.take j)):=by
 have:=rs_cut (d:=d) (ty:=ty) (pos:=pos) (af:=af) (gd:=gd) (lo:=none) h hs U T Y E optN0 (a0l _) O
 rwa [a0U]at this
end
end Go.R
end
noncomputable section
namespace Go.R
def lC(P:Program):List Field->Option (List (Nat×Nat))
 | []=>some []
 |f::fs=>match dV P f.type with
  |some n=>match lC P fs with
   |some l=>some ((f.offset,n)::l)
   |none=>none
  |none=>none
def fillL(E:Nat->Option (Nat×Nat)):List Value->List (Nat×Value)->Option (List Value)
 |cs,[]=>some cs
 |cs,(i,v)::r=>match E i with
  |some (off,n)=>bif Nat.beq (fE v.cells.toList) n&&Nat.ble (off+fE v.cells.toList) (fE cs) then fcL (bx cs off v.cells.toList) fun cs=>fillL E cs r else none
  |none=>none
def bldL(P:Program)(t:TypeId)(ps:List (Nat×Value)):Option (List Value):=match P.underlying t with
 |some (.struct fs)=>match dr P t with
  |some z=>match lC P fs.toList with
   |some pl=>fillL (nth pl) z ps
   |none=>none
  |none=>none
 |_=>none
theorem lq: ∀(l:List Value) (s off:Nat) (A:List Value),off+s+l.length<=A.length->((l.zipIdx s).foldl (fun(cs:Array Value) p=>cs.setIfInBounds (off+p.2) p.1) ⟨A⟩)=⟨bx A (off+s) l⟩
 | [],s,off,A,h=>by
  have:bx A (off+s) []=A:=by rw[splice_eq A [] (off+s) h];simp
  rw[this];rfl
 |v::l,s,off,A,h=>by
  rw[List.zipIdx_cons,List.foldl_cons];show((l.zipIdx (s+1)).foldl (fun(cs:Array Value) p=>cs.setIfInBounds (off+p.2) p.1) ((⟨A⟩:Array Value).setIfInBounds (off+s) v))=_;rw[show(⟨A⟩:Array Value).setIfInBounds (off+s) v=⟨A.set (off+s) v⟩ from by rw[←a0P,Array.toList_setIfInBounds]];simp only[a02]at h;rw[lq l (s+1) off _ (by rw[a17];omega),←a0P];show bx (A.set (off+s) v) (off+(s+1)) l=bx A (off+s) (v::l);apply a1w;intro i;rw[bF _ _ _ i (by rw[a17];omega),bF _ _ _ i (by simp only[a02];omega)];simp only[a02,List.getElem?_set];by_cases E:i=off+s
  ·subst E;rw[if_neg M,if_pos V,if_pos M,if_pos M,a1U,List.getElem?_cons_zero]
  rw[if_neg (show ¬off+s=i from fun e=>E e.symm)];by_cases O:off+(s+1)<=i/\i<off+(s+1)+l.length
  ·rw[if_pos O,if_pos M,show i-(off+s)=(i-(off+(s+1)))+1 by omega,a1n]
  rw[if_neg O,if_neg M]
theorem nD(E:Nat->Option (Nat×Nat)): ∀(ps:List (Nat×Value)) (cs r:List Value),fillL E cs ps=some r->Instr.fill E ⟨cs⟩ ps=some ⟨r⟩
 | [],cs,r,h=>by simp only[fillL,a01]at h;subst h;rfl
 |(i,v)::ps,cs,r,h=>by
  unfold fillL at h;split at h
  ·rename_i off n e;cases hb:(Nat.beq (fE v.cells.toList) n&&Nat.ble (off+fE v.cells.toList) (fE cs)) with
   |false=>rw[hb]at h;cases h
   |true=>
    rw[hb]at h
    simp only[cond_true,mH]at h
    rw[a03]at hb
    have T:=a06 hb.1
    have O:=a0b hb.2
    rw[bz]at T O
    rw[bz]at O
    unfold Instr.fill
    simp only[e]
    rw[if_neg (by
     simp only[a0C,decide_eq_true_eq,not_or];show ¬(v.cells.size≠n)/\¬(off+v.cells.size>cs.length);rw[←a1z];omega)]
    have:=nD E ps _ _ h
    rw[←this]
    congr 1
    rw[←Array.foldl_toList,Array.toList_zipIdx]
    have:=lq v.cells.toList 0 off cs M
    exact this
  cases h
theorem places_ok{P:Program}: ∀{fs:List Field} {pl:List (Nat×Nat)},lC P fs=some pl->aB P (fs.mapM (m:=Sem) fun f=>do Pure.pure (f.offset,←sizeOf f.type))=some pl
 | [],pl,h=>by simp only[lC,a01]at h;subst h;rfl
 |f::fs,pl,h=>by
  unfold lC at h;split at h
  ·rename_i n e;split at h
   ·rename_i l E;simp only[a01]at h;subst h;rw[List.mapM_cons];simp only[aH,cY,e,a0j,bG,places_ok E]
   cases h
  cases h
theorem bldL_ok{P:Program}{t:TypeId}{ps:Array (Nat×Value)}{cs:List Value}(h:bldL P t ps.toList=some cs):aB P (Instr.build t ps)=some (.agg ⟨cs⟩):=by
 unfold bldL at h;split at h
 ·rename_i fs Z;split at h
  ·rename_i z E;split at h
   ·rename_i T e3;have hz: ∃v,aB P (zeroValue t)=some v/\v.cells.toList=z:=by
     unfold dr at E;split at E
     ·rename_i i hi;split at E
      ·rename_i v O;refine⟨v,?_,?_⟩
       ·unfold zeroValue;simp only[aH,dw,hi,a0j,O];rfl
       cases U:v.cells.toList.all dx with
       |true=>rw[U]at E;simpa using E
       |false=>rw[U]at E;cases E
      cases E
     cases E
    obtain⟨v,O,Y⟩:=hz;unfold Instr.build;simp only[aH,O,a0j,bC,Z];rw[Array.mapM_eq_mapM_toList];simp only[←bind_pure_comp,aH,places_ok e3,a0j,bG];have:=nD (nth T) ps.toList z cs h;rw[show nth T=fun i=>T.toArray[i]? from funext fun i=>by rw[gE,List.getElem?_toArray]]at this;rw[show v.cells=⟨z⟩ from by rw[←Y]];simp only[this];rfl
   cases h
  cases h
 cases h
end Go.R
end
noncomputable section
namespace Go.R
theorem u64_eq(n:Int):IntKind.u64.wrap n=n%18446744073709551616:=rfl
abbrev bv(n:Int):BitVec 64:=BitVec.ofInt 64 n
end Go.R
end
noncomputable section
namespace Go.R
def decD(d:Nat):UInt8:=UInt8.ofNat (48+d)
def dec(n:Nat):List UInt8:=if n<10 then [decD n] else dec (n/10)++[decD (n%10)]
def fy(c:UInt8):Bool:=decide (48<=c.toNat)&&decide (c.toNat<=57)
def valA(n:Nat)(c:UInt8):Nat:=10 *n+(c.toNat-48)
def val(l:List UInt8):Nat:=l.foldl valA 0
def iN(t:List UInt8):Bool:=decide (1<=t.length)&&decide (t.length<=19)&&t.all fy&&(t.headD 0 !=48||t.length==1)
def dF(s:List UInt8)(most:Nat):Option Nat:=if iN s=true/\val s<=most then some (val s) else none
def aQ(s:List UInt8):Option Int:=
 if s.headD 0=45 then(match dF s.tail 9223372036854775808 with
  |some 0=>none
  |some n=>some (-(n:Int))
  |none=>none)
 else(match dF s 9223372036854775807 with
  |some n=>some (n:Int)
  |none=>none)
def gI(n:Int):List UInt8:=if n<0 then 45::dec n.natAbs else dec n.toNat
theorem lR{n:Nat}(h:n<10):dec n=[decD n]:=by rw[dec,if_pos h]
theorem dec_big{n:Nat}(h: ¬n<10):dec n=dec (n/10)++[decD (n%10)]:=by rw[dec,if_neg h]
theorem dec_len(k:Nat): ∀n,n<10^(k+1)->(dec n).length<=k+1:=by
 induction k with
 |zero=>intro n h;rw[lR M];simp
 |succ k ih=>
  intro n h
  by_cases E:n<10
  ·rw[lR E];simp
  rw[dec_big E,a00]
  have:=ih (n/10) (by rw[a1H]at h;omega)
  simp;omega
theorem val_append(l:List UInt8)(c:UInt8):val (l++[c])=10 *val l+(c.toNat-48):=by unfold val;rw[List.foldl_append];rfl
theorem kK{s:List UInt8}{i:Nat}(h:i<s.length):val (s.take (i+1))=10 *val (s.take i)+((s.getD i 0).toNat-48):=by
 have:s.take (i+1)=s.take i++[s.getD i 0]:=by rw[a1F,a08,a09 h];rfl
 rw[this,val_append]
theorem gB{p:UInt8->Bool}{s:List UInt8}{i:Nat}(h:i<s.length):(s.take (i+1)).all p=((s.take i).all p&&p (s.getD i 0)):=by
 have:s.take (i+1)=s.take i++[s.getD i 0]:=by rw[a1F,a08,a09 h];rfl
 rw[this,List.all_append];simp
theorem val_lt{s:List UInt8}: ∀i,i<=s.length->(s.take i).all fy=true->val (s.take i)<10^i:=by
 intro i;induction i with
 |zero=>intro _ _;rw[List.take_zero];decide
 |succ i ih=>
  intro h hd
  rw[gB M,a03]at hd
  have O:=ih M hd.1
  have E:=hd.2
  simp only[fy,a03,decide_eq_true_eq]at E
  rw[kK M,a1H]
  omega
end Go.R
end
noncomputable section
namespace Go.R
open Go.RowKit Go.WideShapes Go.ChangeShapes
structure Em(w:World)(μ:Emb)(H:Heap):Prop where
 rel:WRel μ H w
 ro: ∀b o,H.get b=some o->o.rw=false
 wf:WF H
 dom: ∀b,H.next<=b->μ b=none
 log:H.log=[]
theorem Em.empty(w:World):Em w (fun _=>none) Heap.empty:=
 ⟨⟨fun b l o h=>by simp at h,fun E O l1 T U Y _ h=>by simp at h⟩,fun b o h=>(by cases h),fun b _=>rfl,fun b _=>rfl,V⟩
section
variable {w:World} {μ:Emb} {H:Heap}
theorem Em.lt(h:Em w μ H){b:Nat}{o:AObj}(hb:H.get b=some o):b<H.next:=by
 rcases a0c b H.next with h1|h1
 ·exact h1
 rw[h.wf b h1]at hb;cases hb
theorem Em.add(h:Em w μ H){c sh:Nat}{cs:List Value}(hc:c<w.heap.size)(O: ∀(i:Nat) v,cs[i]?=some v->∃v',w.cell? ⟨c,sh+i,none⟩=some v'/\VRel μ v v'):
  Em w (μ.set H.next ⟨c,sh,none,0⟩) (H.push (.cells cs none true)):=by
 have T:=Emb.set_ext (μ:=μ) (b:=H.next) ⟨c,sh,none,0⟩ (h.dom _ (a07 _))
 have U: ∀b o,(H.push (.cells cs none true)).get b=some o->(b=H.next/\o= .cells cs none true)\/(b≠H.next/\H.get b=some o):=by
  intro b o hb;by_cases e:b=H.next
  ·subst e;rw[Heap.get_push_same]at hb;exact .inl ⟨V,(Option.some.inj hb).symm⟩
  rw[Heap.get_push_ne _ _ (Ne.symm e)]at hb;exact .inr ⟨e,hb⟩
 have Y: ∀b o,(H.push (.cells cs none true)).get b=some o->o.rw=false:=by
  intro b o hb;rcases U b o hb with⟨_,rfl⟩|⟨_,Z⟩
  ·rfl
  exact h.ro b o Z
 refine⟨⟨fun b l o hb ho=>?_,fun b1 b2 l1 l2 o1 o2 _ _ _ h3 _ h5 _=>?_⟩,Y,fun b hb=>?_,fun b hb=>?_,h.log⟩
 ·rcases U b o ho with⟨rfl,rfl⟩|⟨an,ar⟩
  ·rw[Emb.set_same]at hb;obtain rfl:=Option.some.inj hb;refine⟨V,V,hc,fun i v hv=>?_⟩;obtain⟨v',Z,h2⟩:=O i v hv;exact⟨v',Z,h2.mono T⟩
  rcases Emb.set_inv hb with⟨e,_⟩|⟨_,E⟩
  ·exact absurd e an
  exact(h.rel.obj b l o E ar).keep T (a07 _) (fun _=>rfl)
 ·rw[Y b1 o1 h3]at h5;cases h5
 ·have E:H.next+1<=b:=hb;rw[Heap.get_push_ne _ _ M];exact h.wf b M
 have E:H.next+1<=b:=hb
 unfold Emb.set
 rw[if_neg M];exact h.dom b M
theorem Em.hs(h:Em w μ H):HS (.of H []) H.get H [] []:=
 ⟨fun b o hb=>⟨hb,h.lt hb⟩,fun p E=>by simp at E,by simp,a07 _,fun b hb=> .inl hb,fun p E=>by simp at E⟩
theorem walk_of_Em{P:Program}{K:bM}(Y:hZ P 0 K)(h:Em w μ H){f:FuncId}{args:List Value}{E:Array Value}(ha:LRel μ args E.toList)(hc:C P 0 K f args H fun v _=>v= .bool true):
  Calls P f E w fun e w'=>e= .returned (.bool true)/\Below w.heap.size w w':=by
 obtain⟨n,v,H',U,rfl⟩:=hc.out
 obtain⟨_,O⟩:=call_ok (G:=0) Y n f args H (.bool true) H' U h.wf
 refine(O μ w E ha (fun g hg=>by omega) h.rel (fun b hb _=>h.dom b hb)).mono ?_
 rintro e w' ⟨μ',v',rfl,hr,hp⟩
 rw[hr.eq2 rfl]
 exact⟨V,hp.os,hp.tape,hp.out,hp.grow,fun k Z=>hp.keep k Z fun b l x _ hx T=>by rw[h.ro b x hx]at T;cases T⟩
end
structure EmLe(μ:Emb)(H:Heap)(μ':Emb)(H':Heap):Prop where
 emb: ∀b l,μ b=some l->μ' b=some l
 heap:Fz.le H.get H'.get
theorem EmLe.refl(μ:Emb)(H:Heap):EmLe μ H μ H:=⟨fun _ _ h=>h,fun _ _ h=>h⟩
theorem EmLe.add{w:World}{μ:Emb}{H:Heap}(h:Em w μ H)(l:Loc)(o:AObj):EmLe μ H (μ.set H.next l) (H.push o):=
 ⟨Emb.set_ext l (h.dom _ (a07 _)),fun b x hb=>by rw[Heap.get_push_ne _ _ (Nat.ne_of_gt (h.lt hb))];exact hb⟩
section
variable {c_:Type} {enc:TypeId×Value->c_} {P:Program} {w:World} {μ:Emb} {H:Heap}
theorem wf_in64{n:Int}(h:(Lit.int .i64 n).wf=true):in64 n:=by simp[Lit.wf,IntKind.min,IntKind.max,IntKind.signed,IntKind.bits]at h;exact⟨by omega,by omega⟩
theorem RL_ints{F:Fz}: ∀(l:List Int),(∀n∈l,in64 n)->RL F (l.map fun n=>Value.int .i64 n) l
 | [],_=>rfl
 |n::l,h=>⟨[.int .i64 n],l.map fun n=>Value.int .i64 n,V,⟨V,h n (by simp)⟩,RL_ints l fun m E=>h m (by simp[E])⟩
theorem em_ints{base:Nat}{t e:TypeId}{v:Value}{d:DataW c_}{ps:List MemPlace}(h:Em w μ H)(Z:P.underlying t=some (.slice e))(he:P.underlying e=some (.int .i64))(hc:P.cellsOf e=1)(ar:Value.okWide P w .any base t v)
  (hd:DataW.Trod enc P w 0 (fun _=>true) true t v d ps):
  ∃μ' H' a k,∃l:List Int,Em w μ' H'/\EmLe μ H μ' H'/\VRel μ' (.slice a l.length k) v/\SR H'.get (.slice a l.length k) l/\(l.length<=maxLen)/\(∃a6,d= .slice (Go.ChangeShapes.lits .i64 l) a6\/d= .nil/\l=[]):=by
 obtain⟨a,len,U,rfl⟩:=okWide_slice Z ar
 obtain⟨fuel,hf⟩:=hd
 rcases Go.ChangeShapes.open_ints Z he hc hf with⟨Y,T⟩|⟨a',len',b0,E,Y,_,a9,b6,a4,T,a0,bl⟩
 ·simp[Value.cells]at Y;obtain⟨rfl,rfl,rfl⟩:=Y;simp only[a04]at T;exact⟨μ,H,none,0,[],h,.refl _ _,.atom _ V,.nil,a0l _,[],.inr ⟨T.1,V⟩⟩
 simp[Value.cells]at Y
 obtain⟨rfl,rfl,rfl⟩:=Y
 have ba:a'.spot=none/\a'.block<w.heap.size:=by
  have an:Cell.ok P w .any base t (.slice (some a') len U):=by have:=ar;unfold Value.okWide at this;rw[Z]at this;simp only at this;unfold Cell.okWide at this;rw[Z]at this;exact this
  unfold Cell.ok at an;rw[Z]at an;obtain⟨_,_,_,bb,b7,cells,hs,_⟩:=an;refine⟨bb,?_⟩;unfold World.shape? at hs;split at hs
  ·rename_i a8;exact(a0I.1 a8).1
  cases hs
 obtain⟨c,off,sp⟩:=a'
 obtain⟨rfl,a7⟩:=ba
 simp only[if_true]at a4
 have a3: ∀n∈E.take len,in64 n:=fun n hn=>wf_in64 (bl n (List.mem_of_mem_take hn))
 have hl:(E.take len).length=len:=by rw[a0d];omega
 have hA:=h.add (c:=c) (sh:=off) (cs:=(E.take len).map fun n=>Value.int .i64 n) a7 (fun i v hv=>by
  rw[a1E]at hv;cases O:(E.take len)[i]? with
  |none=>rw[O]at hv;cases hv
  |some n=>
   rw[O]at hv
   obtain rfl:=Option.some.inj hv
   have hi:=(a0r.1 O).1
   have a2:=a0 i (by rw[hl]at hi;omega)
   have hn:E.getD i 0=n:=by
    rw[a0x]at O;split at O
    ·rw[a08,O];rfl
    cases O
   refine⟨_,?_,.atom _ V⟩
   rw[hn]at a2
   rw[←a2]
   congr 1
   unfold Addr.add
   split
   ·rename_i h0;subst h0;rfl
   rfl)
 refine⟨_,_,some ⟨H.next,0,none⟩,U,E.take len,hA,.add h _ _,?_,?_,by rw[hl];omega,E.drop len|>Go.ChangeShapes.lits .i64,.inl ?_⟩
 ·rw[hl];have:=VRel.sliceC (μ:=μ.set H.next ⟨c,off,none,0⟩) H.next 0 len U ⟨c,off,none,0⟩ (Emb.set_same _ _ _) V;simpa using this
 ·refine .inr ⟨H.next,0,U,_,V,Heap.get_push_same _ _,_,none,true,V,fun T=>(by cases T),(by rw[hl];exact a9),?_,.inl V⟩;have e1:((E.take len).map fun n=>Value.int .i64 n).length=(E.take len).length *Rp.sz Int:=by rw[List.length_map];show _=_ *1;omega
  rw[a0U,←e1,a1e];exact RL_ints _ a3
 simp only[a04]at T
 exact T.1
end
section
variable {c_:Type} {enc:TypeId×Value->c_} {P:Program}
theorem jA{w w':World}{base:Nat}{E:Nat->Bool}{held:Bool}: ∀{ts:List TypeId} {vs:List Value} {ds:List (DataW c_)} {ps:List MemPlace},DataW.TrodAll enc P w base E held ts vs ds ps->(∀p∈ps,w.sameAt w' p)->DataW.TrodAll enc P w' base E held ts vs ds ps
 | [],[],[],_,h,_=>h
 |_::_,_::_,_::_,_,⟨p,q,⟨n,h1⟩,h2,e⟩,hs=>⟨p,q,⟨n,DataW.trod_carry n _ _ _ h1 fun x O=>hs x (by rw[e];exact List.mem_append_left _ O)⟩,jA h2 fun x O=>hs x (by rw[e];exact List.mem_append_right _ O),e⟩
theorem post_law{f:Func}{s:ChangeSpec}{T an U al:Bool}{W W':World}{args:Array Value}{ds gs:List (DataW c_)}{O:List MemPlace}{tb:TypeId}
  (K:Kids P (· <P.types.size)) (a1: ∀t e,t<P.types.size->P.underlying t=some (.slice e)->0<P.cellsOf e) (a4: ∀t∈f.params.toList,t<P.types.size)
  (hW:DataW.Whole enc P f.params.toList s.vars T W args.toList ds gs O) (Z:s.vars=[]) (E:f.resultTypes= #[tb]) (ax:P.underlying tb=some .bool)
  (Y:s.fn c_ (ds++gs)={results:=[.lit (.bool true)],args:=ds}) (hb:Below W.heap.size W W'):s.post enc P f T an U al W args (.bool true) W':=by
 have a8: ∀p∈O,p.block<W.heap.size:=fun p hp=>by simpa using hW.lt p hp
 have a7:=hW
 obtain⟨p,q,hA,hV,rfl,b3,b4⟩:=hW
 have hq:q=[]/\gs=[]:=by
  rw[Z]at hV;cases gs with
  |nil=>exact⟨hV,V⟩
  |cons _ _=>exact absurd hV id
 obtain⟨rfl,rfl⟩:=hq
 refine ni (pa:=p) (pv:=[]) a7 (fun b sp hd=>?_) (fun sp a9=>?_) (fun sp _=>?_) V hb ?_
 ·rw[Y,E];exact trodAll_cons_mk (shut_bool ax true) V
 ·rw[Y];refine DataW.TrodAll.respare K a1 a4 (jA hA fun x hx=>hb.same (a8 x (by simpa using hx))) fun x hx=>a9 x (by simpa using hx)
 ·rw[Z,Y];rfl
 rw[E]
 intro j t r h1 h2
 exact ok_one (f:=f) E V (okWide_bool_mk ax true) j t r (by rw[E];exact h1) (by rw[E];exact h2)
end
end Go.R
end
noncomputable section
namespace Go.R
open Go
section
variable {P:Program} {d:Nat} {t:TypeId}
theorem eqI{k:IntKind}{a b:Int}(E:P.underlying t=some (.int k)):aB P (Op.equalIn (d+1) t (.int k a) (.int k b))=some (a==b):=by simp[Op.equalIn,underlying,E]
theorem eqS{a b:ByteArray}(E:P.underlying t=some .string):aB P (Op.equalIn (d+1) t (.string a) (.string b))=some (a==b):=by simp[Op.equalIn,underlying,E]
theorem eqL{a b:List UInt8}(E:P.underlying t=some .string):aB P (Op.equalIn (d+1) t (.string ⟨⟨a⟩⟩) (.string ⟨⟨b⟩⟩))=some (a==b):=by
 rw[eqS E];congr 1;show((⟨a⟩:Array UInt8)==⟨b⟩)=_;rw[a0G,beq_iff_eq,beq_iff_eq];constructor
 ·intro h;injection h
 intro h;rw[h]
theorem eqB{a b:Bool}(E:P.underlying t=some .bool):aB P (Op.equalIn (d+1) t (.bool a) (.bool b))=some (a==b):=by simp[Op.equalIn,underlying,E]
structure EqF(P:Program)(d:Nat)(xs ys:Array Value)(f:Field)(b:Bool):Prop where
 named:f.name≠ "_"
 ok: ∃u v,aB P (part f.type xs f.offset)=some u/\aB P (part f.type ys f.offset)=some v/\aB P (Op.equalIn d f.type u v)=some b
inductive EqFs(P:Program)(d:Nat)(xs ys:Array Value):List Field->List Bool->Prop
 |nil:EqFs P d xs ys [] []
 |cons {f b fs bs}:EqF P d xs ys f b->EqFs P d xs ys fs bs->EqFs P d xs ys (f::fs) (b::bs)
def eqLoop(d:Nat)(xs ys:Array Value)(fs:List Field):Sem (Option Bool×Unit):=
 forIn fs ((none:Option Bool),()) fun f (_:Option Bool×Unit)=>
  if f.name≠ "_" then do
   if !(←Op.equalIn d f.type (←part f.type xs f.offset) (←part f.type ys f.offset)) then pure (ForInStep.done (some false,()))
   else pure (ForInStep.yield (none,()))
  else pure (ForInStep.yield (none,()))
theorem eq_loop{xs ys:Array Value}{fs:List Field}{bs:List Bool}(h:EqFs P d xs ys fs bs):
  aB P (eqLoop d xs ys fs)=some (if bs.all id=true then none else some false,()):=by
 induction h with
 |nil=>simp[eqLoop]
 | @cons f b fs bs hf _ ih=>
  obtain⟨U,u,v,E,O,T⟩:=hf
  unfold eqLoop at ih⊢
  rw[List.forIn_cons,if_pos U]
  simp only[aH,E,O,T,a0j]
  cases b
  ·simp
  simp only[a1p,a0k,if_false,bG,a0j,ih]
  simp
theorem eq_struct{fs:Array Field}{xs ys:Array Value}{bs:List Bool}(E:P.underlying t=some (.struct fs))(hs:P.stoodInHeld t=false)
  (h:EqFs P d xs ys fs.toList bs):aB P (Op.equalIn (d+1) t (.agg xs) (.agg ys))=some (bs.all id):=by
 simp only[Op.equalIn,underlying,aH,fe,a0j,E,bG,hs,a0k,if_false]
 rw[←Array.forIn_toList]
 have:=eq_loop h
 unfold eqLoop at this
 rw[this]
 cases bs.all id<;>rfl
end
section
variable {P:Program} {ρ:Operand->Value} {d:Option Tmp} {ty:TypeId} {pos:String} {af:Array Edge} {gd:Option (Nat×Bool)} {H:Heap}
theorem noA_cells{cs:List Value}(h:cs.all dx=true):jM (.agg ⟨cs⟩)=true:=h
end
end Go.R
end
noncomputable section
namespace Go.R
open Go.RowKit
def tcell(n:Nat):AObj:= .cells [.slice (some ⟨1,0,none⟩) n n] none true
open Classical in
def KT(E ex n:Nat)(cells:List Value):bM:=fun f args H=>match args with
 | []=>bif (Nat.ble f E&&Nat.beq f ex) then(if H.get 0=some (tcell n)/\H.get 1=some (.cells cells none true) then some (.bool true) else none) else none
 |_=>none
structure TB(n:Nat)(cells:List Value)(F:Fz):Prop where
 at0:F 0=some (tcell n)
 at1:F 1=some (.cells cells none true)
section
variable {n:Nat} {cells:List Value} {F F':Fz}
end
end Go.R
end
noncomputable section
set_option linter.unusedVariables false
set_option linter.unusedSimpArgs false
namespace Go.R
inductive Hint where
 |p
 |w
 |e (n:Int)
 |o (v:Value)
 |r (q:Nat)
abbrev Ch:=List (Nat×Bool)
def bq:Bool->Bool->Bool
 |true,b=>b
 |false,b=> !b
theorem bq_eq{a b:Bool}(h:bq a b=true):a=b:=by cases a<;>cases b<;>first|rfl|cases h
def gl:List (Nat×Bool)->Nat->Option Bool
 | [],_=>none
 |(s,g)::G,t=>bif Nat.beq s t then some g else gl G t
def act(G:List (Nat×Bool)):Ch->Bool
 | []=>true
 |(s,w)::c=>(match gl G s with|some g=>bq g w|none=>false)&&act G c
def memC(s:Nat)(w:Bool):Ch->Bool
 | []=>false
 |(s',w')::c=>(Nat.beq s' s&&bq w' w)||memC s w c
def subC:Ch->Ch->Bool
 | [],_=>true
 |(s,w)::a,c=>memC s w c&&subC a c
def lk:List (Nat×Ch×Value)->Nat->Option (Ch×Value)
 | [],_=>none
 |(s,x)::m,t=>bif Nat.beq s t then some x else lk m t
structure SS where
 m:List (Nat×Ch×Value)
 G:List (Nat×Bool)
def SS.rd(S:SS)(f:Fn):Operand->Value
 | .tmp t=>match lk S.m t with
  |some x=>x.2
  |none=>f t
 | .const v=>v
 | .global g=> .pointer (some ⟨g,0,none⟩)
 | .func i=> .func (.func i) #[] #[]
def SS.can(S:SS)(c:Ch):Operand->Bool
 | .tmp t=>match lk S.m t with
  |some x=>subC x.1 c
  |none=>true
 |_=>true
def impl(G:List (Nat×Bool)):Ch->Prop->Prop
 | [],p=>p
 |(s,w)::c,p=>match gl G s with
  |some g=>g=w->impl G c p
  |none=>True
def kZ(G:List (Nat×Bool))(s:Nat)(g:Bool):List (Nat×Bool):=match gl G s with
 |some _=>G
 |none=>(s,g)::G
def fX:Option Prop->Prop
 |none=>True
 |some p=>p
def andO(q:Option Prop)(p:Prop):Prop:=match q with
 |none=>p
 |some q=>q/\p
def rng(k:IntKind)(n:Int):Prop:=match k with
 | .i64=> -9223372036854775808<=n/\n<9223372036854775808
 | .u64=>0<=n/\n<18446744073709551616
 | .u8=>0<=n/\n<256
 |k=>k.wrap n=n
theorem rng_wrap{k:IntKind}{n:Int}(h:rng k n):k.wrap n=n:=by
 cases k with
 |i64=>exact gM h
 |u64=>exact gL h
 |u8=>exact w_u8 h
 |_=>exact h
def kq:IntKind->IntKind->Bool
 | .i64,.i64=>true
 | .u64,.u64=>true
 | .u8,.u8=>true
 | .i32,.i32=>true
 | .u32,.u32=>true
 |_,_=>false
theorem kq_eq{k E:IntKind}(h:kq k E=true):E=k:=by cases k<;>cases E<;>first|rfl|cases h
abbrev VP:=Option (Value×Option Prop)
def ari(h:Hint)(k:IntKind)(n:Int):VP:=match h with
 | .w=>some (.int k (k.wrap n),none)
 | .e m=>some (.int k m,some (n=m/\rng k m))
 |_=>some (.int k n,some (rng k n))
def bi(h:Hint)(k:IntKind)(n:Int):VP:=match h with
 | .e m=>some (.int k m,some (n=m))
 |_=>some (.int k n,none)
def withP(p:Prop):VP->VP
 |some (v,none)=>some (v,some p)
 |some (v,some q)=>some (v,some (p/\q))
 |none=>none
def pint(h:Hint)(op:BinOp)(k:IntKind)(x y:Int):VP:=match op with
 | .add=>ari h k (x+y)
 | .sub=>ari h k (x-y)
 | .mul=>ari h k (x *y)
 | .quo=>withP (y≠0) (ari h k (x.tdiv y))
 | .rem=>withP (y≠0) (bi h k (x.tmod y))
 | .and=>bi h k (dO .and k x y)
 | .or=>bi h k (dO .or k x y)
 | .xor=>bi h k (dO .xor k x y)
 | .andNot=>bi h k (dO .andNot k x y)
 | .eql=>some (.bool (x==y),none)
 | .neq=>some (.bool (x !=y),none)
 | .lss=>some (.bool (decide (x<y)),none)
 | .leq=>some (.bool (decide (x<=y)),none)
 | .gtr=>some (.bool (decide (y<x)),none)
 | .geq=>some (.bool (decide (y<=x)),none)
 |_=>none
def AGB(P:Program)(op:BinOp)(t:TypeId)(a b v:Value):Prop:= ∀(ρ:Operand->Value) (x y:Operand) (yt:TypeId) (d:Option Tmp) (ty:TypeId) (pos:String) (af:Array Edge) (gd:Option (Nat×Bool)) (H:Heap),ρ x=a->ρ y=b->AP P ρ ⟨d,.binOp op t x y yt,ty,pos,af,gd⟩ H (.val v,H)
def isBT(P:Program)(t:TypeId):Bool:=match P.underlying t with
 |some .bool=> !P.eqGuardType P.depth t
 |_=>false
def pbin(P:Program)(h:Hint)(op:BinOp)(t:TypeId)(a b:Value):VP:=match a,b with
 | .int k x,.int k' y=>match op with
  | .shl=>withP (0<=y) (bi h k (k.wrap (x *2^(Nat.min y.toNat k.bits))))
  | .shr=>withP (0<=y) (bi h k (x.fdiv (2^(Nat.min y.toNat k.bits))))
  |op=>bif kq k k' then pint h op k x y else none
 | .string ⟨⟨x⟩⟩,.string ⟨⟨y⟩⟩=>match op with
  | .eql=>some (.bool (x==y),none)
  | .neq=>some (.bool (x !=y),none)
  | .lss=>some (.bool (Op.bytesLess x y),none)
  | .leq=>some (.bool (Op.bytesLess x y||x==y),none)
  | .add=>some (.string ⟨⟨x++y⟩⟩,some (x.length+y.length<=1099511627776))
  |_=>none
 | .bool x,.bool y=>bif isBT P t then match op with
  | .eql=>some (.bool (x==y),none)
  | .neq=>some (.bool (x !=y),none)
  |_=>none else none
 | .agg x,.agg y=>match h with
  | .o v=>some (v,some (AGB P op t (.agg x) (.agg y) v))
  |_=>none
 | .pointer a,.pointer b=>match nilEq P t (.pointer a) (.pointer b),op with
  |some r,.eql=>some (.bool r,none)
  |some r,.neq=>some (.bool (!r),none)
  |_,_=>none
 | .slice a n k,.slice b n' k'=>match nilEq P t (.slice a n k) (.slice b n' k'),op with
  |some r,.eql=>some (.bool r,none)
  |some r,.neq=>some (.bool (!r),none)
  |_,_=>none
 |_,_=>none
def pun(h:Hint)(op:UnOp)(v:Value):VP:=match op,v with
 | .not,.bool b=>some (.bool (!b),none)
 | .neg,.int k n=>ari h k (0-n)
 | .xor,.int k n=>bi h k (bits .xor k (if k.signed then-1 else k.max) n)
 |_,_=>none
structure FW where
 ld:TypeId->Value->Value->Prop
 cl:FuncId->List Value->Value->Prop
 cv:TypeId->TypeId->Option Addr->Nat->Value->Prop
 sl:TypeId->Value->Option Value->Option Value->Value->Prop
 lk:TypeId->Value->Value->Bool->Value->Prop
def pconv(P:Program)(W:FW)(h:Hint)(s t:TypeId)(v:Value):VP:=match v with
 | .int _ n=>match P.underlying s,P.underlying t with
  |some _,some (.int k')=>ari h k' n
  |_,_=>none
 | .slice a n k=>match h with
  | .o v=>some (v,some (W.cv s t a n v))
  |_=>none
 |_=>none
def ppick(g:Bool)(a b:Value):Option Value:=match a,b with
 | .bool x,.bool y=>some (.bool (bif g then x else y))
 | .int k x,.int k' y=>bif kq k k' then some (.int k (bif g then x else y)) else none
 | .string x,.string y=>some (.string ⟨⟨bif g then x.data.toList else y.data.toList⟩⟩)
 |_,_=>none
def LDv(P:Program)(H:Heap)(t:TypeId)(a w:Value):Prop:=eI P t a H=some (.val w,H)
def IX(v:Value)(j:Int):Prop:= ∃b o n k,v= .slice (some ⟨b,o,none⟩) n k/\0<=j/\j<n/\n<=k
def pidx(P:Program)(t:TypeId)(a i:Value):VP:=match a,i with
 | .string ⟨⟨s⟩⟩,.int _ j=>match P.underlying t with
  |some .string=>some (.int .u8 ((s.getD j.toNat 0).toNat:Int),some (0<=j/\j<s.length))
  |_=>none
 | .agg x,w=>match aB P (Instr.index t (.agg x) w) with
  |some r=>some (r,none)
  |none=>none
 |_,_=>none
def pidxA(P:Program)(t:TypeId)(a i:Value):VP:=match a,i with
 | .slice x n k,.int _ j=>match P.underlying t with
  |some (.slice e)=>match dV P e with
   |some z=>some (.pointer (some ⟨sB (.slice x n k),sO (.slice x n k)+j.toNat *z,none⟩),some (IX (.slice x n k) j))
   |none=>none
  |_=>none
 | .pointer (some ⟨b,o,none⟩),.int _ j=>match P.underlying t with
  |some (.array n e)=>match dV P e with
   |some z=>some (.pointer (some ⟨b,o+j.toNat *z,none⟩),some (0<=j/\j<n))
   |none=>none
  |_=>none
 |_,_=>none
def pslice(P:Program)(W:FW)(h:Hint)(t:TypeId)(x:Value)(lo hi:Option Value):VP:=match x with
 | .string ⟨⟨s⟩⟩=>match P.underlying t with
  |some .string=>match lo,hi with
   |none,none=>some (.string ⟨⟨s⟩⟩,none)
   |some (.int _ i),none=>some (.string ⟨⟨s.drop i.toNat⟩⟩,some (0<=i/\i<=s.length))
   |none,some (.int _ j)=>some (.string ⟨⟨s.take j.toNat⟩⟩,some (0<=j/\j<=s.length))
   |some (.int _ i),some (.int _ j)=>some (.string ⟨⟨(s.drop i.toNat).take (j.toNat-i.toNat)⟩⟩,some (0<=i/\i<=j/\j<=s.length))
   |_,_=>none
  |_=>none
 |x=>match h with
  | .o v=>some (v,some (W.sl t x lo hi v))
  |_=>none
def plen(P:Program)(t:TypeId)(x:Value):VP:=match x with
 | .string ⟨⟨s⟩⟩=>match P.underlying t with
  |some .string=>some (.int .i64 (s.length:Int),none)
  |_=>none
 | .slice _ n _=>match P.underlying t with
  |some (.slice _)=>some (.int .i64 (n:Int),none)
  |_=>none
 |_=>none
def pmm(w:Bool)(a b:Value):VP:=match a,b with
 | .int k x,.int _ y=>some (.int k (bif w then(if y<x then y else x) else(if y>x then y else x)),none)
 |_,_=>none
def pcall(P:Program)(W:FW)(h:Hint)(ρ:Operand->Value)(c:Call):VP:=match c.callee with
 | .builtin .len=>match c.argTypes.toList,c.args.toList with
  | [t],[x]=>plen P t (ρ x)
  |_,_=>none
 | .builtin .min=>match c.args.toList with
  | [x,y]=>pmm true (ρ x) (ρ y)
  |_=>none
 | .builtin .max=>match c.args.toList with
  | [x,y]=>pmm false (ρ x) (ρ y)
  |_=>none
 | .value f=>match iY P (ρ f) (ec ρ c.args.toList),h with
  |some (.enter g args),.o v=>some (v,some (W.cl g args v))
  |_,_=>none
 |_=>none
def ppk(a b:Operand)(g:Bool)(x y:Value):Option Value:=match b,x with
 | .const (.bool false),.bool x=>some (.bool (g&&x))
 |_,_=>match a,y with
  | .const (.bool true),.bool y=>some (.bool (g||y))
  |_,_=>ppick g x y
def optV{α:Type}(r:Option α):Option (α×Option Prop):=match r with
 |some v=>some (v,none)
 |none=>none
def W0(P:Program)(G0:Nat)(K:bM)(H:Heap):FW:=⟨LDv P H,fun g args v=>C P G0 K g args H fun v' H'=>v'=v/\H'=H,fun s t a n v=>dh P s t a n H=some v,fun t x lo hi v=>bQ P t x lo hi none H=some v,fun t m k ok v=>hY P t m k ok H=some v⟩
def WJ(P:Program)(G0:Nat)(K:bM)(d_:Heap->Prop):FW:=⟨fun t a v=> ∀H,d_ H->LDv P H t a v,fun g args v=> ∀H,d_ H->C P G0 K g args H fun v' H'=>v'=v/\d_ H',fun s t a n v=> ∀H,d_ H->dh P s t a n H=some v,fun t x lo hi v=> ∀H,d_ H->bQ P t x lo hi none H=some v,fun t m k ok v=> ∀H,d_ H->hY P t m k ok H=some v⟩
structure FW.OK(P:Program)(G0:Nat)(K:bM)(d_:Heap->Prop)(W:FW):Prop where
 ld: ∀{t a v},W.ld t a v->∀H,d_ H->LDv P H t a v
 cl: ∀{g args v},W.cl g args v->∀H,d_ H->C P G0 K g args H fun v' H'=>v'=v/\d_ H'
 cv: ∀{s t a n v},W.cv s t a n v->∀H,d_ H->dh P s t a n H=some v
 sl: ∀{t x lo hi v},W.sl t x lo hi v->∀H,d_ H->bQ P t x lo hi none H=some v
 lk: ∀{t m k ok v},W.lk t m k ok v->∀H,d_ H->hY P t m k ok H=some v
theorem ok0{P:Program}{G0:Nat}{K:bM}{H:Heap}:(W0 P G0 K H).OK P G0 K (· =H):=⟨fun h _ e=>e▸h,fun h _ e=>e▸h,fun h _ e=>e▸h,fun h _ e=>e▸h,fun h _ e=>e▸h⟩
theorem okJ{P:Program}{G0:Nat}{K:bM}{d_:Heap->Prop}:(WJ P G0 K d_).OK P G0 K d_:=⟨fun h=>h,fun h=>h,fun h=>h,fun h=>h,fun h=>h⟩
def pop(P:Program)(W:FW)(h:Hint)(ρ:Operand->Value)(op:Op):VP:=match op with
 | .move x=>some (ρ x,none)
 | .assign x=>some (ρ x,none)
 | .binOp op t x y _=>pbin P h op t (ρ x) (ρ y)
 | .unOp op _ x=>pun h op (ρ x)
 | .convert s t x=>pconv P W h s t (ρ x)
 | .load t a=>match h with
  | .o v=>some (v,some (W.ld t (ρ a) v))
  |_=>none
 | .lookup t m x ok=>match h with
  | .o v=>some (v,some (W.lk t (ρ m) (ρ x) ok v))
  |_=>none
 | .index t x i=>pidx P t (ρ x) (ρ i)
 | .indexAddr t x i=>pidxA P t (ρ x) (ρ i)
 | .field t x f=>optV (iX P t (ρ x) f)
 | .fieldAddr s x f=>optV (jz P s (ρ x) f)
 | .extract x i=>optV (iv (ρ x) i)
 | .build t parts=>match dr P t with
  |some _=>match bldL P t (ec (fun p=>(p.1,ρ p.2)) parts.toList) with
   |some cs=>some (.agg ⟨cs⟩,none)
   |none=>optV (aB P (Instr.build t (parts.map fun p=>(p.1,ρ p.2))))
  |none=>none
 | .slice t x lo hi none=>pslice P W h t (ρ x) (lo.map ρ) (hi.map ρ)
 | .call c=>pcall P W h ρ c
 | .nilCheck x=>match ρ x with
  | .pointer (some a)=>some (.pointer (some a),none)
  | .func (.func f) a c=>some (.func (.func f) a c,none)
  |_=>none
 | .makeFunc fn first cap=>some (.func fn (first.map ρ) (cap.map ρ),none)
 |_=>none
def nK(ops:Array Oper)(f:Fn)(S:SS):Option (Nat×Bool)->Option (Ch×List (Nat×Bool))
 |none=>some ([],S.G)
 |some (j,w)=>match (ops[j]?).bind (·.dst) with
  |some d=>match lk S.m d with
   |some (c,.bool g)=>some ((d,w)::c,kZ S.G d g)
   |some _=>none
   |none=>match f d with
    | .bool g=>some ([(d,w)],kZ S.G d g)
    |_=>none
  |none=>none
def putS(q:Option Prop)(c:Ch)(G:List (Nat×Bool))(m:List (Nat×Ch×Value))(d:Nat)(v:Value):Option (SS×Option Prop):=
 match gl G d with
 |some _=>none
 |none=>fcL G fun G=>fcL c fun c=>some (⟨(d,c,v)::m,G⟩,match q with
  |none=>none
  |some p=>some (impl G c p))
def fcC{β:Type}(v:Value)(k:Value->β):β:=match v with
 | .int a n=>k (.int a n)
 | .bool b=>k (.bool b)
 | .string ⟨⟨l⟩⟩=>k (.string ⟨⟨l⟩⟩)
 | .pointer a=>k (.pointer a)
 | .slice a n m=>k (.slice a n m)
 |v=>k v
theorem fcC_eq{β:Type}(v:Value)(k:Value->β):fcC v k=k v:=by cases v<;>rfl
def fcM{β:Type}:List Value->(List Value->β)->β
 | [],k=>k []
 |a::l,k=>fcC a fun a=>fcM l fun r=>k (a::r)
theorem fcM_eq{β:Type}: ∀(l:List Value) (k:List Value->β),fcM l k=k l
 | [],_=>rfl
 |a::l,k=>by unfold fcM;rw[fcC_eq,fcM_eq l]
def fcV{β:Type}(v:Value)(k:Value->β):β:=match v with
 | .agg ⟨l⟩=>fcM l fun l=>k (.agg ⟨l⟩)
 |v=>fcC v k
theorem fcV_eq{β:Type}(v:Value)(k:Value->β):fcV v k=k v:=by
 unfold fcV;split
 ·exact fcM_eq _ _
 exact fcC_eq _ _
def fcH{β:Type}(h:Hint)(v:Value)(k:Value->β):β:=match h with
 | .o _=>k v
 |_=>fcV v k
theorem fcH_eq{β:Type}(h:Hint)(v:Value)(k:Value->β):fcH h v k=k v:=by cases h<;>first|rfl|exact fcV_eq _ _
def stepS(P:Program)(G0:Nat)(W:FW)(sz:Nat)(ops:Array Oper)(f:Fn)(S:SS)(h:Hint)(o:Oper):Option (SS×Option Prop):=
 match o.dst with
 |none=>none
 |some d=>
  bif Nat.ble (d+1) sz&&o.op.operands.toList.all (bm G0) then
   match nK ops f S o.guard with
   |none=>none
   |some (c,G1)=>
    match o.op with
    | .pick (.tmp s) a b=>
     match lk S.m s with
     |some (cc,.bool g)=>
      bif subC cc c&&(S.can ((s,true)::c) a&&S.can ((s,false)::c) b) then
       match ppk a b g (S.rd f a) (S.rd f b) with
       |some v=>fcV v fun v=>putS none c (kZ G1 s g) S.m d v
       |none=>none
      else none
     |_=>none
    |op=>
     bif op.operands.toList.all (S.can c) then
      match pop P W h (S.rd f) op with
      |some (v,q)=>fcH h v fun v=>putS q c G1 S.m d v
      |none=>none
     else none
  else none
def hintAt:List (Nat×Hint)->Nat->Hint
 | [],_=> .p
 |(i,h)::l,j=>bif Nat.beq i j then h else hintAt l j
def rgL(P:Program)(G0:Nat)(W:FW)(sz:Nat)(ops:Array Oper)(f:Fn)(hs:List (Nat×Hint)):Nat->List Oper->SS->Option (SS×Prop)
 |_,[],S=>some (S,True)
 |i,o::os,S=>match stepS P G0 W sz ops f S (hintAt hs i) o with
  |none=>none
  |some (S1,q)=>match rgL P G0 W sz ops f hs (i+1) os S1 with
   |none=>none
   |some (S2,p)=>some (S2,andO q p)
def fins(m:List (Nat×Ch×Value)):List Nat->Option (List (Nat×Value))
 | []=>some []
 |d::ds=>match lk m d,fins m ds with
  |some ([],v),some l=>some ((d,v)::l)
  |_,_=>none
def fU(P:Program)(G0:Nat)(W:FW)(sz:Nat)(ops:Array Oper)(f:Fn)(i:Nat)(os:List Oper)(hs:List (Nat×Hint))(lo hi:Nat)(ex:List Nat)(E:List Nat):Option (List (Nat×Value)×Prop):=
 match rgL P G0 W sz ops f hs i os ⟨[],[]⟩ with
 |none=>none
 |some (S,p)=>bif S.m.all (fun e=>inR lo hi ex e.1) then
   match fins S.m E with
   |some l=>some (l,p)
   |none=>none
  else none
end Go.R
end
noncomputable section
namespace Go.R
section
variable {P:Program} {G0:Nat} {K:bM} {d_:Heap->Prop} {W:FW} {H:Heap} {ρ:Operand->Value} {d:Option Tmp} {ty:TypeId} {pos:String} {af:Array Edge} {gd:Option (Nat×Bool)} {v:Value} {q:Option Prop} {hi:Hint}
theorem mV{k:IntKind}{n:Int}(h:ari hi k n=some (v,q))(E:fX q):v= .int k (k.wrap n):=by
 unfold ari at h;split at h
 ·simp only[a01,a04]at h;exact h.1.symm
 ·simp only[a01,a04]at h;obtain⟨rfl,rfl⟩:=h;obtain⟨rfl,O⟩:=E;rw[rng_wrap O]
 simp only[a01,a04]at h;obtain⟨rfl,rfl⟩:=h;rw[rng_wrap E]
theorem bi_ok{k:IntKind}{n:Int}(h:bi hi k n=some (v,q))(O:fX q):v= .int k n:=by
 unfold bi at h;split at h
 ·simp only[a01,a04]at h;obtain⟨rfl,rfl⟩:=h;have E:n=_:=O;rw[E]
 simp only[a01,a04]at h;exact h.1.symm
theorem kJ{p:Prop}{r:VP}(h:withP p r=some (v,q))(E:fX q):p/\∃O,r=some (v,O)/\fX O:=by
 match r,h with
 |some (v',none),h=>
  simp only[withP,a01,a04]at h
  obtain⟨rfl,rfl⟩:=h
  exact⟨E,none,V,trivial⟩
 |some (v',some p'),h=>
  simp only[withP,a01,a04]at h
  obtain⟨rfl,rfl⟩:=h
  exact⟨E.1,some p',V,E.2⟩
 |none,h=>simp[withP]at h
theorem beq0{b:Int}(hb:b≠0):(b==0)=false:=by simpa using hb
variable {x y:Operand} {t yt:TypeId}
theorem pint_ok{op:BinOp}{k:IntKind}{a b:Int}(hx:ρ x= .int k a)(hy:ρ y= .int k b)(h:pint hi op k a b=some (v,q))(O:fX q):
  AP P ρ ⟨d,.binOp op t x y yt,ty,pos,af,gd⟩ H (.val v,H):=by
 have E: ∀{v':Value},lM op=false->mD op k a b=some v'->AP P ρ ⟨d,.binOp op t x y yt,ty,pos,af,gd⟩ H (.val v',H):=by intro v' hs Z;exact jx hx hy (by rw[hs,dG];exact Z)
 cases op with
 |add=>rw[mV (n:=a+b) h O];exact E V V
 |sub=>rw[mV (n:=a-b) h O];exact E V V
 |mul=>rw[mV (n:=a *b) h O];exact E V V
 |quo=>
  obtain⟨T,q',U,Y⟩:=kJ (p:=b≠0) (r:=ari hi k (a.tdiv b)) h O
  rw[mV U Y]
  exact E V (by show(bif b==0 then none else some (Value.int k (k.wrap (a.tdiv b))))=_;rw[beq0 T];rfl)
 |rem=>
  obtain⟨T,q',U,Y⟩:=kJ (p:=b≠0) (r:=bi hi k (a.tmod b)) h O
  rw[bi_ok U Y]
  exact E V (by show(bif b==0 then none else some (Value.int k (a.tmod b)))=_;rw[beq0 T];rfl)
 |and=>rw[bi_ok (n:=dO .and k a b) h O];exact E V V
 |or=>rw[bi_ok (n:=dO .or k a b) h O];exact E V V
 |xor=>rw[bi_ok (n:=dO .xor k a b) h O];exact E V V
 |andNot=>rw[bi_ok (n:=dO .andNot k a b) h O];exact E V V
 |shl=>cases h
 |shr=>cases h
 |_=>
  simp only[pint,a01,a04]at h
  obtain⟨rfl,_⟩:=h
  exact E V V
theorem bool_run{a b:Bool}(h:isBT P t=true):aB P (ey .eql t x y a b)=some (.value (.bool (a==b)))/\aB P (ey .neq t x y a b)=some (.value (.bool (a !=b))):=by
 unfold isBT at h;split at h
 ·rename_i U;have Y:P.eqGuardType P.depth t=false:=by simpa using h
  have O:aB P (eqGuard .eql t x y (.bool a) (.bool b))=some ():=by simp[eqGuard]
  have T:aB P (eqGuard .neq t x y (.bool a) (.bool b))=some ():=by simp[eqGuard]
  have E:aB P (Op.equal t (.bool a) (.bool b))=some (a==b):=eqB (d:=9999) U;constructor
  ·unfold ey;simp only[aH,O,a0j];have:aB P (binOp .eql t (.bool a) (.bool b))=some (Value.bool (a==b)):=by show aB P (Op.equal t (.bool a) (.bool b)>>=fun b=>(Pure.pure (Value.bool b):Sem Value))=_;rw[aH,E];rfl
   rw[this];rfl
  unfold ey;simp only[aH,T,a0j];have:aB P (binOp .neq t (.bool a) (.bool b))=some (Value.bool (a !=b)):=by show aB P (Op.equal t (.bool a) (.bool b)>>=fun b=>(Pure.pure (Value.bool (!b)):Sem Value))=_;rw[aH,E];rfl
  rw[this];rfl
 cases h
theorem pbin_ok{op:BinOp}{a b:Value}(E:ρ x=a)(O:ρ y=b)(h:pbin P hi op t a b=some (v,q))(hq:fX q):
  AP P ρ ⟨d,.binOp op t x y yt,ty,pos,af,gd⟩ H (.val v,H):=by
 have U: ∀(a b:Value) (r:Bool),ρ x=a->ρ y=b->(∃p,a= .pointer p)\/(∃p n k,a= .slice p n k)->nilEq P t a b=some r->(op= .eql->v= .bool r)->(op= .neq->v= .bool (!r))->(op= .eql\/op= .neq)->
   AP P ρ ⟨d,.binOp op t x y yt,ty,pos,af,gd⟩ H (.val v,H):=by
  intro a b r E O ha T Z h2 h3
  refine⟨?_⟩
  show aBin P ρ _ op t (ρ x) y H=_
  have:aBin P ρ ⟨d,.binOp op t x y yt,ty,pos,af,gd⟩ op t (ρ x) y H=nilBin op (nilEq P t a b) H:=by rw[E];rcases ha with⟨p,rfl⟩|⟨p,n,k,rfl⟩<;>(rw[←O];rfl)
  rw[this,T]
  rcases h3 with rfl|rfl
  ·rw[Z rfl];rfl
  rw[h2 rfl];rfl
 unfold pbin at h
 split at h
 ·--integers
  split at h
  ·obtain⟨Z,q',h2,h3⟩:=kJ h hq;rw[bi_ok h2 h3];exact ap_shl E O Z
  ·obtain⟨Z,q',h2,h3⟩:=kJ h hq;rw[bi_ok h2 h3];exact ap_shr E O Z
  rename_i k a k' b _ _ _;cases hk:kq k k' with
  |false=>rw[hk]at h;cases h
  |true=>
   rw[hk]at h
   have:=kq_eq hk;subst this
   exact pint_ok E O h hq
 ·split at h<;>simp only[a01,a04,reduceCtorEq]at h
  ·obtain⟨rfl,_⟩:=h;exact ap_eqS E O
  ·obtain⟨rfl,_⟩:=h;exact ap_neS E O
  ·obtain⟨rfl,_⟩:=h;exact ap_ltS E O
  ·obtain⟨rfl,_⟩:=h;exact ap_leS E O
  obtain⟨rfl,rfl⟩:=h;exact ap_addS E O hq
 ·cases Y:isBT P t with
  |false=>rw[Y]at h;cases h
  |true=>
   rw[Y]at h
   simp only[cond_true]at h
   split at h<;>simp only[a01,a04,reduceCtorEq]at h
   ·obtain⟨rfl,_⟩:=h;exact ap_boolEq E O (fun a b=>(bool_run Y).1)
   obtain⟨rfl,_⟩:=h;exact ap_boolNe E O (fun a b=>(bool_run Y).2)
 ·split at h<;>simp only[a01,a04,reduceCtorEq]at h;obtain⟨rfl,rfl⟩:=h;exact hq ρ x y yt d ty pos af gd H E O
 ·split at h<;>simp only[a01,a04,reduceCtorEq]at h
  ·rename_i T;obtain⟨rfl,_⟩:=h;exact U _ _ _ E O (.inl ⟨_,V⟩) T (fun _=>rfl) (fun e=>by cases e) (.inl V)
  rename_i T;obtain⟨rfl,_⟩:=h;exact U _ _ _ E O (.inl ⟨_,V⟩) T (fun e=>by cases e) (fun _=>rfl) (.inr V)
 ·split at h<;>simp only[a01,a04,reduceCtorEq]at h
  ·rename_i T;obtain⟨rfl,_⟩:=h;exact U _ _ _ E O (.inr ⟨_,_,_,V⟩) T (fun _=>rfl) (fun e=>by cases e) (.inl V)
  rename_i T;obtain⟨rfl,_⟩:=h;exact U _ _ _ E O (.inr ⟨_,_,_,V⟩) T (fun e=>by cases e) (fun _=>rfl) (.inr V)
 cases h
theorem pun_ok{op:UnOp}{a:Value}(E:ρ x=a)(h:pun hi op a=some (v,q))(O:fX q):AP P ρ ⟨d,.unOp op t x,ty,pos,af,gd⟩ H (.val v,H):=by
 unfold pun at h;split at h
 ·simp only[a01,a04]at h;obtain⟨rfl,_⟩:=h;exact cg E
 ·rw[mV h O];exact ap_neg E
 ·rw[bi_ok h O];exact ap_cpl E
 cases h
theorem pconv_ok(hW:W.OK P G0 K d_)(Z:d_ H){s:TypeId}{a:Value}(T:ρ x=a)(h:pconv P W hi s t a=some (v,q))(E:fX q):AP P ρ ⟨d,.convert s t x,ty,pos,af,gd⟩ H (.val v,H):=by
 unfold pconv at h;split at h
 ·split at h
  ·rename_i U Y;rw[mV h E];exact ap_conv T U Y
  cases h
 ·split at h
  ·simp only[a01,a04]at h;obtain⟨rfl,rfl⟩:=h;refine⟨?_⟩;show fJ P ρ _ s t (ρ x) H=_;rw[T];show ovl (dh P s t _ _ H) H=_;have O:dh P s t _ _ H=_:=hW.cv E H Z;rw[O];rfl
  cases h
 cases h
theorem ppick_ok{g:Bool}{a b v:Value}(h:ppick g a b=some v):v=bif g then a else b:=by
 unfold ppick at h;split at h
 ·simp only[a01]at h;subst h;cases g<;>rfl
 ·rename_i k x O y;cases E:kq k O with
  |false=>rw[E]at h;cases h
  |true=>
   rw[E]at h
   have:=kq_eq E;subst this
   simp only[cond_true,a01]at h;subst h;cases g<;>rfl
 ·simp only[a01]at h;subst h;cases g<;>rfl
 cases h
theorem ppk_ok{g:Bool}{a b:Operand}{v:Value}{r:Operand->Value}(hc: ∀w,r (.const w)=w)(h:ppk a b g (r a) (r b)=some v):v=bif g then r a else r b:=by
 unfold ppk at h;split at h
 ·rename_i x e;simp only[a01]at h;subst h;rw[hc,e];cases g<;>rfl
 split at h
 ·rename_i y e _;simp only[a01]at h;subst h;rw[hc,e];cases g<;>rfl
 exact ppick_ok h
theorem pidx_ok{i:Operand}{a b:Value}(T:ρ x=a)(E:ρ i=b)(h:pidx P t a b=some (v,q))(U:fX q):AP P ρ ⟨d,.index t x i,ty,pos,af,gd⟩ H (.val v,H):=by
 unfold pidx at h;split at h
 ·rename_i s _ j;split at h
  ·rename_i O;simp only[a01,a04]at h;obtain⟨rfl,rfl⟩:=h;obtain⟨Y,Z⟩:=U;have q3:j<(s.length:Int):=Z;exact dI (s:=s) T E O Y (bj M)
  cases h
 ·split at h
  ·rename_i O;simp only[a01,a04]at h;obtain⟨rfl,rfl⟩:=h;exact ap_ixG T E O
  cases h
 cases h
theorem pidxA_ok{i:Operand}{a b:Value}(Z:ρ x=a)(E:ρ i=b)(h:pidxA P t a b=some (v,q))(Y:fX q):AP P ρ ⟨d,.indexAddr t x i,ty,pos,af,gd⟩ H (.val v,H):=by
 unfold pidxA at h;split at h
 ·split at h
  ·rename_i O;split at h
   ·rename_i T;simp only[a01,a04]at h;obtain⟨rfl,rfl⟩:=h;obtain⟨b,o,n,k,e,U,q2,q3⟩:=Y;cases e
    exact kr Z E O T U q2 q3
   cases h
  cases h
 ·split at h
  ·rename_i O;split at h
   ·rename_i T;simp only[a01,a04]at h;obtain⟨rfl,rfl⟩:=h;obtain⟨U,q2⟩:=Y;refine⟨?_⟩;rename_i kk j n e z _;obtain⟨m,rfl⟩:=a0R U;show ovl (dP P t (ρ x) (ρ i)) H=_;rw[Z,E];unfold dP;rw[O];have h3:Nat.ble (m+1) n=true:=a0q M;show ovl (match dV P e with|some sz=>bif Nat.ble (m+1) n then some (.pointer (some ⟨_,_+m *sz,none⟩)) else none|none=>none) H=_;rw[T];simp only[h3,cond_true];rfl
   cases h
  cases h
 cases h
theorem sl_str{lo hi:Option Operand}{s:ByteArray}{i j:Nat}(Z:ρ x= .string s)(Y:P.underlying t=some .string)(O:cM s.data.toList.length (hi.map ρ)=some j)(T:cM 0 (lo.map ρ)=some i)(E:i<=j)(U:j<=s.data.toList.length):
  AP P ρ ⟨d,.slice t x lo hi none,ty,pos,af,gd⟩ H (.val (.string ⟨⟨(s.data.toList.drop i).take (j-i)⟩⟩),H):=by
 obtain⟨⟨s⟩⟩:=s
 exact ap_slS Z Y O T E U
theorem pslice_ok(hW:W.OK P G0 K d_)(hH:d_ H){lo E:Option Operand}{a:Value}(U:ρ x=a)(h:pslice P W hi t a (lo.map ρ) (E.map ρ)=some (v,q))(hq:fX q):AP P ρ ⟨d,.slice t x lo E none,ty,pos,af,gd⟩ H (.val v,H):=by
 unfold pslice at h;split at h
 ·rename_i s;split at h
  ·rename_i Z;split at h
   ·rename_i O T;simp only[a01,a04]at h;obtain⟨rfl,rfl⟩:=h;have:=sl_str (d:=d) (ty:=ty) (pos:=pos) (af:=af) (gd:=gd) (H:=H) (lo:=lo) (hi:=E) (i:=0) (s:=⟨⟨s⟩⟩) (j:=s.length) U Z (by rw[T];rfl) (by rw[O];rfl) (a0l _) (a07 _);rw[a0U,Nat.sub_zero,a1e]at this;exact this
   ·rename_i k i O T;simp only[a01,a04]at h;obtain⟨rfl,rfl⟩:=h;obtain⟨Y,q2⟩:=hq;have:=sl_str (d:=d) (ty:=ty) (pos:=pos) (af:=af) (gd:=gd) (H:=H) (lo:=lo) (hi:=E) (i:=i.toNat) (s:=⟨⟨s⟩⟩) (j:=s.length) U Z (by rw[T];rfl) (by rw[O];exact optN Y) M (a07 _);rw[a0D (by rw[a0a];exact a07 _)]at this;exact this
   ·rename_i k j O T;simp only[a01,a04]at h;obtain⟨rfl,rfl⟩:=h;obtain⟨Y,q2⟩:=hq;have:=sl_str (d:=d) (ty:=ty) (pos:=pos) (af:=af) (gd:=gd) (H:=H) (lo:=lo) (hi:=E) (i:=0) (j:=j.toNat) (s:=⟨⟨s⟩⟩) U Z (by rw[T];exact optN Y) (by rw[O];rfl) (a0l _) (show j.toNat<=s.length by omega);simpa using this
   ·rename_i k i k' j O T;simp only[a01,a04]at h;obtain⟨rfl,rfl⟩:=h;obtain⟨Y,q2,q3⟩:=hq;exact sl_str (s:=⟨⟨s⟩⟩) (lo:=lo) (hi:=E) (i:=i.toNat) (j:=j.toNat) U Z (by rw[T];exact optN M) (by rw[O];exact optN Y) M (show j.toNat<=s.length by omega)
   cases h
  cases h
 split at h
 ·simp only[a01,a04]at h;obtain⟨rfl,rfl⟩:=h;refine⟨?_⟩;show ovl (bQ P t (ρ x) (lo.map ρ) (E.map ρ) (Option.map ρ none) H) H=_;have an:bQ P t _ (lo.map ρ) (E.map ρ) none H=_:=hW.sl hq H hH;rw[U,a1Q,an];rfl
 cases h
theorem plen_ok{a:Value}(O:ρ x=a)(h:plen P t a=some (v,q)):AP P ρ ⟨d,.call ⟨.builtin .len, #[x], #[t]⟩,ty,pos,af,gd⟩ H (.val v,H):=by
 unfold plen at h;split at h
 ·rename_i s;split at h
  ·rename_i E;simp only[a01,a04]at h;obtain⟨rfl,rfl⟩:=h;exact fq (s:=s) O E
  cases h
 ·split at h
  ·rename_i E;simp only[a01,a04]at h;obtain⟨rfl,rfl⟩:=h;refine⟨?_⟩;show ovl (aLen P t (ρ x) H) H=_;rw[O];unfold aLen;rw[E];rfl
  cases h
 cases h
inductive PRes(P:Program)(G0:Nat)(K:bM)(d_:Heap->Prop)(ρ:Operand->Value)(o:Oper)(H:Heap)(v:Value):Prop where
 |val (h:AP P ρ o H (.val v,H))
 |call (g:FuncId) (args:List Value) (h:AP P ρ o H (.enter g args,H)) (hk:gV o.op=true) (hc:C P G0 K g args H fun v' H'=>v'=v/\d_ H')
theorem mA{ρ ρ':Operand->Value}: ∀{l:List Operand},(∀x,x∈l->ρ x=ρ' x)->ec ρ l=ec ρ' l
 | [],_=>rfl
 |x::l,h=>by show ρ x::ec ρ l=ρ' x::ec ρ' l;rw[h x (by simp),mA fun y E=>h y (by simp[E])]
theorem pmm_ok{w:Bool}{y:Operand}{E:Array TypeId}{a b:Value}(O:ρ x=a)(T:ρ y=b)(h:pmm w a b=some (v,q)):AP P ρ ⟨d,.call ⟨.builtin (bif w then .min else .max), #[x,y],E⟩,ty,pos,af,gd⟩ H (.val v,H):=by
 unfold pmm at h;split at h
 ·rename_i k n k' m;simp only[a01,a04]at h;obtain⟨rfl,rfl⟩:=h;have Z:([ρ x,ρ y].all fun z=>jM z)=true:=by simp[O,T,jM,dx]
  cases w with
  |true=>
   refine⟨?_⟩
   show bL P ρ ⟨d,.call ⟨.builtin .min, #[x,y],E⟩,ty,pos,af,gd⟩ H=_
   unfold bL
   have Y:((Op.call ⟨.builtin .min, #[x,y],E⟩).operands.toList.all fun x=>jM (ρ x))=true:=by simp[Op.operands,Call.operands,O,T,jM,dx]
   simp only[Y,cond_true]
   have U:aB P (execOp ρ ⟨d,.call ⟨.builtin .min, #[x,y],E⟩,ty,pos,af,gd⟩)=some (.value (.int k (if m<n then m else n))):=by unfold execOp;simp[resolve,invoke,builtin,Builtin.min_,Builtin.min2,O,T]
   rw[U];rfl
  |false=>
   refine⟨?_⟩
   show bL P ρ ⟨d,.call ⟨.builtin .max, #[x,y],E⟩,ty,pos,af,gd⟩ H=_
   unfold bL
   have Y:((Op.call ⟨.builtin .max, #[x,y],E⟩).operands.toList.all fun x=>jM (ρ x))=true:=by simp[Op.operands,Call.operands,O,T,jM,dx]
   simp only[Y,cond_true]
   have U:aB P (execOp ρ ⟨d,.call ⟨.builtin .max, #[x,y],E⟩,ty,pos,af,gd⟩)=some (.value (.int k (if m>n then m else n))):=by unfold execOp;simp[resolve,invoke,builtin,Builtin.max_,Builtin.max2,O,T]
   rw[U];rfl
 cases h
theorem pcall_ok(hW:W.OK P G0 K d_)(Z:d_ H){ρ ρ':Operand->Value}{c:Call}(E: ∀x,x∈(Op.call c).operands.toList->ρ x=ρ' x)(h:pcall P W hi ρ' c=some (v,q))(hq:fX q):
  PRes P G0 K d_ ρ ⟨d,.call c,ty,pos,af,gd⟩ H v:=by
 obtain⟨T,args,O⟩:=c
 cases T with
 |builtin b=>
  cases b with
  |len=>
   obtain⟨O⟩:=O
   obtain⟨args⟩:=args
   simp only[pcall]at h
   split at h
   ·exact .val (plen_ok (E _ (by simp[Op.operands,Call.operands])) h)
   cases h
  |min=>
   obtain⟨args⟩:=args
   simp only[pcall]at h
   split at h
   ·exact .val (pmm_ok (w:=true) (E _ (by simp[Op.operands,Call.operands])) (E _ (by simp[Op.operands,Call.operands])) h)
   cases h
  |max=>
   obtain⟨args⟩:=args
   simp only[pcall]at h
   split at h
   ·exact .val (pmm_ok (w:=false) (E _ (by simp[Op.operands,Call.operands])) (E _ (by simp[Op.operands,Call.operands])) h)
   cases h
  |_=>cases h
 |value f=>
  simp only[pcall]at h
  split at h
  ·rename_i Y;simp only[a01,a04]at h;obtain⟨rfl,rfl⟩:=h;refine .call _ _ ⟨?_⟩ V (hW.cl hq H Z);show ij (iY P (ρ f) (ec ρ args.toList)) H=_;rw[E f (by simp[Op.operands,Call.operands]),mA (ρ':=ρ') (fun x U=>E x (by simp[Op.operands,Call.operands]at U⊢;exact .inr U)),Y];rfl
  cases h
 |invoke r m=>cases h
theorem pop_ok(Z:W.OK P G0 K d_)(Y:d_ H){ρ ρ':Operand->Value}{op:Op}(E: ∀x,x∈op.operands.toList->ρ x=ρ' x)(h:pop P W hi ρ' op=some (v,q))(U:fX q):
  PRes P G0 K d_ ρ ⟨d,op,ty,pos,af,gd⟩ H v:=by
 cases op with
 |move x=>
  simp only[pop,a01,a04]at h;obtain⟨rfl,rfl⟩:=h
  exact .val (ap_move (E x (by simp[Op.operands])))
 |assign x=>
  simp only[pop,a01,a04]at h;obtain⟨rfl,rfl⟩:=h
  exact .val (lZ (E x (by simp[Op.operands])))
 |binOp op t x y yt=>exact .val (pbin_ok (E x (by simp[Op.operands])) (E y (by simp[Op.operands])) h U)
 |unOp op t x=>exact .val (pun_ok (E x (by simp[Op.operands])) h U)
 |convert s t x=>exact .val (pconv_ok Z Y (E x (by simp[Op.operands])) h U)
 |load t a=>
  simp only[pop]at h
  split at h
  ·simp only[a01,a04]at h;obtain⟨rfl,rfl⟩:=h;refine .val ⟨?_⟩;show eI P t (ρ a) H=_;rw[E a (by simp[Op.operands])];exact Z.ld U H Y
  cases h
 |lookup t m x ok=>
  simp only[pop]at h
  split at h
  ·simp only[a01,a04]at h;obtain⟨rfl,rfl⟩:=h;refine .val ⟨?_⟩;show ovl (hY P t (ρ m) (ρ x) ok H) H=_;rw[E m (by simp[Op.operands]),E x (by simp[Op.operands]),Z.lk U H Y];rfl
  cases h
 |index t x i=>exact .val (pidx_ok (E x (by simp[Op.operands])) (E i (by simp[Op.operands])) h U)
 |indexAddr t x i=>exact .val (pidxA_ok (E x (by simp[Op.operands])) (E i (by simp[Op.operands])) h U)
 |field t x f=>
  simp only[pop,optV]at h
  split at h
  ·rename_i O;simp only[a01,a04]at h;obtain⟨rfl,rfl⟩:=h;exact .val (ap_fv (E x (by simp[Op.operands])) O)
  cases h
 |fieldAddr s x f=>
  simp only[pop,optV]at h
  split at h
  ·rename_i O;simp only[a01,a04]at h;obtain⟨rfl,rfl⟩:=h;refine .val ⟨?_⟩;show ovl (jz P s (ρ x) f) H=_;rw[E x (by simp[Op.operands]),O];rfl
  cases h
 |extract x i=>
  simp only[pop,optV]at h
  split at h
  ·rename_i O;simp only[a01,a04]at h;obtain⟨rfl,rfl⟩:=h;exact .val (ap_ex (E x (by simp[Op.operands])) O)
  cases h
 |build t parts=>
  have al:parts.map (fun p=>(p.1,ρ p.2))=parts.map (fun p=>(p.1,ρ' p.2)):=by apply a1N;intro p hp;rw[E p.2 (by simp only[Op.operands,a0t];exact⟨p,by simpa using hp,V⟩)]
  simp only[pop,optV]at h
  split at h
  ·rename_i z hz;split at h
   ·rename_i cs O;simp only[a01,a04]at h;obtain⟨rfl,rfl⟩:=h;exact .val (lY al hz (bldL_ok (by rw[jO]at O;rw[a1K];exact O)))
   split at h
   ·rename_i O;simp only[a01,a04]at h;obtain⟨rfl,rfl⟩:=h;exact .val (lY al hz O)
   cases h
  cases h
 |slice t x lo hi2 mx=>
  cases mx with
  |some _=>simp only[pop]at h;cases h
  |none=>
   simp only[pop]at h
   have e1:lo.map ρ=lo.map ρ':=by
    cases lo with
    |none=>rfl
    |some o=>simp only[a1B];rw[E o (by simp[Op.operands])]
   have e2:hi2.map ρ=hi2.map ρ':=by
    cases hi2 with
    |none=>rfl
    |some o=>simp only[a1B];rw[E o (by simp[Op.operands])]
   rw[←e1,←e2]at h
   exact .val (pslice_ok Z Y (E x (by simp[Op.operands])) h U)
 |call c=>exact pcall_ok Z Y E h U
 |nilCheck x=>
  simp only[pop]at h
  have T:=E x (by simp[Op.operands])
  split at h
  ·rename_i a ha;simp only[a01,a04]at h;obtain⟨rfl,rfl⟩:=h;refine .val ⟨?_⟩;show opNil (ρ x) H=_;rw[T,ha];rfl
  ·rename_i f a c ha;simp only[a01,a04]at h;obtain⟨rfl,rfl⟩:=h;refine .val ⟨?_⟩;show opNil (ρ x) H=_;rw[T,ha];rfl
  cases h
 |makeFunc fn first cap=>
  simp only[pop,a01,a04]at h;obtain⟨rfl,rfl⟩:=h
  refine .val ⟨?_⟩
  show some (AN.val (.func fn (first.map ρ) (cap.map ρ)),H)=_
  have e1:first.map ρ=first.map ρ':=a1N fun x T=>E x (by simp[Op.operands]at T⊢;first|exact .inl T|exact .inr T)
  have e2:cap.map ρ=cap.map ρ':=a1N fun x T=>E x (by simp[Op.operands]at T⊢;first|exact .inl T|exact .inr T)
  rw[e1,e2]
 |_=>cases h
end
end Go.R
end
noncomputable section
namespace Go.R
structure SS.Rel(S:SS)(f fr:Fn):Prop where
 sl: ∀t c v,lk S.m t=some (c,v)->fr t=(bif act S.G c then v else undef)
 no: ∀t,lk S.m t=none->fr t=f t
 gs: ∀s g,gl S.G s=some g->(∃c,lk S.m s=some (c,.bool g))\/(lk S.m s=none/\f s= .bool g)
 ks: ∀t c v,lk S.m t=some (c,v)->∀s w,(s,w)∈c->∃g,gl S.G s=some g
theorem gl_add{G:List (Nat×Bool)}{d s:Nat}{g r:Bool}(h:gl G s=some r):gl (kZ G d g) s=some r:=by
 unfold kZ;split
 ·exact h
 rename_i E;show(bif Nat.beq d s then some g else gl G s)=_;cases hb:Nat.beq d s with
 |true=>have:=a06 hb;subst this;rw[E]at h;cases h
 |false=>exact h
theorem lN{G:List (Nat×Bool)}{d:Nat}{g:Bool}(h: ∀r,gl G d=some r->r=g):gl (kZ G d g) d=some g:=by
 unfold kZ;split
 ·rename_i r E;rw[E,h r E]
 show(bif Nat.beq d d then some g else gl G d)=_;rw[a0M];rfl
theorem gl_add_inv{G:List (Nat×Bool)}{d s:Nat}{g r:Bool}(h:gl (kZ G d g) s=some r):gl G s=some r\/(s=d/\r=g):=by
 unfold kZ at h;split at h
 ·exact .inl h
 have E:(bif Nat.beq d s then some g else gl G s)=some r:=h;cases hb:Nat.beq d s with
 |true=>rw[hb]at E;exact .inr ⟨(a06 hb).symm,(Option.some.inj E).symm⟩
 |false=>rw[hb]at E;exact .inl E
theorem nX{G:List (Nat×Bool)}{d:Nat}{g:Bool}: ∀{c:Ch},(∀s w,(s,w)∈c->∃r,gl G s=some r)->act (kZ G d g) c=act G c
 | [],_=>rfl
 |(s,w)::c,h=>by
  obtain⟨r,E⟩:=h s w (by simp);show((match gl (kZ G d g) s with|some g=>bq g w|none=>false)&&act (kZ G d g) c)=((match gl G s with|some g=>bq g w|none=>false)&&act G c)
  rw[gl_add E,E,nX fun s w O=>h s w (by simp[O])]
theorem act_mem{G:List (Nat×Bool)}: ∀{c:Ch} {s:Nat} {w:Bool},act G c=true->memC s w c=true->gl G s=some w
 |(s',w')::c,s,w,h,E=>by
  simp only[act,a03]at h;simp only[memC,a0C,a03]at E;rcases E with⟨Y,Z⟩|E
  ·have T:=a06 Y;have U:=bq_eq Z;subst T U;have O:=h.1;split at O
   ·rename_i g hg;rw[hg,bq_eq O]
   cases O
  exact act_mem h.2 E
 | [],s,w,_,E=>by cases E
theorem act_sub{G:List (Nat×Bool)}: ∀{a c:Ch},act G c=true->subC a c=true->act G a=true
 | [],_,_,_=>rfl
 |(s,w)::a,c,h,hs=>by simp only[subC,a03]at hs;have E:=act_mem h hs.1;simp only[act,E,act_sub h hs.2,a0J];cases w<;>rfl
theorem impl_act{G:List (Nat×Bool)}{p:Prop}: ∀{c:Ch},act G c=true->impl G c p->p
 | [],_,h=>h
 |(s,w)::c,ha,h=>by
  simp only[act,a03]at ha;obtain⟨E,O⟩:=ha;unfold impl at h;split at E
  ·rename_i g T;rw[T]at h;exact impl_act O (h (bq_eq E))
  cases E
section
variable {P:Program} {G0:Nat} {K:bM} {d_:Heap->Prop} {W:FW} {sz:Nat} {Q:Ex->Fn->Heap->Prop} {ops:Array Oper} {os:List Oper} {k:List Fr} {f fr:Fn} {H:Heap} {S S':SS}
theorem SS.Rel.add(h:S.Rel f fr){d:Nat}{g:Bool}(hd:(∃c,lk S.m d=some (c,.bool g))\/(lk S.m d=none/\f d= .bool g)):SS.Rel ⟨S.m,kZ S.G d g⟩ f fr:=by
 refine⟨fun t c v E=>?_,h.no,fun s r O=>?_,fun t c v E s w T=>?_⟩
 ·rw[h.sl t c v E];show _=bif act (kZ S.G d g) c then v else undef
  rw[nX (h.ks t c v E)]
 ·rcases gl_add_inv O with h1|⟨rfl,rfl⟩
  ·exact h.gs s r h1
  exact hd
 obtain⟨r,O⟩:=h.ks t c v E s w T;exact⟨r,gl_add O⟩
theorem SS.Rel.same(h:S.Rel f fr){d:Nat}{g:Bool}(hd:(∃c,lk S.m d=some (c,.bool g))\/(lk S.m d=none/\f d= .bool g)): ∀r,gl S.G d=some r->r=g:=by
 intro r Y;rcases h.gs d r Y with⟨c,O⟩|⟨O,U⟩<;>rcases hd with⟨Z,E⟩|⟨E,T⟩
 ·rw[O]at E;simp only[a01,a04,Value.bool.injEq]at E;exact E.2
 ·rw[O]at E;cases E
 ·rw[O]at E;cases E
 rw[U]at T;simpa using T
structure GOK(ops:Array Oper)(f fr:Fn)(S:SS)(g:Option (Nat×Bool))(c:Ch)(G1:List (Nat×Bool)):Prop where
 rel:SS.Rel ⟨S.m,G1⟩ f fr
 ks: ∀s w,(s,w)∈c->∃g,gl G1 s=some g
 on:act G1 c=true->match g with
  |none=>True
  |some (j,w)=>cZ ops fr j=some w
 off:act G1 c=false->match g with
  |none=>False
  |some (j,w)=>cZ ops fr j=none\/cZ ops fr j=some (!w)
theorem gy(Z:S.Rel f fr){g:Option (Nat×Bool)}{c:Ch}{G1:List (Nat×Bool)}(h:nK ops f S g=some (c,G1)):GOK ops f fr S g c G1:=by
 unfold nK at h;split at h
 ·simp only[a01,a04]at h;obtain⟨rfl,rfl⟩:=h;exact⟨Z,fun s w T=>by simp at T,fun _=>trivial,fun h=>by cases h⟩
 rename_i j w;split at h
 ·rename_i d hd;have key: ∀(E:Ch) (γ:Bool),((∃c,lk S.m d=some (c,.bool γ))\/(lk S.m d=none/\f d= .bool γ))->(∀s w,(s,w)∈E->∃g,gl S.G s=some g)->(fr d=bif act S.G E then .bool γ else undef)->GOK ops f fr S (some (j,w)) ((d,w)::E) (kZ S.G d γ):=by
   intro E γ an ar O;have hG:=lN (G:=S.G) (d:=d) (g:=γ) (Z.same an);have ha:act (kZ S.G d γ) ((d,w)::E)=(bq γ w&&act S.G E):=by show((match gl (kZ S.G d γ) d with|some g=>bq g w|none=>false)&&act (kZ S.G d γ) E)=_;rw[hG,nX ar]
   have hy: ∀v,fr d=v->cZ ops fr j=match v with| .bool b=>some b|_=>none:=by intro v hv;unfold cZ;rw[hd];show(match fr d with| .bool b=>some b|_=>none)=_;rw[hv]
   refine⟨Z.add an,fun s w' T=>?_,fun al=>?_,fun U=>?_⟩
   ·rcases a0m.1 T with e|T
    ·injection e with e1 e2;subst e1;exact⟨γ,hG⟩
    obtain⟨r,a3⟩:=ar s w' T;exact⟨r,gl_add a3⟩
   ·rw[ha,a03]at al;rw[al.2]at O;show cZ ops fr j=some w;rw[hy _ O,bq_eq al.1];rfl
   rw[ha]at U;show cZ ops fr j=none\/cZ ops fr j=some (!w);cases hc:act S.G E with
   |false=>rw[hc]at O;left;rw[hy _ O];rfl
   |true=>
    rw[hc]at O U
    right
    rw[hy _ O]
    cases γ<;>cases w<;>first|rfl|cases U
  split at h
  ·rename_i E γ Y;simp only[a01,a04]at h;obtain⟨rfl,rfl⟩:=h;exact key E γ (.inl ⟨_,Y⟩) (Z.ks d E _ Y) (Z.sl d E _ Y)
  ·cases h
  rename_i Y;split at h
  ·rename_i γ hf;simp only[a01,a04]at h;obtain⟨rfl,rfl⟩:=h;exact key [] γ (.inr ⟨Y,hf⟩) (fun s w T=>by simp at T) (by rw[Z.no d Y,hf];rfl)
  cases h
 cases h
theorem ly{m:List (Nat×Ch×Value)}{G:List (Nat×Bool)}{q q':Option Prop}{c:Ch}{d:Nat}{v:Value}(Y:SS.Rel ⟨m,G⟩ f fr)(hk: ∀s w,(s,w)∈c->∃g,gl G s=some g)(h:putS q c G m d v=some (S',q')):
  SS.Rel S' f (upd fr d (bif act G c then v else undef))/\(fX q'->act G c=true->fX q):=by
 unfold putS at h
 simp only[mH]at h
 split at h
 ·cases h
 rename_i hd
 simp only[a01,a04]at h
 obtain⟨rfl,rfl⟩:=h
 refine⟨⟨fun t O v' T=>?_,fun t T=>?_,fun s g Z=>?_,fun t O v' T s w hm=>?_⟩,fun hq ha=>?_⟩
 ·have E:(bif Nat.beq d t then some (c,v) else lk m t)=some (O,v'):=T;unfold upd;cases hb:Nat.beq d t with
  |true=>
   rw[hb]at E
   simp only[cond_true,a01,a04]at E
   obtain⟨rfl,rfl⟩:=E
   rfl
  |false=>rw[hb]at E;exact Y.sl t O v' E
 ·have E:(bif Nat.beq d t then some (c,v) else lk m t)=none:=T;unfold upd;cases hb:Nat.beq d t with
  |true=>rw[hb]at E;cases E
  |false=>rw[hb]at E;exact Y.no t E
 ·have an:Nat.beq d s=false:=by
   cases hb:Nat.beq d s with
   |false=>rfl
   |true=>have:=a06 hb;subst this;rw[hd]at Z;cases Z
  have e:lk ((d,c,v)::m) s=lk m s:=by show(bif Nat.beq d s then some (c,v) else lk m s)=_;rw[an];rfl
  rcases Y.gs s g Z with⟨c0,U⟩|U
  ·exact .inl ⟨c0,e.trans U⟩
  exact .inr ⟨e.trans U.1,U.2⟩
 ·have E:(bif Nat.beq d t then some (c,v) else lk m t)=some (O,v'):=T;cases hb:Nat.beq d t with
  |true=>
   rw[hb]at E
   simp only[cond_true,a01,a04]at E
   obtain⟨rfl,rfl⟩:=E
   exact hk s w hm
  |false=>rw[hb]at E;exact Y.ks t O v' E s w hm
 cases q with
 |none=>trivial
 |some p=>exact impl_act ha hq
theorem rd_ok(T:S.Rel f fr){c:Ch}(ha:act S.G c=true){x:Operand}(Y:S.can c x=true):dJ fr x=S.rd f x:=by
 cases x with
 |tmp t=>
  show fr t=match lk S.m t with|some x=>x.2|none=>f t
  have E:(match lk S.m t with|some x=>subC x.1 c|none=>true)=true:=Y
  cases O:lk S.m t with
  |none=>exact T.no t O
  |some y=>
   obtain⟨U,v⟩:=y
   rw[O]at E
   rw[T.sl t U v O,act_sub ha E];rfl
 |_=>rfl
theorem ic(hW:W.OK P G0 K d_){o:Oper}{q:Option Prop}{hi:Hint}(hr:S.Rel f fr)(h:stepS P G0 W sz ops f S hi o=some (S',q))(hq:fX q):
  ∃d c E v,o.dst=some d/\Nat.ble (d+1) sz=true/\o.op.operands.toList.all (bm G0)=true/\nK ops f S o.guard=some (c,E)/\
   (act E c=true->∀H,d_ H->PRes P G0 K d_ (dJ fr) ⟨some d,o.op,o.type,o.pos,o.after,none⟩ H v)/\SS.Rel S' f (upd fr d (bif act E c then v else undef)):=by
 unfold stepS at h
 simp only[fcH_eq,fcV_eq]at h
 split at h
 ·cases h
 rename_i d hd
 cases hb:(Nat.ble (d+1) sz&&o.op.operands.toList.all (bm G0)) with
 |false=>rw[hb]at h;cases h
 |true=>
  rw[hb]at h
  simp only[cond_true]at h
  rw[a03]at hb
  split at h
  ·cases h
  rename_i c E hc
  have T:=gy hr hc
  split at h
  ·rename_i s a b a3;split at h
   ·rename_i cc γ hl;cases O:(subC cc c&&(S.can ((s,true)::c) a&&S.can ((s,false)::c) b)) with
    |false=>rw[O]at h;cases h
    |true=>
     rw[O]at h
     simp only[cond_true]at h
     simp only[a03]at O
     split at h
     ·rename_i v hv;have ar:(∃c,lk S.m s=some (c,.bool γ))\/(lk S.m s=none/\f s= .bool γ):= .inl ⟨_,hl⟩;have Z:=SS.Rel.add (S:=⟨S.m,E⟩) T.rel (d:=s) (g:=γ) ar;have hG:=lN (G:=E) (d:=s) (g:=γ) (T.rel.same ar);have ax: ∀s' w,(s',w)∈c->∃g,gl (kZ E s γ) s'=some g:=fun s' w hm=>by obtain⟨r,a4⟩:=T.ks s' w hm;exact⟨r,gl_add a4⟩
      have U:act (kZ E s γ) c=act E c:=nX T.ks;obtain⟨h1,_⟩:=ly Z ax h;rw[U]at h1;refine⟨d,c,E,v,hd,hb.1,hb.2,hc,fun ha H hH=>?_,h1⟩;refine .val ⟨?_⟩;rw[a3];show gW (dJ fr) (.tmp s) a b H=_;have e0:dJ fr (.tmp s)= .bool γ:=by have:=T.rel.sl s cc _ hl;rw[act_sub ha O.1]at this;exact this
      unfold gW;rw[e0];show some (AN.val (bif γ then dJ fr a else dJ fr b),H)=_;rw[ppk_ok (fun _=>rfl) hv];have Y: ∀(w:Bool) (x:Operand),γ=w->S.can ((s,w)::c) x=true->dJ fr x=S.rd f x:=by intro w x hw hx;have a5:SS.Rel ⟨S.m,kZ E s γ⟩ f fr:=Z;refine rd_ok (S:=⟨S.m,kZ E s γ⟩) a5 (c:=(s,w)::c) ?_ hx;show((match gl (kZ E s γ) s with|some g=>bq g w|none=>false)&&act (kZ E s γ) c)=true;rw[hG,U,ha,hw];cases w<;>rfl
      cases γ with
      |true=>rw[cond_true,cond_true,Y true a V O.2.1]
      |false=>rw[cond_false,cond_false,Y false b V O.2.2]
     cases h
   cases h
  cases O:o.op.operands.toList.all (S.can c) with
  |false=>rw[O]at h;cases h
  |true=>
   rw[O]at h
   simp only[cond_true]at h
   split at h
   ·rename_i v q0 hp;obtain⟨h1,h2⟩:=ly T.rel T.ks h;refine⟨d,c,E,v,hd,hb.1,hb.2,hc,fun ha H hH=>?_,h1⟩;refine pop_ok hW hH (fun x hx=>?_) hp (h2 hq ha);have:=a0s.1 O x hx;exact rd_ok (S:=⟨S.m,E⟩) T.rel ha this
   cases h
theorem wo_do{d:Nat}{o:Oper}{c:Ch}{E:List (Nat×Bool)}{v:Value}(hd:o.dst=some d)(hb:Nat.ble (d+1) sz=true)(U:o.op.operands.toList.all (bm G0)=true)(T:GOK ops f fr S o.guard c E)
  (Y:act E c=true->∀H,d_ H->PRes P G0 K d_ (dJ fr) ⟨some d,o.op,o.type,o.pos,o.after,none⟩ H v) (O:d_ H) (h: ∀H,d_ H->WO P G0 K sz ops os k (upd fr d (bif act E c then v else undef)) H Q):WO P G0 K sz ops (o::os) k fr H Q:=by
 obtain⟨Z,op,ty,pos,af,gd⟩:=o
 simp only at hd U T Y
 subst hd
 cases ha:act E c with
 |true=>
  rw[ha]at h
  have base:WO P G0 K sz ops (⟨some d,op,ty,pos,af,none⟩::os) k fr H Q:=by
   cases Y ha H O with
   |val hv=>exact ad hv U hb (h H O)
   |call g args he _ hc=>exact wo_callG he U hb hc (by rintro v' H' ⟨rfl,hJ⟩;exact h H' hJ)
  cases gd with
  |none=>exact base
  |some jw=>
   obtain⟨j,w⟩:=jw
   exact aA (T.on ha) V base
 |false=>
  rw[ha]at h
  have:=T.off ha
  cases gd with
  |none=>exact absurd this id
  |some jw=>
   obtain⟨j,w⟩:=jw
   rcases this with h1|h1
   ·exact cU h1 hb (h H O)
   exact wo_gf h1 V hb (h H O)
def bnD:ID->Bool
 | .x []=>true
 | .x _=>false
 |_=>true
theorem okD_r{i:Nat}: ∀{D:List (Nat×ID)},D.all (fun e=>bnD e.2)=true->okD ops i .r D
 | [],_=>trivial
 |(j,e)::D,h=>by
  simp only[a0o,a03]at h;refine⟨.inr ?_,okD_r h.2⟩;cases e with
  |x W=>
   cases W with
   |nil=>trivial
   |cons a b=>exact absurd h.1 (by simp[bnD])
  |_=>trivial
theorem okD_x{i:Nat}: ∀{D:List (Nat×ID)},D.all (fun e=>bnD e.2)=true->okD ops i (.x []) D
 | [],_=>trivial
 |(j,e)::D,h=>by
  simp only[a0o,a03]at h;refine⟨.inr ?_,okD_x h.2⟩;cases e with
  |x W=>
   cases W with
   |nil=>exact⟨trivial,trivial⟩
   |cons a b=>exact absurd h.1 (by simp[bnD])
  |l b=>exact a0f
  |q S=>exact fun b hb=>absurd hb a0f
  |n B=>exact fun b hb=>absurd hb a0f
  |_=>trivial
theorem wf_weak{D:List (Nat×ID)}{i j:Nat}{e:ID}(Y: ∀g,e.fits g->hN g=true)(h:WF2 P G0 K sz ops ((j,.r)::D) i os k f H Q):WF2 P G0 K sz ops ((j,e)::D) i os k f H Q:=⟨fun t fs Z E=>by
 refine h.out t fs Z ?_;cases fs with
 |nil=>exact absurd E id
 |cons x fs=>
  obtain⟨a,g⟩:=x
  obtain⟨O,T,U⟩:=E
  exact⟨O,Y g T,U⟩⟩
theorem wf_callx{d:Tmp}{op:Op}{ty:TypeId}{pos:String}{af:Array Edge}{D:List (Nat×ID)}{i:Nat}{v:Value}{g:FuncId}{args:List Value}(ha:AP P (dJ f) ⟨some d,op,ty,pos,af,none⟩ {H with log:=[]} (.enter g args,{H with log:=[]}))(ho:op.operands.toList.all (bm G0)=true)(hd:Nat.ble (d+1) sz=true)(hk:gV op=true)
  (hc:C P G0 K g args {H with log:=[]} fun v' H'=>v'=v/\H'={H with log:=[]}) (ar:okD ops i (.x []) D)
  (h:WF2 P G0 K sz ops ((i,.x [])::D) (i+1) os k (upd f d v) H Q):WF2 P G0 K sz ops D i (⟨some d,op,ty,pos,af,none⟩::os) k f H Q:=⟨fun t fs ht Y=>by
 obtain⟨O,v',H2,an,rfl,rfl⟩:=hc.out
 obtain⟨U,h1,h2⟩:=j6 (s:=⟨t,sz,{H with log:=[]}⟩) (d:=some d) (v:=v') hd
 have hi:=fY (ops:=ops) (f:=f) (o:=⟨some d,op,ty,pos,af,none⟩) (n:=H.next) (log:=[]) (W:=[]) V hk (fun b hb=>by simp at hb) t sz H ht
 obtain⟨E,e,s',h3,h4⟩:=h.out U ((i,eG ops ⟨some d,op,ty,pos,af,none⟩ ⟨t,sz,H⟩ H.next [])::fs) (by rw[h2,ht];rfl) ⟨V,hi,Y⟩
 refine⟨Nat.max O E,e,s',?_,h4⟩
 have ax:step P G0 (call P G0 K (Nat.max O E)) ops ⟨some d,op,ty,pos,af,none⟩ ⟨t,sz,{H with log:=[]}⟩=some ⟨U,sz,{H with log:=[]}⟩:=by unfold step bg;simp only[cond_true,ho,fH,ht,ha.eq,gc (a1k O E) _ _ _ _ an];exact h1
 unfold bB iB
 rw[ax]
 simp only[eh hi Y ar,cond_true,d8,a0O]
 refine ep (a1d (a0V O E)) k _ _ (fun x T=>?_) _ h3
 cases Z:bB P G0 (call P G0 K E) ops (i+1) ((i,eG ops ⟨some d,op,ty,pos,af,none⟩ ⟨t,sz,H⟩ H.next [])::fs) os ⟨U,sz,H⟩ with
 |none=>rw[Z]at T;cases T
 |some y=>
  have:=fD (gc (P:=P) (G:=G0) (K:=K) (a0V O E)) _ _ _ _ _ Z
  rw[Z]at T
  show ek (bB P G0 (call P G0 K (Nat.max O E)) ops (i+1) _ os ⟨U,sz,H⟩)=_
  rw[this];exact T⟩
theorem wf_do{D:List (Nat×ID)}{i d:Nat}{o:Oper}{c:Ch}{O:List (Nat×Bool)}{v:Value}(Y:D.all (fun e=>bnD e.2)=true)(hd:o.dst=some d)(hb:Nat.ble (d+1) sz=true)(T:o.op.operands.toList.all (bm G0)=true)(E:GOK ops f fr S o.guard c O)
  (Z:act O c=true->PRes P G0 K (· ={H with log:=[]}) (dJ fr) ⟨some d,o.op,o.type,o.pos,o.after,none⟩ {H with log:=[]} v) (h:WF2 P G0 K sz ops ((i,.r)::D) (i+1) os k (upd fr d (bif act O c then v else undef)) H Q):WF2 P G0 K sz ops D i (o::os) k fr H Q:=by
 obtain⟨an,op,ty,pos,af,gd⟩:=o
 simp only at hd T E Z
 subst hd
 cases ha:act O c with
 |true=>
  rw[ha]at h
  have base:WF2 P G0 K sz ops D i (⟨some d,op,ty,pos,af,none⟩::os) k fr H Q:=by
   cases Z ha with
   |val hv=>exact bf (id:= .r) hv T hb (did_r fun b hb=>by simp at hb) (okD_r Y) h
   |call g args he hk hc=>
    exact wf_callx he T hb hk hc (okD_x Y) (wf_weak (fun g E=>by obtain⟨w,rfl,hw⟩:=E;cases w with
     |nil=>rfl
     |cons a b=>exact absurd (hw a (by simp)) a0f) h)
  cases gd with
  |none=>exact base
  |some jw=>
   obtain⟨j,w⟩:=jw
   exact bk (E.on ha) V base
 |false=>
  rw[ha]at h
  have:=E.off ha
  cases gd with
  |none=>exact absurd this id
  |some jw=>
   obtain⟨j,w⟩:=jw
   have U:=wf_weak (e:= .v) (fun g E=>by rw[show g= .v from E];rfl) h
   rcases this with h1|h1
   ·exact wf_gn h1 hb U
   exact aK h1 V hb U
theorem fW{q:Option Prop}{p:Prop}(h:andO q p):fX q/\p:=by
 cases q with
 |none=>exact⟨trivial,h⟩
 |some q=>exact h
theorem wo_row(T:W.OK P G0 K d_){hs:List (Nat×Hint)}: ∀{a:List Oper} {i:Nat} {S S':SS} {p:Prop} {fr:Fn} {H:Heap},d_ H->rgL P G0 W sz ops f hs i a S=some (S',p)->p->S.Rel f fr->
  (∀E H,d_ H->S'.Rel f E->WO P G0 K sz ops os k E H Q)->WO P G0 K sz ops (a++os) k fr H Q
 | [],i,S,S',p,fr,H,hH,h,_,hr,hk=>by simp only[rgL,a01,a04]at h;obtain⟨rfl,_⟩:=h;exact hk fr H hH hr
 |o::a,i,S,S',p,fr,H,hH,h,hp,hr,hk=>by
  unfold rgL at h;split at h
  ·cases h
  rename_i S1 q h1;split at h
  ·cases h
  rename_i S2 p2 h2;simp only[a01,a04]at h;obtain⟨rfl,rfl⟩:=h;obtain⟨hq,U⟩:=fW hp;obtain⟨d,c,G1,v,Y,Z,e3,e4,e5,e6⟩:=ic T hr h1 hq;exact wo_do Y Z e3 (gy hr e4) e5 hH fun H' O=>wo_row T O h2 U e6 hk
def rs(i:Nat):List Oper->List (Nat×ID)->List (Nat×ID)
 | [],D=>D
 |_::a,D=>rs (i+1) a ((i,.r)::D)
theorem wf_row{hs:List (Nat×Hint)}: ∀{a:List Oper} {i:Nat} {D:List (Nat×ID)} {S S':SS} {p:Prop} {fr:Fn},D.all (fun e=>bnD e.2)=true->rgL P G0 (W0 P G0 K {H with log:=[]}) sz ops f hs i a S=some (S',p)->p->S.Rel f fr->
  (∀E,S'.Rel f E->WF2 P G0 K sz ops (rs i a D) (i+a.length) os k E H Q)->WF2 P G0 K sz ops D i (a++os) k fr H Q
 | [],i,D,S,S',p,fr,_,h,_,hr,hk=>by simp only[rgL,a01,a04]at h;obtain⟨rfl,_⟩:=h;exact hk fr hr
 |o::a,i,D,S,S',p,fr,hD,h,hp,hr,hk=>by
  unfold rgL at h;split at h
  ·cases h
  rename_i S1 q h1;split at h
  ·cases h
  rename_i S2 p2 h2;simp only[a01,a04]at h;obtain⟨rfl,rfl⟩:=h;obtain⟨hq,O⟩:=fW hp;obtain⟨d,c,G1,v,U,Y,Z,e4,e5,e6⟩:=ic ok0 hr h1 hq;refine wf_do hD U Y Z (gy hr e4) (fun ha=>e5 ha _ V) (wf_row (by simp only[a0o,hD,a0J];rfl) h2 O e6 fun E T=>?_);have:=hk E T;rw[a02,show i+(a.length+1)=i+1+a.length by omega]at this;exact this
theorem nC{m:List (Nat×Ch×Value)}{G:List (Nat×Bool)}(O:SS.Rel ⟨m,G⟩ f fr): ∀{E:List Nat} {l:List (Nat×Value)},fins m E=some l->aJ fr l
 | [],l,h=>by simp only[fins,a01]at h;subst h;trivial
 |d::E,l,h=>by
  unfold fins at h;split at h
  ·rename_i v l' T U;simp only[a01]at h;subst h;exact⟨by have:=O.sl d [] v T;exact this,nC O U⟩
  cases h
theorem jJ{m:List (Nat×Ch×Value)}{G:List (Nat×Bool)}(T:SS.Rel ⟨m,G⟩ f fr){lo hi:Nat}{ex:List Nat}(h:m.all (fun e=>inR lo hi ex e.1)=true):Leaves lo hi ex f fr:=⟨fun j O=>by
 refine T.no j ?_;have key: ∀(m:List (Nat×Ch×Value)),m.all (fun e=>inR lo hi ex e.1)=true->lk m j=none:=by
  intro m;induction m with
  |nil=>intro _;rfl
  |cons e m ih=>
   obtain⟨s,x⟩:=e
   intro E
   simp only[a0o,a03]at E
   show(bif Nat.beq s j then some x else lk m j)=none
   cases hb:Nat.beq s j with
   |true=>have:=a06 hb;subst this;rw[O]at E;cases E.1
   |false=>exact ih E.2
 exact key m h⟩
theorem rel0:SS.Rel ⟨[],[]⟩ f f:=⟨fun t c v h=>(by cases h),fun _ _=>rfl,fun s g h=>(by cases h),fun t c v h=>(by cases h)⟩
theorem top_ok{i:Nat}{a:List Oper}{hs:List (Nat×Hint)}{lo hi:Nat}{ex O:List Nat}{l:List (Nat×Value)}{p:Prop}(h:fU P G0 W sz ops f i a hs lo hi ex O=some (l,p)):
  ∃S,rgL P G0 W sz ops f hs i a ⟨[],[]⟩=some (S,p)/\∀fr,S.Rel f fr->∃g,fr=gO (hav lo hi ex g f) l:=by
 unfold fU at h
 split at h
 ·cases h
 rename_i S Y T
 cases hb:S.m.all (fun e=>inR lo hi ex e.1) with
 |false=>rw[hb]at h;cases h
 |true=>
  rw[hb]at h
  simp only[cond_true]at h
  split at h
  ·rename_i l' U;simp only[a01,a04]at h;obtain⟨rfl,rfl⟩:=h;refine⟨S,T,fun fr E=>⟨fr,?_⟩⟩;rw[←(jJ E hb).eq,fS (nC E U)]
  cases h
theorem wk_rg{id:Nat}(hs:List (Nat×Hint))(lo hi:Nat)(ex:List Nat){E:List Nat}{l:List (Nat×Value)}{p:Prop}(h:fU P G0 (W0 P G0 K H) sz ops f 0 ops.toList hs lo hi ex E=some (l,p))(Y:p)
  (U: ∀g,WK P G0 K sz .skip k (gO (hav lo hi ex g f) l) H Q):WK P G0 K sz (.region id ops false) k f H Q:=by
 obtain⟨S,O,T⟩:=top_ok h
 refine ab ?_
 have:=wo_row (os:=[]) (k:=k) (Q:=Q) ok0 V O Y rel0 (fun fr H' e Z=>by obtain⟨g,rfl⟩:=T fr Z;subst e;exact ay (U g))
 rwa [a0p]at this
theorem wk_rgD{id:Nat}(E:(jg ops&&P.follows .mixedOrders)=true)(hs:List (Nat×Hint))(lo hi:Nat)(ex:List Nat){O:List Nat}{l:List (Nat×Value)}{p:Prop}(h:fU P G0 (W0 P G0 K {H with log:=[]}) sz ops f 0 ops.toList hs lo hi ex O=some (l,p))(Z:p)
  (Y: ∀g,WK P G0 K sz .skip k (gO (hav lo hi ex g f) l) H Q):WK P G0 K sz (.region id ops true) k f H Q:=by
 obtain⟨S,T,U⟩:=top_ok h
 refine aC E ?_
 have:=wf_row (os:=[]) (k:=k) (Q:=Q) (D:=[]) V T Z rel0 (fun fr E=>by obtain⟨g,rfl⟩:=U fr E;exact dT (Y g))
 rwa [a0p]at this
theorem wk_rgJ{id:Nat}(d_:Heap->Prop)(hs:List (Nat×Hint))(lo hi:Nat)(ex:List Nat){E:List Nat}{l:List (Nat×Value)}{p:Prop}(U:d_ H)(h:fU P G0 (WJ P G0 K d_) sz ops f 0 ops.toList hs lo hi ex E=some (l,p))(Z:p)
  (Y: ∀g H,d_ H->WK P G0 K sz .skip k (gO (hav lo hi ex g f) l) H Q):WK P G0 K sz (.region id ops false) k f H Q:=by
 obtain⟨S,O,T⟩:=top_ok h
 refine ab ?_
 have:=wo_row (os:=[]) (k:=k) (Q:=Q) okJ U O Z rel0 (fun fr H' e hr=>by obtain⟨g,rfl⟩:=T fr hr;exact ay (Y g H' e))
 rwa [a0p]at this
theorem wo_rg(n i:Nat)(hs:List (Nat×Hint))(lo hi:Nat)(ex:List Nat){os:List Oper}{E:List Nat}{l:List (Nat×Value)}{p:Prop}(h:fU P G0 (W0 P G0 K H) sz ops f i (en os n) hs lo hi ex E=some (l,p))(Y:p)
  (U: ∀g,WO P G0 K sz ops (ev os n) k (gO (hav lo hi ex g f) l) H Q):WO P G0 K sz ops os k f H Q:=by
 obtain⟨S,O,T⟩:=top_ok h
 have:=wo_row (os:=ev os n) (k:=k) (Q:=Q) ok0 V O Y rel0 (fun fr H' e Z=>by obtain⟨g,rfl⟩:=T fr Z;subst e;exact U g)
 rwa [bR,bW,a1i]at this
end
end Go.R
end
noncomputable section
namespace Go.R
def foc:Nat->Code->List Fr->Code×List Fr
 |0,c,k=>(c,k)
 |n+1,.seq a b,k=>foc n a (.seq b::k)
 |n+1,.block id b,k=>foc n b (.block id::k)
 |n+1,.skip,.seq b::k=>foc n b k
 |n+1,.skip,.block _::k=>foc n .skip k
 |n+1,.exit id,.seq _::k=>foc n (.exit id) k
 |n+1,.exit id,.block id'::k=>bif Nat.beq id id' then foc n .skip k else foc n (.exit id) k
 |_+1,c,k=>(c,k)
section
variable {P:Program} {G:Nat} {K:bM} {sz:Nat} {Q:Ex->Fn->Heap->Prop} {f:Fn} {H:Heap}
theorem wk_foc': ∀(n:Nat) (c:Code) (k:List Fr),WK P G K sz (foc n c k).1 (foc n c k).2 f H Q->WK P G K sz c k f H Q:=by
 intro n;induction n with
 |zero=>intro c k h;exact h
 |succ n ih=>
  intro c k h
  cases c with
  |seq a b=>exact aI (ih _ _ h)
  |block id b=>exact gf (ih _ _ h)
  |skip=>
   cases k with
   |nil=>exact h
   |cons x k=>
    cases x with
    |seq b=>exact aj (ih _ _ h)
    |block id=>exact eM (ih _ _ h)
  |exit id=>
   cases k with
   |nil=>exact h
   |cons x k=>
    cases x with
    |seq b=>exact dC (ih _ _ h)
    |block id'=>
     have E:WK P G K sz (bif Nat.beq id id' then foc n .skip k else foc n (.exit id) k).1 (bif Nat.beq id id' then foc n .skip k else foc n (.exit id) k).2 f H Q:=h
     cases hb:Nat.beq id id' with
     |true=>
      have:=a06 hb
      subst this
      rw[hb]at E
      exact eN (ih _ _ E)
     |false=>
      rw[hb]at E
      exact kw hb (ih _ _ E)
  |_=>exact h
variable {c c1 c2:Code} {k k1 k2:List Fr}
theorem ai(n:Nat)(E:foc n c k=(c1,k1))(h:WK P G K sz c1 k1 f H Q):WK P G K sz c k f H Q:=wk_foc' n c k (by rw[E];exact h)
theorem wk_if(n m:Nat){x:Operand}{a b:Code}{v:Bool}(hx:dJ f x= .bool v)(Y:bm G x=true)(O:foc n a k=(c1,k1))(T:foc m b k=(c2,k2))(Z:v=true->WK P G K sz c1 k1 f H Q)(U:v=false->WK P G K sz c2 k2 f H Q):WK P G K sz (.cond x a b) k f H Q:=
 cN hx Y (fun E=>ai n O (Z E)) (fun E=>ai m T (U E))
theorem bn(n:Nat){x:Operand}{a b:Code}{v:Bool}(U:dJ f x= .bool v)(T:v=true)(O:bm G x=true)(E:foc n a k=(c1,k1))(h:WK P G K sz c1 k1 f H Q):WK P G K sz (.cond x a b) k f H Q:=wk_true U T O (ai n E h)
theorem gK(n:Nat){x:Operand}{a b:Code}{v:Bool}(U:dJ f x= .bool v)(T:v=false)(O:bm G x=true)(E:foc n b k=(c1,k1))(h:WK P G K sz c1 k1 f H Q):WK P G K sz (.cond x a b) k f H Q:=mY U T O (ai n E h)
theorem wk_join(d_:Fn->Heap->Prop)(O:(∀E H',d_ E H'->WK P G K sz .skip k E H' Q)->WK P G K sz c k f H Q)(T: ∀E H',d_ E H'->WK P G K sz .skip k E H' Q):WK P G K sz c k f H Q:=O T
theorem wr(n:Nat){id:Nat}{ops:Array Oper}(hs:List (Nat×Hint))(lo hi:Nat)(ex:List Nat)(l:List (Nat×Value)){p:Prop}(T:p)(h:fU P G (W0 P G K H) sz ops f 0 ops.toList hs lo hi ex (ec Prod.fst l)=some (l,p))(E:foc n .skip k=(c1,k1))
  (O: ∀g,WK P G K sz c1 k1 (gO (hav lo hi ex g f) l) H Q):WK P G K sz (.region id ops false) k f H Q:=wk_rg hs lo hi ex h T fun g=>ai n E (O g)
theorem wrD(n:Nat){id:Nat}{ops:Array Oper}(hs:List (Nat×Hint))(lo hi:Nat)(ex:List Nat)(l:List (Nat×Value)){p:Prop}(T:p)(U:(jg ops&&P.follows .mixedOrders)=true)(h:fU P G (W0 P G K {H with log:=[]}) sz ops f 0 ops.toList hs lo hi ex (ec Prod.fst l)=some (l,p))(E:foc n .skip k=(c1,k1))
  (O: ∀g,WK P G K sz c1 k1 (gO (hav lo hi ex g f) l) H Q):WK P G K sz (.region id ops true) k f H Q:=wk_rgD U hs lo hi ex h T fun g=>ai n E (O g)
theorem wro(n i:Nat){ops:Array Oper}{os E:List Oper}(hs:List (Nat×Hint))(lo hi:Nat)(ex:List Nat)(l:List (Nat×Value)){p:Prop}(U:p)(h:fU P G (W0 P G K H) sz ops f i (en os n) hs lo hi ex (ec Prod.fst l)=some (l,p))(O:ev os n=E)
  (T: ∀g,WO P G K sz ops E k (gO (hav lo hi ex g f) l) H Q):WO P G K sz ops os k f H Q:=wo_rg n i hs lo hi ex h U (by rw[O];exact T)
def HP(_:List (Nat×Hint))(p:Prop):Prop:=p
theorem Hn_:HP [] True:=trivial
theorem Ha_{hs:List (Nat×Hint)}{p q:Prop}(h:q)(r:HP hs p):HP hs (q/\p):=⟨h,r⟩
theorem Hl_(i:Nat){H:Heap}{t:TypeId}{a v:Value}{hs:List (Nat×Hint)}{p:Prop}(h:LDv P H t a v)(r:HP hs p):HP ((i,.o v)::hs) (LDv P H t a v/\p):=⟨h,r⟩
theorem Hc_(i:Nat){H:Heap}{g:FuncId}{args:List Value}{v:Value}{hs:List (Nat×Hint)}{p:Prop}(h:C P G K g args H fun v' H'=>v'=v/\H'=H)(r:HP hs p):HP ((i,.o v)::hs) ((C P G K g args H fun v' H'=>v'=v/\H'=H)/\p):=⟨h,r⟩
theorem Ho_(i:Nat)(x:Hint){hs:List (Nat×Hint)}{p q:Prop}(h:q)(r:HP hs p):HP ((i,x)::hs) (q/\p):=⟨h,r⟩
theorem wrp(n:Nat){id:Nat}{ops:Array Oper}{hs:List (Nat×Hint)}(lo hi:Nat)(ex:List Nat)(l:List (Nat×Value)){p:Prop}(T:HP hs p)(h:fU P G (W0 P G K H) sz ops f 0 ops.toList hs lo hi ex (ec Prod.fst l)=some (l,p))(E:foc n .skip k=(c1,k1))
  (O: ∀g,WK P G K sz c1 k1 (gO (hav lo hi ex g f) l) H Q):WK P G K sz (.region id ops false) k f H Q:=wr n hs lo hi ex l T h E O
theorem wrDp(n:Nat){id:Nat}{ops:Array Oper}{hs:List (Nat×Hint)}(lo hi:Nat)(ex:List Nat)(l:List (Nat×Value)){p:Prop}(T:HP hs p)(U:(jg ops&&P.follows .mixedOrders)=true)(h:fU P G (W0 P G K {H with log:=[]}) sz ops f 0 ops.toList hs lo hi ex (ec Prod.fst l)=some (l,p))(E:foc n .skip k=(c1,k1))
  (O: ∀g,WK P G K sz c1 k1 (gO (hav lo hi ex g f) l) H Q):WK P G K sz (.region id ops true) k f H Q:=wrD n hs lo hi ex l T U h E O
theorem dA(n i:Nat){ops:Array Oper}{os E:List Oper}{hs:List (Nat×Hint)}(lo hi:Nat)(ex:List Nat)(l:List (Nat×Value)){p:Prop}(U:HP hs p)(h:fU P G (W0 P G K H) sz ops f i (en os n) hs lo hi ex (ec Prod.fst l)=some (l,p))(O:ev os n=E)
  (T: ∀g,WO P G K sz ops E k (gO (hav lo hi ex g f) l) H Q):WO P G K sz ops os k f H Q:=wro n i hs lo hi ex l U h O T
theorem ah(n:Nat){ops:Array Oper}(E:foc n .skip k=(c1,k1))(h:WK P G K sz c1 k1 f H Q):WO P G K sz ops [] k f H Q:=ay (ai n E h)
theorem bt(n:Nat){ops:Array Oper}{D:List (Nat×ID)}{i:Nat}(E:foc n .skip k=(c1,k1))(h:WK P G K sz c1 k1 f H Q):WF2 P G K sz ops D i [] k f H Q:=dT (ai n E h)
end
theorem vA{a b:Prop}(h:a)(k:b):a/\b:=⟨h,k⟩
theorem vi{n:Int}(h: -9223372036854775808<=n/\n<9223372036854775808:=by first|(dsimp only;omega)|omega):rng .i64 n:=h
section
variable {P:Program} {G:Nat} {K:bM} {H:Heap} {F:Fz} {B:Base} {L R:List Fp}
theorem ld1{b o i:Nat}{cs:List Value}{w:Value}{t:TypeId}(hc:HC H.get b o cs)(ha:fN P t=some false)(T:cs[i]?=some w):LDv P H t (.pointer (some ⟨b,o+i,none⟩)) w:=by obtain⟨all,U,Y,E,O⟩:=hc.get T;show ovl (H.loadV P t ⟨b,o+i,none⟩) H=_;unfold Heap.loadV;rw[ha];simp only;unfold Heap.cellAt;simp only[E,gE,O];rfl
theorem ldN{b o i n:Nat}{cs l:List Value}{t:TypeId}(hc:HC H.get b o cs)(ha:fN P t=some true)(hs:dV P t=some n)(Y:Nat.ble (i+n) cs.length=true)(E:en (ev cs i) n=l):LDv P H t (.pointer (some ⟨b,o+i,none⟩)) (.agg ⟨l⟩):=by obtain⟨all,Z,ro,O,T,U⟩:=hc.part (a0b Y);rw[bR,bW]at E;show ovl (H.loadV P t ⟨b,o+i,none⟩) H=_;unfold Heap.loadV;rw[ha];simp only[hs];unfold Heap.loadN;rw[←E];simp only[O,bR,bW,bz,T,U,a0M,cond_true];rfl
theorem hc0{b o:Nat}{cs:List Value}(h:HC H.get b o cs):HC ({H with log:=[]}:Heap).get b o cs:=h
theorem cq{f:FuncId}{args:List Value}{Q:Value->Heap->Prop}{v:Value}(h:C P G K f args H Q)(E: ∀v' H',Q v' H'->v'=v/\H'=H):C P G K f args H fun v' H'=>v'=v/\H'=H:=h.mono E
section
variable {α:Type} [Rp α] {v:Value} {l:List α}
theorem Sv.view{get:Nat->Option AObj}(h:Sv F get v l): ∃cf:Nat->List Value,∀(j:Nat),(∀d:α,j<l.length->Rp.rep F (cf j) (l.getD j d)/\HC get (sB v) (sO v+j *Rp.sz α) (cf j))/\(l.length<=j->cf j=[]):=by
 have O: ∀j,∃cs,(∀(d:α),j<l.length->Rp.rep F cs (l.getD j d)/\HC get (sB v) (sO v+j *Rp.sz α) cs)/\(l.length<=j->cs=[]):=by
  intro j;by_cases E:j<l.length
  ·obtain⟨cs,U,Y⟩:=h.at (a09 E);refine⟨cs,fun d _=>⟨?_,Y⟩,fun h=>absurd h M⟩;rw[a08,a09 E];exact U
  exact⟨[],fun _ T=>absurd T E,fun _=>rfl⟩
 exact⟨fun j=>(O j).choose,fun j=>(O j).choose_spec⟩
abbrev VW(F:Fz)(get:Nat->Option AObj)(v:Value)(l:List α)(cf:Nat->List Value)(j:Nat):Prop:=(∀d:α,j<l.length->Rp.rep F (cf j) (l.getD j d)/\HC get (sB v) (sO v+j *Rp.sz α) (cf j))/\(l.length<=j->cf j=[])
theorem Sv.ix{get:Nat->Option AObj}(h:Sv F get v l){j:Int}(O:0<=j:=by first|(dsimp only;omega)|omega)(E:j<l.length:=by first|(dsimp only;omega)|omega):IX v j:=by
 rcases h with⟨_,rfl⟩|⟨b,off,k,o,rfl,Y,cs,U,ro,rfl,Z,T,h5,h6⟩
 ·simp at E;omega
 exact⟨b,off,_,k,V,O,E,T⟩
end
def sA:Value->Option Addr
 | .slice a _ _=>a
 |_=>none
def sK:Value->Nat
 | .slice _ _ k=>k
 |_=>0
abbrev cA(cs:List Value)(i:Nat):Option Addr:=sA (cs.getD i undef)
abbrev cK(cs:List Value)(i:Nat):Nat:=sK (cs.getD i undef)
end
theorem bh{α:Type}{l:List α}{j:Nat}{d:α}(h:l.length<=j):l.getD j d=d:=by rw[a08,a1f h];rfl
section
variable {F:Fz} {get:Nat->Option AObj} {v:Value} {cf:Nat->List Value} {j:Nat}
theorem vI{l:List Int}(h:VW F get v l cf j)(T:j<l.length:=by first|(dsimp only;omega)|omega):HC get (sB v) (sO v+j *Rp.sz Int) [.int .i64 (l.getD j 0)]:=by obtain⟨⟨O,_⟩,E⟩:=h.1 0 T;rw[O]at E;exact E
theorem fI{l:List Int}(h:VW F get v l cf j):in64 (l.getD j 0):=by
 rcases a0c j l.length with hj|hj
 ·exact(h.1 0 hj).1.2
 rw[bh hj];decide
theorem vS{l:List Str}(h:VW F get v l cf j)(T:j<l.length:=by first|(dsimp only;omega)|omega):HC get (sB v) (sO v+j *Rp.sz Str) [.string ⟨⟨(l.getD j default).b⟩⟩]:=by obtain⟨O,E⟩:=h.1 default T;rw[show cf j=_ from O]at E;exact E
end
theorem vq{a b:Int}(ha:in64 a)(hb:b≠ -1):rng .i64 (a.tdiv b):=by
 show in64 _;by_cases O:b=0
 ·subst O;rw[Int.tdiv_zero];decide
 have E:(a.tdiv b).natAbs=a.natAbs/b.natAbs:=Int.natAbs_tdiv a b;by_cases T:b=1
 ·subst T;rw[Int.tdiv_one];exact ha
 have U:2<=b.natAbs:=M
 have Y:(a.tdiv b).natAbs *2<=a.natAbs:=by rw[E];exact a0g (Nat.mul_le_mul_left _ U) (Nat.div_mul_le_self _ _)
 obtain⟨Z,h7⟩:=ha;clear E;constructor<;>omega
theorem ve{n m:Int}(h:n=m)(E: -9223372036854775808<=m/\m<9223372036854775808):n=m/\rng .i64 m:=⟨h,E⟩
section
variable {P:Program} {t:TypeId} {fs:Array Field} {xs ys:List Value} {bs:List Bool}
theorem agNe(O:xs.all dx=true)(T:ys.all dx=true)(hu:P.underlying t=some (.struct fs))(hs:P.stoodInHeld t=false)(hg:P.eqGuardType P.depth t=false)(h:EqFs P 9999 ⟨xs⟩ ⟨ys⟩ fs.toList bs):AGB P .neq t (.agg ⟨xs⟩) (.agg ⟨ys⟩) (.bool (!bs.all id)):=by
 intro ρ x y yt d ty pos af gd H E U;refine⟨?_⟩;show aBin P ρ _ .neq t (ρ x) y H=_;rw[E];show bL P ρ _ H=_;unfold bL;have h1:((Op.binOp .neq t x y yt).operands.toList.all fun x=>jM (ρ x))=true:=by simp[Op.operands,E,U,noA_cells O,noA_cells T]
 simp only[h1,cond_true];have h2:aB P (execOp ρ ⟨d,.binOp .neq t x y yt,ty,pos,af,gd⟩)=some (.value (Value.bool (!bs.all id))):=by
  unfold execOp;simp only[E,U,aH];have Y:aB P (eqGuard .neq t x y (.agg ⟨xs⟩) (.agg ⟨ys⟩))=some ():=by simp[eqGuard,hg]
  have Z:aB P (binOp .neq t (.agg ⟨xs⟩) (.agg ⟨ys⟩))=some (Value.bool (!bs.all id)):=by show aB P (Op.equal t (.agg ⟨xs⟩) (.agg ⟨ys⟩)>>=fun b=>(Pure.pure (Value.bool (!b)):Sem Value))=_;rw[aH,show Op.equal t (.agg ⟨xs⟩) (.agg ⟨ys⟩)=Op.equalIn (9999+1) t (.agg ⟨xs⟩) (.agg ⟨ys⟩) from V,eq_struct hu hs h];rfl
  simp only[Y,Z,a0j];rfl
 rw[h2];rfl
end
end Go.R
end
noncomputable section
namespace Go.R
section
variable {B:Base} {F:Fz} {H:Heap} {L R:List Fp} {x:Fp}
theorem HS.first(h:HS B F H (x::L) R):HS B F H [x] R:=HS.sub h (by simp)
theorem HS.didW{E:Heap}{W:List Nat}(h:HS (.of {E with log:=[]} W) F H L R): ∀b,b∈H.log->E.next<=b\/b∈W:=fun b hb=>by
 rcases h.log b hb with h1|h1|h1
 ·simp[Base.of]at h1
 ·exact .inl h1
 exact .inr h1
end
end Go.R
end
namespace Go.R
theorem eg{P:Program}{ρ:Operand->Value}{d:Option Tmp}{ty:TypeId}{pos:String}{af:Array Edge}{gd:Option (Nat×Bool)}{H:Heap}{x:Operand}{a:Addr}(E:ρ x= .pointer (some a)):AP P ρ ⟨d,.nilCheck x,ty,pos,af,gd⟩ H (.val (.pointer (some a)),H):=by refine⟨?_⟩;show opNil (ρ x) H=_;rw[E];rfl
end Go.R
namespace Go.R
end Go.R
namespace Go.R
theorem HS.nin{B:Base}{F:Fz}{H:Heap}{L R:List Fp}(h:HS B F H L R){i j:Nat}{p q:Fp}(hi:L[i]?=some p)(Z:L[j]?=some q)(T:i≠j){b:Nat}(hb:b∈p.map Prod.fst):b∉q.map Prod.fst:=by
 intro hq;have hc:=h.callOwn hi;have E:=hc.nd;have U:q∈L.set i []:=by refine a0n (i:=j) ?_;rw[List.getElem?_set_ne T];exact Z
 simp only[a0K,a0O,a0L,a0Y,a1l]at E;refine E.2.2 b hb b ?_ V;obtain⟨⟨Y,o⟩,O,rfl⟩:=a0t.1 hq;exact a0t.2 ⟨(Y,o),a0Q.2 ⟨q,List.mem_append_left _ U,O⟩,V⟩
end Go.R
namespace Go.R
theorem HS.ownlt{B:Base}{F:Fz}{H:Heap}{L R:List Fp}(h:HS B F H L R){i:Nat}{p:Fp}(hi:L[i]?=some p): ∀b,b∈p.map Prod.fst->b<H.next:=by intro b hb;obtain⟨⟨O,o⟩,E,rfl⟩:=a0t.1 hb;exact(h.own p (.inl (a0n hi)) O o E).2.1
end Go.R
noncomputable section
set_option linter.unusedVariables false
namespace Go.R
open Go
section
variable {P:Program} {G:Nat} {K:bM} {sz:Nat} {Q:Ex->Fn->Heap->Prop} {ops:Array Oper} {D:List (Nat×ID)} {i:Nat} {os:List Oper} {k k1 k2:List Fr} {c c1 c2:Code} {f:Fn} {H H1:Heap} {v:Value}
variable {d:Tmp} {ty:TypeId} {pos:String} {af:Array Edge} {x y:Operand}
theorem zi(n m:Nat){a b:Code}{v:Bool}(Y:v=true->WK P G K sz c1 k1 f H Q)(T:v=false->WK P G K sz c2 k2 f H Q)(Z:dJ f x= .bool v:=by rfl)(U:bm G x=true:=by rfl)(E:foc n a k=(c1,k1):=by rfl)(O:foc m b k=(c2,k2):=by rfl):WK P G K sz (.cond x a b) k f H Q:=wk_if n m Z U E O Y T
theorem zd(n m:Nat){a b:Code}{p:Prop}{i:Decidable p}(Y:p->WK P G K sz c1 k1 f H Q)(T: ¬p->WK P G K sz c2 k2 f H Q)(Z:dJ f x= .bool (@decide p i):=by rfl)(U:bm G x=true:=by rfl)(E:foc n a k=(c1,k1):=by rfl)(O:foc m b k=(c2,k2):=by rfl):WK P G K sz (.cond x a b) k f H Q:=wk_if n m Z U E O (fun h=>Y (of_decide_eq_true h)) fun h=>T (of_decide_eq_false h)
theorem za(v:Value)(h:WO P G K sz ops os k (upd f d v) H Q)(O:dJ f x=v:=by rfl)(E:(Op.assign x).operands.toList.all (bm G)=true:=by rfl)(hd:Nat.ble (d+1) sz=true:=by rfl):WO P G K sz ops (⟨some d,.assign x,ty,pos,af,none⟩::os) k f H Q:=wa v O E hd h
theorem zm(v:Value)(h:WO P G K sz ops os k (upd f d v) H Q)(O:dJ f x=v:=by rfl)(E:(Op.move x).operands.toList.all (bm G)=true:=by rfl)(hd:Nat.ble (d+1) sz=true:=by rfl):WO P G K sz ops (⟨some d,.move x,ty,pos,af,none⟩::os) k f H Q:=wm v O E hd h
theorem zfm(v:Value)(h:WF2 P G K sz ops ((i,.v)::D) (i+1) os k (upd f d v) H Q)(O:dJ f x=v:=by rfl)(E:(Op.move x).operands.toList.all (bm G)=true:=by rfl)(hd:Nat.ble (d+1) sz=true:=by rfl):WF2 P G K sz ops D i (⟨some d,.move x,ty,pos,af,none⟩::os) k f H Q:=fm v O E hd h
theorem zc{args:Array Operand}{E:Array TypeId}{g:FuncId}{fn:Func}{l:List Value}{R:Value->Heap->Prop}(hc:C P G K g l H R)(h: ∀v O,R v O->WO P G K sz ops os k (upd f d v) O Q)(T:P.funcs[g]?=some fn:=by rfl)(hb:(fn.body.isSome&& !(fn.name== "runtime.NumGoroutine"))=true:=by rfl)(U:ec (dJ f) args.toList=l:=by rfl)(Y:(Op.call ⟨.value (.func g),args,E⟩).operands.toList.all (bm G)=true:=by rfl)(hd:Nat.ble (d+1) sz=true:=by rfl):
  WO P G K sz ops (⟨some d,.call ⟨.value (.func g),args,E⟩,ty,pos,af,none⟩::os) k f H Q:=e9 (aX T hb U) Y hd hc h
theorem zp{s:TypeId}{b o n:Nat}(E:Nat)(h:WF2 P G K sz ops ((i,.v)::D) (i+1) os k (upd f d (.pointer (some ⟨b,E,none⟩))) H Q)(T:dJ f x= .pointer (some ⟨b,o,none⟩):=by rfl)(ha:jz P s (.pointer (some ⟨b,o,none⟩)) n=some (.pointer (some ⟨b,E,none⟩)):=by rfl)(O:(Op.fieldAddr s x n).operands.toList.all (bm G)=true:=by rfl)(hd:Nat.ble (d+1) sz=true:=by rfl):WF2 P G K sz ops D i (⟨some d,.fieldAddr s x n,ty,pos,af,none⟩::os) k f H Q:=bf (bP T ha) O hd (did_v V) (jL _) h
theorem zl{t:TypeId}{b o O:Nat}(j:Nat){cs:List Value}{w:Value}(hc:HC ({H with log:=[]}:Heap).get b o cs)(h:WF2 P G K sz ops ((i,.l b)::D) (i+1) os k (upd f d w) H Q)(E:dJ f x= .pointer (some ⟨b,O,none⟩):=by rfl)(ha:fN P t=some false:=by rfl)(T:O=o+j:=by rfl)(Z:cs[j]?=some w:=by rfl)(Y:(Op.load t x).operands.toList.all (bm G)=true:=by rfl)(hd:Nat.ble (d+1) sz=true:=by rfl)(U:okB ops i (.l b) D=true:=by rfl):WF2 P G K sz ops D i (⟨some d,.load t x,ty,pos,af,none⟩::os) k f H Q:=bf (bc (H:={H with log:=[]}) E ha hc T Z) Y hd (fZ E) (kb U) h
theorem zx(α:Type) [Rp α]{t e:TypeId}{Z:IntKind}{F:Fz}{l:List α}(j:Nat)(hs:Sv F ({H with log:=[]}:Heap).get v l)(h:WF2 P G K sz ops ((i,.v)::D) (i+1) os k (upd f d (.pointer (some ⟨sB v,sO v+j *Rp.sz α,none⟩))) H Q)(E:(j:Int)<l.length:=by first|(dsimp only;omega)|omega)(U:dJ f x=v:=by rfl)(hi:dJ f y= .int Z (j:Int):=by rfl)(T:P.underlying t=some (.slice e):=by rfl)(Y:dV P e=some (Rp.sz α):=by rfl)(O:(Op.indexAddr t x y).operands.toList.all (bm G)=true:=by rfl)(hd:Nat.ble (d+1) sz=true:=by rfl):
  WF2 P G K sz ops D i (⟨some d,.indexAddr t x y,ty,pos,af,none⟩::os) k f H Q:=bf (fM (H:={H with log:=[]}) U hi T Y hs M E) O hd (did_v rfl) (jL _) h
theorem zy(α:Type) [Rp α]{t e:TypeId}{ki:IntKind}{F:Fz}{l:List α}(j:Int)(hs:Sv F ({H with log:=[]}:Heap).get v l)(h:WF2 P G K sz ops ((i,.v)::D) (i+1) os k (upd f d (.pointer (some ⟨sB v,sO v+j.toNat *Rp.sz α,none⟩))) H Q)(E:0<=j:=by first|(dsimp only;omega)|omega)(O:j<l.length:=by first|(dsimp only;omega)|omega)(Y:dJ f x=v:=by rfl)(hi:dJ f y= .int ki j:=by rfl)(U:P.underlying t=some (.slice e):=by rfl)(Z:dV P e=some (Rp.sz α):=by rfl)(T:(Op.indexAddr t x y).operands.toList.all (bm G)=true:=by rfl)(hd:Nat.ble (d+1) sz=true:=by rfl):
  WF2 P G K sz ops D i (⟨some d,.indexAddr t x y,ty,pos,af,none⟩::os) k f H Q:=bf (fM (H:={H with log:=[]}) Y hi U Z hs E O) T hd (did_v rfl) (jL _) h
end
end Go.R
end
noncomputable section
set_option linter.unusedVariables false
namespace Go.R
def ownAt(L:List Fp)(q:Nat):Option (Nat×List Value):=match nth L q with
 |some [(b,.cells cs none false)]=>some (b,cs)
 |_=>none
theorem nq{L:List Fp}{q b:Nat}{cs:List Value}(h:ownAt L q=some (b,cs)):L[q]?=some [(b,.cells cs none false)]:=by
 unfold ownAt at h;split at h
 ·rename_i E;simp only[a01,a04]at h;obtain⟨rfl,rfl⟩:=h;rw[←gE];exact E
 cases h
def WN:FW:=⟨fun _ _ _=>False,fun _ _ _=>False,fun _ _ _ _ _=>False,fun _ _ _ _ _=>False,fun _ _ _ _ _=>False⟩
theorem okN{P:Program}{G0:Nat}{K:bM}{d_:Heap->Prop}:WN.OK P G0 K d_:=⟨fun h=>h.elim,fun h=>h.elim,fun h=>h.elim,fun h=>h.elim,fun h=>h.elim⟩
def ldR(P:Program)(t:TypeId)(cs:List Value)(o:Nat):Option Value:=match fN P t with
 |some false=>nth cs o
 |some true=>match dV P t with
  |some n=>bif Nat.ble (o+n) (fE cs) then fcM (en (ev cs o) n) fun l=>some (.agg ⟨l⟩) else none
  |none=>none
 |none=>none
def stR(P:Program)(L:List Fp)(q b:Nat)(cs:List Value)(t:TypeId)(o:Nat)(v:Value):Option (List Fp):=match dV P t with
 |some n=>fcV v fun v=>fcM v.cells.toList fun E=>bif Nat.beq (fE E) n&&(Nat.ble (o+fE E) (fE cs)&&nW Value.oneCell' E) then
   fcL (bx cs o E) fun O=>fcL (L.set q [(b,.cells O none false)]) some
  else none
 |none=>none
def sgL(P:Program)(G0:Nat)(W:FW)(sz:Nat)(ops:Array Oper)(f:Fn)(hs:List (Nat×Hint)):Nat->List Oper->SS->List Fp->Option (SS×List Fp×Prop)
 |_,[],S,L=>some (S,L,True)
 |i,o::os,S,L=>match hintAt hs i with
  | .r q=>match ownAt L q,o.guard,o.op.operands.toList.all (bm G0)&&o.op.operands.toList.all (S.can []) with
   |some (b,cs),none,true=>match o.dst,o.op with
    |some d,.load t a=>match S.rd f a with
     | .pointer (some ⟨b',o',none⟩)=>match ldR P t cs o' with
      |some v=>bif Nat.ble (d+1) sz then match putS none [] S.G S.m d v with
        |some (S1,_)=>match sgL P G0 W sz ops f hs (i+1) os S1 L with
         |some (S2,L2,p)=>some (S2,L2,b'=b/\p)
         |none=>none
        |none=>none else none
      |none=>none
     |_=>none
    |none,.store t a x=>match S.rd f a with
     | .pointer (some ⟨b',o',none⟩)=>match stR P L q b cs t o' (S.rd f x) with
      |some L1=>match sgL P G0 WN sz ops f hs (i+1) os S L1 with
       |some (S2,L2,p)=>some (S2,L2,b'=b/\p)
       |none=>none
      |none=>none
     |_=>none
    |_,_=>none
   |_,_,_=>none
  |h=>match stepS P G0 W sz ops f S h o with
   |some (S1,q)=>match sgL P G0 W sz ops f hs (i+1) os S1 L with
    |some (S2,L2,p)=>some (S2,L2,andO q p)
    |none=>none
   |none=>none
section
variable {P:Program} {G0:Nat} {K:bM} {sz:Nat} {Q:Ex->Fn->Heap->Prop} {ops:Array Oper} {os:List Oper} {k:List Fr} {f fr:Fn} {H:Heap} {S:SS} {B:Base} {F:Fz} {L R:List Fp}
theorem ldR_ok{t:TypeId}{cs:List Value}{o b:Nat}{v:Value}{a:Operand}{ρ:Operand->Value}{d:Option Tmp}{ty:TypeId}{pos:String}{af:Array Edge}{gd:Option (Nat×Bool)}(hc:HC H.get b 0 cs)(E:ρ a= .pointer (some ⟨b,o,none⟩))(h:ldR P t cs o=some v):AP P ρ ⟨d,.load t a,ty,pos,af,gd⟩ H (.val v,H):=by
 unfold ldR at h;split at h
 ·rename_i ha;exact bc (i:=o) E ha hc (a0A _).symm (by rw[←gE];exact h)
 ·rename_i ha;split at h
  ·rename_i n O;cases hb:Nat.ble (o+n) (fE cs) with
   |false=>rw[hb]at h;cases h
   |true=>
    rw[hb]at h
    simp only[cond_true,fcM_eq,a01]at h
    subst h
    exact db (i:=o) E ha O hc (a0A _).symm (by rw[←bz];exact hb) V
  cases h
 cases h
theorem stR_ok{q b o:Nat}{cs:List Value}{t:TypeId}{v:Value}{E:List Fp}{a x:Operand}{ρ:Operand->Value}{d:Option Tmp}{ty:TypeId}{pos:String}{af:Array Edge}{gd:Option (Nat×Bool)}(hs:HS B F H L R)(T:L[q]?=some [(b,.cells cs none false)])(ha:ρ a= .pointer (some ⟨b,o,none⟩))(U:ρ x=v)(h:stR P L q b cs t o v=some E):
  ∃r:Rs,AP P ρ ⟨d,.store t a x,ty,pos,af,gd⟩ H (.skip,r.H)/\(HS B F r.H E R/\Wr H r.H [b]):=by
 unfold stR at h
 split at h
 ·rename_i n O;simp only[fcV_eq,fcM_eq,mH]at h;cases hb:(Nat.beq (fE v.cells.toList) n&&(Nat.ble (o+fE v.cells.toList) (fE cs)&&nW Value.oneCell' v.cells.toList)) with
  |false=>rw[hb]at h;cases h
  |true=>
   rw[hb]at h
   simp only[cond_true,a01]at h
   subst h
   simp only[a03,bz]at hb
   exact gR hs T ha U O V hb.1 hb.2.1 hb.2.2 (by rw[mH])
 cases h
theorem iU{a:Operand}(E:S.Rel f fr)(h:S.can [] a=true):dJ fr a=S.rd f a:=rd_ok (c:=[]) E V h
theorem lp{hs:List (Nat×Hint)}: ∀{a:List Oper} {i:Nat} {W:FW} {S S':SS} {L L':List Fp} {p:Prop} {fr:Fn} {H:Heap},W.OK P G0 K (· =H)->sgL P G0 W sz ops f hs i a S L=some (S',L',p)->p->S.Rel f fr->HS B F H L R->
  (∀E H',HS B F H' L' R->(a.all (fun o=>o.dst.isSome)=true->H'=H)->S'.Rel f E->WO P G0 K sz ops os k E H' Q)->WO P G0 K sz ops (a++os) k fr H Q
 | [],i,W,S,S',L,L',p,fr,H,hW,h,_,hr,hh,hk=>by simp only[sgL,a01,a04]at h;obtain⟨rfl,rfl,_⟩:=h;exact hk fr H hh (fun _=>rfl) hr
 |o::a,i,W,S,S',L,L',p,fr,H,hW,h,O,hr,hh,hk=>by
  unfold sgL at h;split at h
  ·rename_i q _;split at h
   ·rename_i b cs ho hg hc;rw[a03]at hc;have hq:=nq ho;obtain⟨b6,op,ty,pos,af,gd⟩:=o;simp only at hg hc h;subst hg;split at h
    ·rename_i d t x;simp only[Op.operands,a0o,a19,a0J]at hc;split at h
     ·rename_i b' o' Y;split at h
      ·rename_i v Z;cases hb:Nat.ble (d+1) sz with
       |false=>rw[hb]at h;cases h
       |true=>
        rw[hb]at h
        simp only[cond_true]at h
        split at h
        ·rename_i S1 q1 e3;split at h
         ·rename_i S2 L2 p2 e4;simp only[a01,a04]at h;obtain⟨rfl,rfl,rfl⟩:=h;obtain⟨rfl,O⟩:=O;have h1:=(ly (m:=S.m) (G:=S.G) hr (c:=[]) (fun _ _ hm=>(a0f hm).elim) e3).1;exact ad (ldR_ok (HS.hc hh hq) (by rw[iU hr hc.2];exact Y) Z) (by simp only[Op.operands,a0o,a19,a0J];exact hc.1) hb (lp hW e4 O h1 hh fun E H' T a2 U=>hk E H' T (fun ha=>a2 (by simpa using ha)) U)
         cases h
        cases h
      cases h
     cases h
    ·rename_i t x y;simp only[Op.operands,a0o,a19,a0J,a03]at hc;split at h
     ·rename_i b' o' Y;split at h
      ·rename_i L1 Z;split at h
       ·rename_i S2 L2 p2 e4;simp only[a01,a04]at h;obtain⟨rfl,rfl,rfl⟩:=h;obtain⟨rfl,O⟩:=O;refine wo_rk (stR_ok hh hq (by rw[iU hr hc.2.1];exact Y) (iU hr hc.2.2) Z) (by simp only[Op.operands,a0o,a19,a0J,a03];exact hc.1) ?_;rintro _ H1 _ ⟨h5,_⟩;exact lp okN e4 O hr h5 fun E H' T a2 U=>hk E H' T (fun ha=>by simp at ha) U
       cases h
      cases h
     cases h
    cases h
   cases h
  split at h
  ·rename_i S1 q h1;split at h
   ·rename_i S2 L2 p2 h2;simp only[a01,a04]at h;obtain⟨rfl,rfl,rfl⟩:=h;obtain⟨hq,a9⟩:=fW O;obtain⟨d,c,G1,v,Y,Z,e3,e4,e5,e6⟩:=ic hW hr h1 hq;exact wo_do (d_:=(· =H)) Y Z e3 (gy hr e4) e5 V fun H' a7=>by subst a7;exact lp hW h2 a9 e6 hh fun E H' T a2 U=>hk E H' T (fun ha=>a2 (by simp only[a0o,a03]at ha;exact ha.2)) U
   cases h
  cases h
def sdL(P:Program)(G0:Nat)(W:FW)(sz:Nat)(ops:Array Oper)(f:Fn)(hs:List (Nat×Hint)):Nat->List Oper->SS->List Fp->List (Nat×ID)->Option (SS×List Fp×List (Nat×ID)×Prop)
 |_,[],S,L,D=>some (S,L,D,True)
 |i,o::os,S,L,D=>match hintAt hs i with
  | .r q=>match ownAt L q,o.guard,o.op.operands.toList.all (bm G0)&&o.op.operands.toList.all (S.can []) with
   |some (b,cs),none,true=>match o.dst,o.op with
    |some d,.load t a=>match S.rd f a with
     | .pointer (some ⟨b',o',none⟩)=>match ldR P t cs o' with
      |some v=>bif Nat.ble (d+1) sz&&okB ops i (.l b') D then match putS none [] S.G S.m d v with
        |some (S1,_)=>match sdL P G0 W sz ops f hs (i+1) os S1 L ((i,.l b')::D) with
         |some (S2,L2,D2,p)=>some (S2,L2,D2,b'=b/\p)
         |none=>none
        |none=>none else none
      |none=>none
     |_=>none
    |none,.store t a x=>match S.rd f a with
     | .pointer (some ⟨b',o',none⟩)=>match stR P L q b cs t o' (S.rd f x),okB ops i (.x [b']) D with
      |some L1,true=>match sdL P G0 WN sz ops f hs (i+1) os S L1 ((i,.x [b'])::D) with
       |some (S2,L2,D2,p)=>some (S2,L2,D2,b'=b/\p)
       |none=>none
      |_,_=>none
     |_=>none
    |_,_=>none
   |_,_,_=>none
  |h=>match stepS P G0 W sz ops f S h o with
   |some (S1,q)=>bif aS o.op then match sdL P G0 W sz ops f hs (i+1) os S1 L ((i,.v)::D) with
     |some (S2,L2,D2,p)=>some (S2,L2,D2,andO q p)
     |none=>none
    else bif D.all (fun e=>bnD e.2) then match sdL P G0 W sz ops f hs (i+1) os S1 L ((i,.r)::D) with
     |some (S2,L2,D2,p)=>some (S2,L2,D2,andO q p)
     |none=>none
    else none
   |none=>none
theorem wf_doV{D:List (Nat×ID)}{i d:Nat}{o:Oper}{c:Ch}{E:List (Nat×Bool)}{v:Value}(T:aS o.op=true)(hd:o.dst=some d)(hb:Nat.ble (d+1) sz=true)(U:o.op.operands.toList.all (bm G0)=true)(O:GOK ops f fr S o.guard c E)
  (Y:act E c=true->PRes P G0 K (· ={H with log:=[]}) (dJ fr) ⟨some d,o.op,o.type,o.pos,o.after,none⟩ {H with log:=[]} v) (h:WF2 P G0 K sz ops ((i,.v)::D) (i+1) os k (upd fr d (bif act E c then v else undef)) H Q):WF2 P G0 K sz ops D i (o::os) k fr H Q:=by
 obtain⟨Z,op,ty,pos,af,gd⟩:=o
 simp only at T hd U O Y
 subst hd
 cases ha:act E c with
 |true=>
  rw[ha]at h
  have base:WF2 P G0 K sz ops D i (⟨some d,op,ty,pos,af,none⟩::os) k fr H Q:=by
   cases Y ha with
   |val hv'=>exact bf (id:= .v) hv' U hb (did_v T) (jL _) h
   |call g args he hk hc=>
    exfalso
    cases op<;>first|(cases hk;done)|(cases T;done)
  cases gd with
  |none=>exact base
  |some jw=>exact bk (O.on ha) V base
 |false=>
  rw[ha]at h
  have:=O.off ha
  cases gd with
  |none=>exact absurd this id
  |some jw=>
   rcases this with h1|h1
   ·exact wf_gn h1 hb h
   exact aK h1 V hb h
theorem j3{hs:List (Nat×Hint)}: ∀{a:List Oper} {i:Nat} {W:FW} {S S':SS} {L L':List Fp} {D D':List (Nat×ID)} {p:Prop} {fr:Fn} {H:Heap},W.OK P G0 K (· ={H with log:=[]})->sdL P G0 W sz ops f hs i a S L D=some (S',L',D',p)->p->S.Rel f fr->HS B F H L R->
  (∀E H',HS B F H' L' R->(a.all (fun o=>o.dst.isSome)=true->H'=H)->S'.Rel f E->WF2 P G0 K sz ops D' (i+a.length) os k E H' Q)->WF2 P G0 K sz ops D i (a++os) k fr H Q
 | [],i,W,S,S',L,L',D,D',p,fr,H,hW,h,_,hr,hh,hk=>by simp only[sdL,a01,a04]at h;obtain⟨rfl,rfl,rfl,_⟩:=h;exact hk fr H hh (fun _=>rfl) hr
 |o::a,i,W,S,S',L,L',D,D',p,fr,H,hW,h,O,hr,hh,hk=>by
  rw[a02,show i+(a.length+1)=i+1+a.length by omega]at hk;unfold sdL at h;split at h
  ·rename_i q _;split at h
   ·rename_i b cs ho hg hc;rw[a03]at hc;have hq:=nq ho;obtain⟨b9,op,ty,pos,af,gd⟩:=o;simp only at hg hc h;subst hg;split at h
    ·rename_i d t x;simp only[Op.operands,a0o,a19,a0J]at hc;split at h
     ·rename_i b' o' Y;split at h
      ·rename_i v Z;cases hb:(Nat.ble (d+1) sz&&okB ops i (.l b') D) with
       |false=>rw[hb]at h;cases h
       |true=>
        rw[hb]at h
        rw[a03]at hb
        simp only[cond_true]at h
        split at h
        ·rename_i S1 q1 e3;split at h
         ·rename_i S2 L2 D2 p2 e4;simp only[a01,a04]at h;obtain⟨rfl,rfl,rfl,rfl⟩:=h;obtain⟨rfl,O⟩:=O;have h1:=(ly (m:=S.m) (G:=S.G) hr (c:=[]) (fun _ _ hm=>(a0f hm).elim) e3).1;have e5:dJ fr x= .pointer (some ⟨b',o',none⟩):=by rw[iU hr hc.2];exact Y
          exact bf (id:= .l b') (ldR_ok (HS.hc hh.log0 hq) e5 Z) (by simp only[Op.operands,a0o,a19,a0J];exact hc.1) hb.1 (fZ e5) (kb hb.2) (j3 hW e4 O h1 hh fun E H' T a2 U=>hk E H' T (fun ha=>a2 (by simpa using ha)) U)
         cases h
        cases h
      cases h
     cases h
    ·rename_i t x y;simp only[Op.operands,a0o,a19,a0J,a03]at hc;split at h
     ·rename_i b' o' Y;split at h
      ·rename_i L1 Z e3;split at h
       ·rename_i S2 L2 D2 p2 e4;simp only[a01,a04]at h;obtain⟨rfl,rfl,rfl,rfl⟩:=h;obtain⟨rfl,O⟩:=O;refine iz (id:= .x [b']) (stR_ok hh.log0 hq (by rw[iU hr hc.2.1];exact Y) (iU hr hc.2.2) Z) (by simp only[Op.operands,a0o,a19,a0J,a03];exact hc.1) ?_ (kb e3) ?_
        ·rintro _ H1 _ ⟨_,hwr⟩;exact fY V V (Wr.did hwr)
        rintro _ H1 _ ⟨h5,_⟩ l hl;exact j3 okN e4 O hr (HS.lg h5 hh hl) fun E H' T a2 U=>hk E H' T (fun ha=>by simp at ha) U
       cases h
      cases h
     cases h
    cases h
   cases h
  split at h
  ·rename_i S1 q h1;cases hv:aS o.op with
   |true=>
    rw[hv]at h
    simp only[cond_true]at h
    split at h
    ·rename_i S2 L2 D2 p2 h2;simp only[a01,a04]at h;obtain⟨rfl,rfl,rfl,rfl⟩:=h;obtain⟨hq,a5⟩:=fW O;obtain⟨d,c,G1,v,Y,Z,e3,e4,e5,e6⟩:=ic hW hr h1 hq;exact wf_doV hv Y Z e3 (gy hr e4) (fun ha=>e5 ha _ V) (j3 hW h2 a5 e6 hh fun E H' T a2 U=>hk E H' T (fun ha=>a2 (by simp only[a0o,a03]at ha;exact ha.2)) U)
    cases h
   |false=>
    rw[hv]at h
    simp only[cond_false]at h
    cases hD:D.all (fun e=>bnD e.2) with
    |false=>rw[hD]at h;cases h
    |true=>
     rw[hD]at h
     simp only[cond_true]at h
     split at h
     ·rename_i S2 L2 D2 p2 h2;simp only[a01,a04]at h;obtain⟨rfl,rfl,rfl,rfl⟩:=h;obtain⟨hq,a5⟩:=fW O;obtain⟨d,c,G1,v,Y,Z,e3,e4,e5,e6⟩:=ic hW hr h1 hq;exact wf_do hD Y Z e3 (gy hr e4) (fun ha=>e5 ha _ V) (j3 hW h2 a5 e6 hh fun E H' T a2 U=>hk E H' T (fun ha=>a2 (by simp only[a0o,a03]at ha;exact ha.2)) U)
     cases h
  cases h
theorem Hr_(i q:Nat){b:Nat}{hs:List (Nat×Hint)}{p:Prop}(r:HP hs p):HP ((i,.r q)::hs) (b=b/\p):=⟨V,r⟩
def sgE(lo hi:Nat)(ex E:List Nat)(r:Option (SS×List Fp×Prop)):Option (List (Nat×Value)×List Fp×Prop):=match r with
 |none=>none
 |some (S,L,p)=>bif S.m.all (fun e=>inR lo hi ex e.1) then
   match fins S.m E with
   |some l=>some (l,L,p)
   |none=>none
  else none
def sdE(lo hi:Nat)(ex E:List Nat)(r:Option (SS×List Fp×List (Nat×ID)×Prop)):Option (List (Nat×Value)×List Fp×List (Nat×ID)×Prop):=match r with
 |none=>none
 |some (S,L,D,p)=>bif S.m.all (fun e=>inR lo hi ex e.1) then
   match fins S.m E with
   |some l=>some (l,L,D,p)
   |none=>none
  else none
theorem sgE_ok{lo hi:Nat}{ex T:List Nat}{r:Option (SS×List Fp×Prop)}{l:List (Nat×Value)}{E:List Fp}{p:Prop}(h:sgE lo hi ex T r=some (l,E,p)): ∃S,r=some (S,E,p)/\∀fr,S.Rel f fr->∃g,fr=gO (hav lo hi ex g f) l:=by
 unfold sgE at h;split at h
 ·cases h
 rename_i S Y Z;cases hb:S.m.all (fun e=>inR lo hi ex e.1) with
 |false=>rw[hb]at h;cases h
 |true=>
  rw[hb]at h
  simp only[cond_true]at h
  split at h
  ·rename_i l' U;simp only[a01,a04]at h;obtain⟨rfl,rfl,rfl⟩:=h;refine⟨S,V,fun fr O=>⟨fr,?_⟩⟩;rw[←(jJ O hb).eq,fS (nC O U)]
  cases h
theorem sdE_ok{lo hi:Nat}{ex U:List Nat}{r:Option (SS×List Fp×List (Nat×ID)×Prop)}{l:List (Nat×Value)}{O:List Fp}{E:List (Nat×ID)}{p:Prop}(h:sdE lo hi ex U r=some (l,O,E,p)): ∃S,r=some (S,O,E,p)/\∀fr,S.Rel f fr->∃g,fr=gO (hav lo hi ex g f) l:=by
 unfold sdE at h;split at h
 ·cases h
 rename_i S L1 Z p1;cases hb:S.m.all (fun e=>inR lo hi ex e.1) with
 |false=>rw[hb]at h;cases h
 |true=>
  rw[hb]at h
  simp only[cond_true]at h
  split at h
  ·rename_i l' Y;simp only[a01,a04]at h;obtain⟨rfl,rfl,rfl,rfl⟩:=h;refine⟨S,V,fun fr T=>⟨fr,?_⟩⟩;rw[←(jJ T hb).eq,fS (nC T Y)]
  cases h
variable {c1:Code} {k1:List Fr}
theorem sgo(n i:Nat){E:List Oper}{hs:List (Nat×Hint)}(lo hi:Nat)(ex:List Nat)(l:List (Nat×Value)){O:List Fp}{p:Prop}(hp:HP hs p)(hh:HS B F H L R)(h:sgE lo hi ex (ec Prod.fst l) (sgL P G0 (W0 P G0 K H) sz ops f hs i (en os n) ⟨[],[]⟩ L)=some (l,O,p))(Z:ev os n=E)
  (hk: ∀g H',HS B F H' O R->WO P G0 K sz ops E k (gO (hav lo hi ex g f) l) H' Q):WO P G0 K sz ops os k f H Q:=by
 subst Z
 obtain⟨S,U,Y⟩:=sgE_ok (f:=f) h
 have:=lp (os:=ev os n) (k:=k) (Q:=Q) ok0 U hp rel0 hh (fun fr H' T _ hr=>by obtain⟨g,rfl⟩:=Y fr hr;exact hk g H' T)
 rwa [bR,bW,a1i]at this
theorem sgr(n:Nat){id:Nat}{hs:List (Nat×Hint)}(lo hi:Nat)(ex:List Nat)(l:List (Nat×Value)){E:List Fp}{p:Prop}(hp:HP hs p)(Z:HS B F H L R)(h:sgE lo hi ex (ec Prod.fst l) (sgL P G0 (W0 P G0 K H) sz ops f hs 0 ops.toList ⟨[],[]⟩ L)=some (l,E,p))(Y:foc n .skip k=(c1,k1))
  (hk: ∀g H',HS B F H' E R->WK P G0 K sz c1 k1 (gO (hav lo hi ex g f) l) H' Q):WK P G0 K sz (.region id ops false) k f H Q:=by
 obtain⟨S,T,U⟩:=sgE_ok (f:=f) h
 refine ab ?_
 have:=lp (os:=[]) (k:=k) (Q:=Q) ok0 T hp rel0 Z (fun fr H' O _ hr=>by obtain⟨g,rfl⟩:=U fr hr;exact ay (ai n Y (hk g H' O)))
 rwa [a0p]at this
theorem sdo(n:Nat){i Z:Nat}{E:List Oper}{hs:List (Nat×Hint)}(lo hi:Nat)(ex:List Nat)(l:List (Nat×Value)){T:List Fp}{D O:List (Nat×ID)}{p:Prop}(hp:HP hs p)(hh:HS B F H L R)(h:sdE lo hi ex (ec Prod.fst l) (sdL P G0 (W0 P G0 K {H with log:=[]}) sz ops f hs i (en os n) ⟨[],[]⟩ L D)=some (l,T,O,p))(U:(ev os n,i+(en os n).length)=(E,Z))
  (hk: ∀g H',HS B F H' T R->WF2 P G0 K sz ops O Z E k (gO (hav lo hi ex g f) l) H' Q):WF2 P G0 K sz ops D i os k f H Q:=by
 simp only[a04]at U
 obtain⟨rfl,rfl⟩:=U
 obtain⟨S,h1,h2⟩:=sdE_ok (f:=f) h
 have:=j3 (os:=ev os n) (k:=k) (Q:=Q) ok0 h1 hp rel0 hh (fun fr H' Y _ hr=>by obtain⟨g,rfl⟩:=h2 fr hr;exact hk g H' Y)
 rwa [bR,bW,a1i]at this
theorem sdr(n:Nat){id:Nat}{hs:List (Nat×Hint)}(lo hi:Nat)(ex:List Nat)(l:List (Nat×Value)){O:List Fp}{U:List (Nat×ID)}{p:Prop}(hp:HP hs p)(hh:HS B F H L R)(E:(jg ops&&P.follows .mixedOrders)=true)(h:sdE lo hi ex (ec Prod.fst l) (sdL P G0 (W0 P G0 K {H with log:=[]}) sz ops f hs 0 ops.toList ⟨[],[]⟩ L [])=some (l,O,U,p))(hf:foc n .skip k=(c1,k1))
  (hk: ∀g H',HS B F H' O R->WK P G0 K sz c1 k1 (gO (hav lo hi ex g f) l) H' Q):WK P G0 K sz (.region id ops true) k f H Q:=by
 obtain⟨S,Y,Z⟩:=sdE_ok (f:=f) h
 refine aC E ?_
 have:=j3 (os:=[]) (k:=k) (Q:=Q) ok0 Y hp rel0 hh (fun fr H' T _ E=>by obtain⟨g,rfl⟩:=Z fr E;exact dT (ai n hf (hk g H' T)))
 rwa [a0p]at this
theorem fQ(n i:Nat){O:List Oper}{hs:List (Nat×Hint)}(lo hi:Nat)(ex:List Nat)(l:List (Nat×Value)){T:List Fp}{p:Prop}(hp:HP hs p)(Z:HS B F H L R)(h:sgE lo hi ex (ec Prod.fst l) (sgL P G0 (W0 P G0 K H) sz ops f hs i (en os n) ⟨[],[]⟩ L)=some (l,T,p))(E:(ev os n,(en os n).all (fun o=>o.dst.isSome))=(O,true))
  (hk: ∀g,WO P G0 K sz ops O k (gO (hav lo hi ex g f) l) H Q):WO P G0 K sz ops os k f H Q:=by
 simp only[a04]at E
 obtain⟨rfl,E⟩:=E
 obtain⟨S,U,Y⟩:=sgE_ok (f:=f) h
 have:=lp (os:=ev os n) (k:=k) (Q:=Q) ok0 U hp rel0 Z (fun fr H' ax e hr=>by obtain⟨g,rfl⟩:=Y fr hr;rw[e E];exact hk g)
 rwa [bR,bW,a1i]at this
theorem cP(n:Nat){id:Nat}{hs:List (Nat×Hint)}(lo hi:Nat)(ex:List Nat)(l:List (Nat×Value)){O:List Fp}{p:Prop}(hp:HP hs p)(Y:HS B F H L R)(h:sgE lo hi ex (ec Prod.fst l) (sgL P G0 (W0 P G0 K H) sz ops f hs 0 ops.toList ⟨[],[]⟩ L)=some (l,O,p))(E:(foc n .skip k,ops.toList.all (fun o=>o.dst.isSome))=((c1,k1),true))
  (Z: ∀g,WK P G0 K sz c1 k1 (gO (hav lo hi ex g f) l) H Q):WK P G0 K sz (.region id ops false) k f H Q:=by
 rw[a04]at E
 obtain⟨S,T,U⟩:=sgE_ok (f:=f) h
 refine ab ?_
 have:=lp (os:=[]) (k:=k) (Q:=Q) ok0 T hp rel0 Y (fun fr H' ar e hr=>by obtain⟨g,rfl⟩:=U fr hr;rw[e E.2];exact ay (ai n E.1 (Z g)))
 rwa [a0p]at this
theorem de(n:Nat){i U:Nat}{O:List Oper}{hs:List (Nat×Hint)}(lo hi:Nat)(ex:List Nat)(l:List (Nat×Value)){Y:List Fp}{D T:List (Nat×ID)}{p:Prop}(hp:HP hs p)(hh:HS B F H L R)(h:sdE lo hi ex (ec Prod.fst l) (sdL P G0 (W0 P G0 K {H with log:=[]}) sz ops f hs i (en os n) ⟨[],[]⟩ L D)=some (l,Y,T,p))(E:(ev os n,i+(en os n).length,(en os n).all (fun o=>o.dst.isSome))=(O,U,true))
  (hk: ∀g,WF2 P G0 K sz ops T U O k (gO (hav lo hi ex g f) l) H Q):WF2 P G0 K sz ops D i os k f H Q:=by
 simp only[a04]at E
 obtain⟨rfl,rfl,E⟩:=E
 obtain⟨S,Z,h2⟩:=sdE_ok (f:=f) h
 have:=j3 (os:=ev os n) (k:=k) (Q:=Q) ok0 Z hp rel0 hh (fun fr H' a1 e hr=>by obtain⟨g,rfl⟩:=h2 fr hr;rw[e E];exact hk g)
 rwa [bR,bW,a1i]at this
theorem sdr0(n:Nat){id:Nat}{hs:List (Nat×Hint)}(lo hi:Nat)(ex:List Nat)(l:List (Nat×Value)){U:List Fp}{T:List (Nat×ID)}{p:Prop}(hp:HP hs p)(hh:HS B F H L R)(O:(jg ops&&P.follows .mixedOrders)=true)(h:sdE lo hi ex (ec Prod.fst l) (sdL P G0 (W0 P G0 K {H with log:=[]}) sz ops f hs 0 ops.toList ⟨[],[]⟩ L [])=some (l,U,T,p))(E:(foc n .skip k,ops.toList.all (fun o=>o.dst.isSome))=((c1,k1),true))
  (hk: ∀g,WK P G0 K sz c1 k1 (gO (hav lo hi ex g f) l) H Q):WK P G0 K sz (.region id ops true) k f H Q:=by
 rw[a04]at E
 obtain⟨S,Y,Z⟩:=sdE_ok (f:=f) h
 refine aC O ?_
 have:=j3 (os:=[]) (k:=k) (Q:=Q) ok0 Y hp rel0 hh (fun fr H' ax e O=>by obtain⟨g,rfl⟩:=Z fr O;rw[e E.2];exact dT (ai n E.1 (hk g)))
 rwa [a0p]at this
theorem wcD{D:List (Nat×ID)}{i j:Nat}{d:Tmp}{ty:TypeId}{pos:String}{af:Array Edge}{args:Array Operand}{U:Array TypeId}{g:FuncId}{fn:Func}{al:List Value}{T:Value->Heap->Prop}{q:Fp}(W:List Nat)(hh:HS B F H L R)(hq:L[j]?=some q)(hw:q.map Prod.fst=W)(hc:C P G0 K g al {H with log:=[]} T)
  (E:(P.funcs[g]?,ec (dJ f) args.toList,Nat.ble (d+1) sz,(Op.call ⟨.value (.func g),args,U⟩).operands.toList.all (bm G0))=(some fn,al,true,true)) (hb:(fn.body.isSome&& !(fn.name== "runtime.NumGoroutine"))=true) (a0:okD ops i (.x W) D)
  (h: ∀v O,T v O->∃F' Y b_,HS (.of {H with log:=[]} W) F' O (Y::b_) (L.set j []++R)/\∀Z,HS B F' Z (L.set j Y++b_) R->WF2 P G0 K sz ops ((i,.x W)::D) (i+1) os k (upd f d v) Z Q):
  WF2 P G0 K sz ops D i (⟨some d,.call ⟨.value (.func g),args,U⟩,ty,pos,af,none⟩::os) k f H Q:=by
 subst hw
 simp only[a04]at E
 refine bH (W:=q.map Prod.fst) (aX E.1 hb E.2.1) E.2.2.2 E.2.2.1 V hc a0 ?_
 intro v O hT
 obtain⟨F',Y,b_,h1,h2⟩:=h v O hT
 refine⟨HS.didW h1,fun l hl=>h2 _ ?_⟩
 exact HS.lg (HS.backOwn hh.log0 hq V (fun _ hb=>hb) h1) hh hl
theorem HS.bO{W:List Nat}{p q:Fp}{b_:List Fp}{i:Nat}{F':Fz}{E H':Heap}(h:HS B F H L R)(k:HS (.of E W) F' H' (q::b_) (L.set i []++R))(hi:L[i]?=some p:=by rfl)(O:E=H:=by rfl)(T: ∀b,b∈W->b∈p.map Prod.fst:=by exact fun _ h=>h):HS B F' H' (L.set i q++b_) R:=by exact HS.backOwn h hi O T k
theorem zn{e:TypeId}{d:Tmp}{ty:TypeId}{pos:String}{af:Array Edge}{z:List Value}(O:HS B F H L R)(E:(dr P e,Nat.ble (d+1) sz)=(some z,true))(T: ∀b H1,HS B F H1 (L++[[(b,.cells z none false)]]) R->WO P G0 K sz ops os k (upd f d (.pointer (some ⟨b,0,none⟩))) H1 Q):WO P G0 K sz ops (⟨some d,.alloc e,ty,pos,af,none⟩::os) k f H Q:=by simp only[a04]at E;refine dB (rs_new O E.1) V E.2 ?_;rintro _ H1 _ ⟨b,rfl,h1,_⟩;exact T b H1 h1
theorem znD{D:List (Nat×ID)}{i:Nat}{e:TypeId}{d:Tmp}{ty:TypeId}{pos:String}{af:Array Edge}{z:List Value}(O:HS B F H L R)(E:(dr P e,Nat.ble (d+1) sz,okB ops i .a D)=(some z,true,true))(T: ∀b H1,HS B F H1 (L++[[(b,.cells z none false)]]) R->WF2 P G0 K sz ops ((i,.a)::D) (i+1) os k (upd f d (.pointer (some ⟨b,0,none⟩))) H1 Q):WF2 P G0 K sz ops D i (⟨some d,.alloc e,ty,pos,af,none⟩::os) k f H Q:=by simp only[a04]at E;refine kz (id:= .a) (rs_new O.log0 E.1) V E.2.1 (fun _ _ _ _=>did_a V V V) (kb E.2.2) ?_;rintro _ H1 _ ⟨b,rfl,h1,_⟩ l hl;exact T b _ (HS.lg h1 O hl)
def litL(P:Program)(f:Fn)(m:Nat)(t:TypeId)(n:Nat)(E:Array (Nat×Operand)):Option (List Value):=match eo P t with
 |some (s,z)=>bif Nat.beq s m&&Nat.ble (n *s) 16777216 then match fillL (fun i=>some (i *s,s)) (dM n z) (ec (fun p=>(p.1,dJ f p.2)) E.toList) with
   |some cs=>fcM cs some
   |none=>none
  else none
 |none=>none
theorem litL_ok{m:Nat}{t:TypeId}{n:Nat}{E:Array (Nat×Operand)}{cs:List Value}(h:litL P f m t n E=some cs): ∃z,eo P t=some (m,z)/\Nat.ble (n *m) 16777216=true/\Instr.fill (fun i=>some (i *m,m)) ⟨dM n z⟩ (ec (fun p=>(p.1,dJ f p.2)) E.toList)=some ⟨cs⟩:=by
 unfold litL at h;split at h
 ·rename_i s z e;cases hb:(Nat.beq s m&&Nat.ble (n *s) 16777216) with
  |false=>rw[hb]at h;cases h
  |true=>
   rw[hb]at h
   simp only[cond_true]at h
   rw[a03]at hb
   have:=a06 hb.1
   subst this
   split at h
   ·rename_i T O;rw[fcM_eq,a01]at h;subst h;exact⟨z,e,hb.2,nD _ _ _ _ O⟩
   cases h
 cases h
theorem RL.nl{α:Type} [Rp α]:RL F [] ([]:List α):=rfl
theorem RL.cs{α:Type} [Rp α]{x:α}{l:List α}{c r:List Value}(h:Rp.rep F c x)(t:RL F r l):RL F (c++r) (x::l):=⟨c,r,V,h,t⟩
section
variable {α:Type} [Rp α] {d:Tmp} {ty:TypeId} {pos:String} {af:Array Edge} {D:List (Nat×ID)} {i:Nat}
theorem zlo{t:TypeId}{n:Nat}{E:Array (Nat×Operand)}{cells O:List Value}(l:List α)(hh:HS B F H L R)(T:(litL P f (Rp.sz α) t n E,Nat.ble (d+1) sz,(Op.buildSlice t n E).operands.toList.all (bm G0),fE l)=(some cells,true,true,n))(hr:RL F O l)(hc:cells=O)
  (hk: ∀a U p H1,OS F (.slice a l.length U) l p->HS B F H1 (L++[p]) R->WO P G0 K sz ops os k (upd f d (.slice a l.length U)) H1 Q):WO P G0 K sz ops (⟨some d,.buildSlice t n E,ty,pos,af,none⟩::os) k f H Q:=by
 subst hc
 simp only[a04]at T
 obtain⟨z,Y,Z,h3⟩:=litL_ok T.1
 refine dB (gS l hh V Y Z h3 hr (by rw[←bz];exact T.2.2.2)) T.2.2.1 T.2.1 ?_
 rintro _ H1 p ⟨a,U,rfl,ho,h5,_⟩
 exact hk a U p H1 ho h5
theorem zld{t:TypeId}{n:Nat}{E:Array (Nat×Operand)}{cells O:List Value}(l:List α)(Y:HS B F H L R)(T:(litL P f (Rp.sz α) t n E,Nat.ble (d+1) sz,(Op.buildSlice t n E).operands.toList.all (bm G0),fE l,okB ops i .a D)=(some cells,true,true,n,true))(hr:RL F O l)(hc:cells=O)
  (hk: ∀a U p H1,OS F (.slice a l.length U) l p->HS B F H1 (L++[p]) R->WF2 P G0 K sz ops ((i,.a)::D) (i+1) os k (upd f d (.slice a l.length U)) H1 Q):WF2 P G0 K sz ops D i (⟨some d,.buildSlice t n E,ty,pos,af,none⟩::os) k f H Q:=by
 subst hc
 simp only[a04]at T
 obtain⟨z,Z,h2,h3⟩:=litL_ok T.1
 refine kz (id:= .a) (gS l Y.log0 V Z h2 h3 hr (by rw[←bz];exact T.2.2.2.1)) T.2.2.1 T.2.1 (fun _ _ _ _=>did_a V V V) (kb T.2.2.2.2) ?_
 rintro _ H1 p ⟨a,U,rfl,ho,h5,_⟩ lg hl
 exact hk a U p _ ho (HS.lg h5 Y hl)
theorem zao{s0 x0:Operand}{st e:TypeId}{v u:Value}{l T:List α}{p:Fp}{al:Nat}{z:List Value}(q:Nat)(ho:OS F v l p)(hh:HS B F H L R)(hu:Sv F H.get u T)(O:(L[q]?,dJ f s0,dJ f x0,P.underlying st)=(some p,v,u,some (.slice e)))(U:(dV P e,gz P e,dr P e)=(some (Rp.sz α),some al,some z))
  (E:(Nat.beq (fE z) (Rp.sz α)&&(Nat.ble al 4096&&(!Nat.beq (Rp.sz α) 0&&(Nat.ble (d+1) sz&&(Op.call ⟨.builtin .append, #[s0,x0], #[st,st]⟩).operands.toList.all (bm G0)))))=true) (hl:l.length+T.length<=2147483648)
  (hk: ∀a Y Z H1,OS F (.slice a (l++T).length Y) (l++T) Z->HS B F H1 (L.set q Z) R->WO P G0 K sz ops os k (upd f d (.slice a (l++T).length Y)) H1 Q):WO P G0 K sz ops (⟨some d,.call ⟨.builtin .append, #[s0,x0], #[st,st]⟩,ty,pos,af,none⟩::os) k f H Q:=by
 simp only[a04]at O U
 simp only[a03,a0u]at E
 refine dB (rs_app ho hh O.1 O.2.1 O.2.2.1 hu O.2.2.2 U.1 U.2.1 U.2.2 E.1 E.2.1 E.2.2.1 hl) E.2.2.2.2 E.2.2.2.1 ?_
 rintro _ H1 Z ⟨a,Y,rfl,h5,h6,_⟩
 exact hk a Y Z H1 h5 h6
theorem zad{s0 x0:Operand}{st e:TypeId}{v u:Value}{l T:List α}{p:Fp}{al:Nat}{z:List Value}(q:Nat)(ho:OS F v l p)(hh:HS B F H L R)(hu:Sv F H.get u T)(O:(L[q]?,dJ f s0,dJ f x0,P.underlying st)=(some p,v,u,some (.slice e)))(U:(dV P e,gz P e,dr P e)=(some (Rp.sz α),some al,some z))
  (E:(Nat.beq (fE z) (Rp.sz α)&&(Nat.ble al 4096&&(!Nat.beq (Rp.sz α) 0&&(Nat.ble (d+1) sz&&(Op.call ⟨.builtin .append, #[s0,x0], #[st,st]⟩).operands.toList.all (bm G0)))))=true) (hl:l.length+T.length<=2147483648) (a0:okD ops i (.x (p.map Prod.fst)) D)
  (hk: ∀a Y Z H1,OS F (.slice a (l++T).length Y) (l++T) Z->HS B F H1 (L.set q Z) R->WF2 P G0 K sz ops ((i,.x (p.map Prod.fst))::D) (i+1) os k (upd f d (.slice a (l++T).length Y)) H1 Q):WF2 P G0 K sz ops D i (⟨some d,.call ⟨.builtin .append, #[s0,x0], #[st,st]⟩,ty,pos,af,none⟩::os) k f H Q:=by
 simp only[a04]at O U
 simp only[a03,a0u]at E
 refine kz (id:= .x (p.map Prod.fst)) (rs_app ho hh.log0 O.1 O.2.1 O.2.2.1 hu O.2.2.2 U.1 U.2.1 U.2.2 E.1 E.2.1 E.2.2.1 hl) E.2.2.2.2 E.2.2.2.1 ?_ a0 ?_
 ·rintro _ _ _ ⟨_,_,rfl,_,_,hwr⟩;exact fY V V (Wr.did hwr)
 rintro _ H1 Z ⟨a,Y,rfl,h5,h6,_⟩ lg hl'
 exact hk a Y Z _ h5 (HS.lg h6 hh hl')
end
end
end Go.R
end
noncomputable section
set_option linter.unusedVariables false
namespace Go.R
def JJ(B:Base)(F:Fz)(L R:List Fp)(H:Heap):Prop:= ∃F',Fz.le F F'/\HS B F' H L R
section
variable {P:Program} {G:Nat} {K:bM} {sz:Nat} {Q:Ex->Fn->Heap->Prop} {f:Fn} {H:Heap} {B:Base} {F:Fz} {L R:List Fp} {c1:Code} {k k1:List Fr}
theorem wj(n:Nat)(hs:HS B F H L R){id:Nat}{ops:Array Oper}(hts:List (Nat×Hint))(lo hi:Nat)(ex:List Nat)(l:List (Nat×Value)){p:Prop}(T:p)(h:fU P G (WJ P G K (JJ B F L R)) sz ops f 0 ops.toList hts lo hi ex (ec Prod.fst l)=some (l,p))
  (O: ∀g H F',Fz.le F F'->HS B F' H L R->WK P G K sz c1 k1 (gO (hav lo hi ex g f) l) H Q) (E:foc n .skip k=(c1,k1):=by rfl):WK P G K sz (.region id ops false) k f H Q:=
 wk_rgJ (JJ B F L R) hts lo hi ex ⟨F,Fz.le_refl F,hs⟩ h T fun g H' ⟨F',h1,h2⟩=>ai n E (O g H' F' h1 h2)
theorem jl0(hs:HS B F H L R){b:Nat}{cs:List Value}{w:Value}(t:TypeId)(i j:Nat)(ha:fN P t=some false)(h:L[j]?=some [(b,.cells cs none false)])(E:cs[i]?=some w): ∀H,JJ B F L R H->LDv P H t (.pointer (some ⟨b,i,none⟩)) w:=
 fun _ ⟨_,_,q⟩=>by have:=ld1 (o:=0) (HS.hc q h) ha E;rwa [a0A]at this
theorem jn0(hs:HS B F H L R){b:Nat}{cs l:List Value}(t:TypeId)(i n j:Nat)(ha:fN P t=some true)(T:dV P t=some n)(h:L[j]?=some [(b,.cells cs none false)])(O:Nat.ble (i+n) cs.length=true)(E:en (ev cs i) n=l): ∀H,JJ B F L R H->LDv P H t (.pointer (some ⟨b,i,none⟩)) (.agg ⟨l⟩):=
 fun _ ⟨_,_,q⟩=>by have:=ldN (o:=0) (HS.hc q h) ha T O E;rwa [a0A]at this
def FzC(F:Fz)(b:Nat)(cs:List Value):Prop:=F b=some (.cells cs none false)
theorem jc(hs:HS B F H L R){g:FuncId}{args:List Value}{α:Type}{e:α->Value}{c_:α}(h: ∀E H1,Fz.le F E->HS (.of H1 []) E H1 [] (L++R)->C P G K g args H1 fun v T=> ∃(o:α) (O:Fz),Fz.le E O/\HS (.of H1 []) O T [] (L++R)/\v=e o/\o=c_):
  ∀H,JJ B F L R H->C P G K g args H fun v H'=>v=e c_/\JJ B F L R H':=
 fun H ⟨E,h1,q⟩=>(h E H h1 q.call).mono fun v H' ⟨o,O,h2,q2,e1,e2⟩=>⟨by rw[e1,e2],O,Fz.le_trans h1 h2,by
  have:=q.back V q2;rwa [a0p]at this⟩
theorem jp(hs:HS B F H L R){g:FuncId}{args:List Value}{v:Value}(h: ∀H,C P G K g args H fun v' H'=>v'=v/\H'=H): ∀H,JJ B F L R H->C P G K g args H fun v' H'=>v'=v/\JJ B F L R H':=
 fun H q=>(h H).mono fun v' H' ⟨e1,e2⟩=>⟨e1,by rw[e2];exact q⟩
end
end Go.R
end
noncomputable section
set_option linter.unusedVariables false
namespace Go.R
section
variable {P:Program} {G0:Nat} {K:bM} {sz:Nat} {Q:Ex->Fn->Heap->Prop} {ops:Array Oper} {os:List Oper} {k k1:List Fr} {c1:Code} {f fr:Fn} {H:Heap} {S:SS} {B:Base} {F:Fz} {L R:List Fp}
theorem sj_row{hs:List (Nat×Hint)}: ∀{a:List Oper} {i:Nat} {S S':SS} {T:List Fp} {p:Prop} {fr:Fn} {H:Heap},JJ B F L R H->a.all (fun o=>o.dst.isSome)=true->sgL P G0 (WJ P G0 K (JJ B F L R)) sz ops f hs i a S L=some (S',T,p)->p->S.Rel f fr->
  (∀O H',JJ B F L R H'->S'.Rel f O->WO P G0 K sz ops os k O H' Q)->WO P G0 K sz ops (a++os) k fr H Q
 | [],i,S,S',T,p,fr,H,hJ,_,h,_,hr,hk=>by simp only[sgL,a01,a04]at h;obtain⟨rfl,_,_⟩:=h;exact hk fr H hJ hr
 |o::a,i,S,S',T,p,fr,H,hJ,hd,h,E,hr,hk=>by
  rw[a0o,a03]at hd;unfold sgL at h;split at h
  ·rename_i q _;split at h
   ·rename_i b cs ho hg hc;rw[a03]at hc;have hq:=nq ho;obtain⟨b0,op,ty,pos,af,gd⟩:=o;simp only at hg hc h hd;subst hg;split at h
    ·rename_i d t x;simp only[Op.operands,a0o,a19,a0J]at hc;split at h
     ·rename_i b' o' U;split at h
      ·rename_i v Y;cases hb:Nat.ble (d+1) sz with
       |false=>rw[hb]at h;cases h
       |true=>
        rw[hb]at h
        simp only[cond_true]at h
        split at h
        ·rename_i S1 q1 Z;split at h
         ·rename_i S2 L2 p2 e4;simp only[a01,a04]at h;obtain⟨rfl,rfl,rfl⟩:=h;obtain⟨rfl,E⟩:=E;have h1:=(ly (m:=S.m) (G:=S.G) hr (c:=[]) (fun _ _ hm=>(a0f hm).elim) Z).1;obtain⟨F',ax,hh⟩:=hJ;exact ad (ldR_ok (HS.hc hh hq) (by rw[iU hr hc.2];exact U) Y) (by simp only[Op.operands,a0o,a19,a0J];exact hc.1) hb (sj_row ⟨F',ax,hh⟩ hd.2 e4 E h1 hk)
         cases h
        cases h
      cases h
     cases h
    ·cases hd.1
    cases h
   cases h
  split at h
  ·rename_i S1 q h1;split at h
   ·rename_i S2 L2 p2 h2;simp only[a01,a04]at h;obtain⟨rfl,rfl,rfl⟩:=h;obtain⟨hq,a3⟩:=fW E;obtain⟨d,c,G1,v,U,Y,Z,e4,e5,e6⟩:=ic okJ hr h1 hq;exact wo_do U Y Z (gy hr e4) e5 hJ fun H' a0=>sj_row a0 hd.2 h2 a3 e6 hk
   cases h
  cases h
theorem sj(n:Nat){id:Nat}{hs:List (Nat×Hint)}(lo hi:Nat)(ex:List Nat)(l:List (Nat×Value)){p:Prop}(Z:HP hs p)(U:HS B F H L R)(h:sgE lo hi ex (ec Prod.fst l) (sgL P G0 (WJ P G0 K (JJ B F L R)) sz ops f hs 0 ops.toList ⟨[],[]⟩ L)=some (l,L,p))(E:(foc n .skip k,ops.toList.all (fun o=>o.dst.isSome))=((c1,k1),true))
  (Y: ∀g H F',Fz.le F F'->HS B F' H L R->WK P G0 K sz c1 k1 (gO (hav lo hi ex g f) l) H Q):WK P G0 K sz (.region id ops false) k f H Q:=by
 rw[a04]at E
 obtain⟨S,O,T⟩:=sgE_ok (f:=f) h
 refine ab ?_
 have:=sj_row (os:=[]) (k:=k) (Q:=Q) ⟨F,Fz.le_refl F,U⟩ E.2 O Z rel0 (fun fr H' ⟨F',q1,q2⟩ hr=>by obtain⟨g,rfl⟩:=T fr hr;exact ay (ai n E.1 (Y g H' F' q1 q2)))
 rwa [a0p]at this
theorem Hk_(i:Nat){d_:Heap->Prop}{g:FuncId}{args:List Value}{v:Value}{hs:List (Nat×Hint)}{p:Prop}(h: ∀H,d_ H->C P G0 K g args H fun v' H'=>v'=v/\d_ H')(r:HP hs p):HP ((i,.o v)::hs) ((∀H,d_ H->C P G0 K g args H fun v' H'=>v'=v/\d_ H')/\p):=⟨h,r⟩
theorem Hl1_(i:Nat){E w0:Bool}{H:Heap}{t:TypeId}{a v:Value}{hs:List (Nat×Hint)}{p:Prop}(h:E=w0->LDv P H t a v)(r:HP hs p):HP ((i,.o v)::hs) ((E=w0->LDv P H t a v)/\p):=⟨h,r⟩
theorem Hc1_(i:Nat){E w0:Bool}{H:Heap}{g:FuncId}{args:List Value}{v:Value}{hs:List (Nat×Hint)}{p:Prop}(h:E=w0->C P G0 K g args H fun v' H'=>v'=v/\H'=H)(r:HP hs p):HP ((i,.o v)::hs) ((E=w0->C P G0 K g args H fun v' H'=>v'=v/\H'=H)/\p):=⟨h,r⟩
theorem eY(i:Nat){E w0:Bool}{d_:Heap->Prop}{t:TypeId}{a v:Value}{hs:List (Nat×Hint)}{p:Prop}(h:E=w0->∀H,d_ H->LDv P H t a v)(r:HP hs p):HP ((i,.o v)::hs) ((E=w0->∀H,d_ H->LDv P H t a v)/\p):=⟨h,r⟩
theorem kI(i:Nat){E w0:Bool}{d_:Heap->Prop}{g:FuncId}{args:List Value}{v:Value}{hs:List (Nat×Hint)}{p:Prop}(h:E=w0->∀H,d_ H->C P G0 K g args H fun v' H'=>v'=v/\d_ H')(r:HP hs p):HP ((i,.o v)::hs) ((E=w0->∀H,d_ H->C P G0 K g args H fun v' H'=>v'=v/\d_ H')/\p):=⟨h,r⟩
theorem Hl2_(i:Nat){E w0 O w1:Bool}{H:Heap}{t:TypeId}{a v:Value}{hs:List (Nat×Hint)}{p:Prop}(h:E=w0->O=w1->LDv P H t a v)(r:HP hs p):HP ((i,.o v)::hs) ((E=w0->O=w1->LDv P H t a v)/\p):=⟨h,r⟩
theorem Hc2_(i:Nat){E w0 O w1:Bool}{H:Heap}{g:FuncId}{args:List Value}{v:Value}{hs:List (Nat×Hint)}{p:Prop}(h:E=w0->O=w1->C P G0 K g args H fun v' H'=>v'=v/\H'=H)(r:HP hs p):HP ((i,.o v)::hs) ((E=w0->O=w1->C P G0 K g args H fun v' H'=>v'=v/\H'=H)/\p):=⟨h,r⟩
theorem Hl3_(i:Nat){E w0 O w1 T U:Bool}{H:Heap}{t:TypeId}{a v:Value}{hs:List (Nat×Hint)}{p:Prop}(h:E=w0->O=w1->T=U->LDv P H t a v)(r:HP hs p):HP ((i,.o v)::hs) ((E=w0->O=w1->T=U->LDv P H t a v)/\p):=⟨h,r⟩
end
end Go.R
end
noncomputable section
set_option linter.unusedVariables false
namespace Go.R
open Go
structure TabS(f:List UInt8->Option Value)(es:List (Value×Value)):Prop where
 key: ∀e,e∈es->∃k,e.1= .string ⟨⟨k⟩⟩
 at_: ∀k,hC .string (.string ⟨⟨k⟩⟩) es=f k
def updS(f:List UInt8->Option Value)(k:List UInt8)(v:Value):List UInt8->Option Value:=fun x=>if x=k then some v else f x
section
variable {P:Program} {ρ:Operand->Value} {d:Option Tmp} {ty:TypeId} {pos:String} {af:Array Edge} {gd:Option (Nat×Bool)} {B:Base} {F:Fz} {H:Heap} {L R:List Fp} {f:List UInt8->Option Value} {es:List (Value×Value)}
end
def tabS(l:List (List UInt8)):List (Value×Value):=l.foldl (fun es k=>je (.string ⟨⟨k⟩⟩) (.bool true) es) []
def tabB(b:Nat)(l:List (List UInt8)):Fp:=[(b,.tab (tabS l))]
def inS(l:List (List UInt8))(k:List UInt8):Option Value:=if k∈l then some (.bool true) else none
section
variable {P:Program} {ρ:Operand->Value} {d:Option Tmp} {ty:TypeId} {pos:String} {af:Array Edge} {gd:Option (Nat×Bool)} {B:Base} {F:Fz} {H:Heap} {L R:List Fp}
end
def FzT(F:Fz)(b:Nat)(l:List (List UInt8)):Prop:=F b=some (.tab (tabS l))
section
variable {P:Program} {B:Base} {F F':Fz} {H:Heap} {L R:List Fp} {b:Nat} {l:List (List UInt8)}
end
def tabK(l:List (List UInt8×Int)):List (Value×Value):=l.foldl (fun es k=>je (.string ⟨⟨k.1⟩⟩) (.int .i64 k.2) es) []
def tabJ(b:Nat)(l:List (List UInt8×Int)):Fp:=[(b,.tab (tabK l))]
def lasK(l:List (List UInt8×Int))(k:List UInt8):Option Int:=l.foldl (fun r e=>if k=e.1 then some e.2 else r) none
def inK(l:List (List UInt8×Int))(k:List UInt8):Option Value:=(lasK l k).map (.int .i64)
section
variable {P:Program} {ρ:Operand->Value} {d:Option Tmp} {ty:TypeId} {pos:String} {af:Array Edge} {gd:Option (Nat×Bool)} {B:Base} {F F':Fz} {H:Heap} {L R:List Fp} {b:Nat} {l:List (List UInt8×Int)} {k:List UInt8}
def FzK(F:Fz)(b:Nat)(l:List (List UInt8×Int)):Prop:=F b=some (.tab (tabK l))
end
end Go.R
end
noncomputable section
set_option linter.unusedVariables false
namespace Go.R
open Go
section
variable {P:Program} {ρ:Operand->Value} {d:Option Tmp} {ty:TypeId} {pos:String} {af:Array Edge} {gd:Option (Nat×Bool)} {B:Base} {F:Fz} {H:Heap} {L R:List Fp} {v:Value} {l:List UInt8} {p:Fp}
end
structure GdT where
 b:List UInt8
 a:Option Addr
 k:Nat
 p:Fp
 ok:OS (fun _=>none) (.slice a b.length k) b p
def psG(g:Nat)(w:GdT):Fp:=(g,.cells [.slice w.a w.b.length w.k] none false)::w.p
section
variable {B:Base} {F:Fz} {H:Heap} {L R:List Fp}
end
end Go.R
end
noncomputable section
namespace Go.R
section
variable {B:Base} {F F':Fz} {H:Heap} {L R:List Fp}
end
structure Hd where
 a:Option Addr
 n:Nat
 k:Nat
instance :Inhabited Hd:=⟨⟨none,0,0⟩⟩
def Hd.v(h:Hd):Value:= .slice h.a h.n h.k
instance :Rp Hd where
 sz:=1
 rep _ cs h:=cs=[.slice h.a h.n h.k]
 len:=by rintro F cs x rfl;rfl
 one:=by rintro F cs x rfl;rfl
 mono:=by intro F F' cs x _ h;exact h
def FAM{ι β:Type}(Ch:Fz->ι->β->Fp->Prop)(F:Fz):List ι->List β->Fp->Prop
 | [],[],p=>p=[]
 |h::hs,x::xs,p=> ∃q r,p=q++r/\Ch F h x q/\FAM Ch F hs xs r
 |_,_,_=>False
section
variable {ι β:Type} {Ch:Fz->ι->β->Fp->Prop} {F F':Fz}
end
section
variable {α:Type} [Rp α] {F F':Fz}
theorem SR.nin{B:Base}{H:Heap}{L R:List Fp}{v:Value}{l:List α}{i j:Nat}{p:Fp}(h:SR F v l)(s:HS B F H L R)(hi:L[i]?=some p)(U:j<l.length):sB v∉p.map Prod.fst:=by
 rcases h with⟨_,rfl⟩|⟨b,off,k,o,rfl,T,_⟩
 ·simp at U
 intro Y;obtain⟨⟨E,Z⟩,hb,e⟩:=a0t.1 Y;have O:E=b:=e;subst O;have:=(s.own p (.inl (a0n hi)) E Z hb).2.2;rw[T]at this;cases this
class Ri(α:Type) [Rp α]:Prop where
 ind: ∀{F F':Fz} {cs:List Value} {x:α},Rp.rep F cs x->Rp.rep F' cs x
instance :Ri Int:=⟨fun h=>h⟩
instance :Ri Bool:=⟨fun h=>h⟩
instance :Ri Str:=⟨fun h=>h⟩
instance :Ri U64:=⟨fun h=>h⟩
instance :Ri UInt8:=⟨fun h=>h⟩
instance :Ri Hd:=⟨fun h=>h⟩
end
class HasHd(ι:Type) where
 hd:ι->Hd
instance :HasHd Hd:=⟨fun h=>h⟩
def OH{ι α:Type} [HasHd ι] [Rp α](F:Fz)(h:ι)(l:List α)(p:Fp):Prop:=OS F (HasHd.hd h).v l p
abbrev SF{ι α:Type} [HasHd ι] [Rp α](F:Fz)(hs:List ι)(ls:List (List α))(p:Fp):Prop:=FAM (OH (ι:=ι) (α:=α)) F hs ls p
section
variable {ι α:Type} [HasHd ι] [Rp α] {F F':Fz} {B:Base} {H:Heap} {L R:List Fp} {hs:List ι} {ls:List (List α)} {p:Fp}
def SB(F:Fz)(hs:List ι)(ls:List (List α))(i:Nat)(U:Fp):Prop:= ∀F',F.le F'->∀E l' T,OH F' E l' T->∃O,O.Perm (U++T)/\SF F' (hs.set i E) (ls.set i l') O
end
section
variable {ι α:Type} [HasHd ι] [Inhabited ι] [Rp α] {F F':Fz} {B:Base} {H:Heap} {L R:List Fp} {hs:List ι} {ls:List (List α)} {p:Fp}
end
section
variable {α:Type} [Rp α] {F F':Fz} {B:Base} {H:Heap} {L R:List Fp}
end
end Go.R
end
noncomputable section
namespace Go.R
section
variable {α:Type} [Rp α] {P:Program} {ρ:Operand->Value} {d:Option Tmp} {ty:TypeId} {pos:String} {af:Array Edge} {gd:Option (Nat×Bool)} {B:Base} {F:Fz} {H:Heap} {L R:List Fp} {v:Value} {l:List α} {p:Fp}
def At(α:Type) [Rp α](v:Value)(n i:Nat)(a:Option Addr):Prop:=n<=i\/a=some ⟨sB v,sO v+i *Rp.sz α,none⟩
def cpL(l:List α)(i:Nat)(E:List α):List α:=l.take i++(E.take (l.length-i)++l.drop (i+min E.length (l.length-i)))
end
end Go.R
end
noncomputable section
namespace Go.R
def tb(a:Int)(i:Nat):Bool:=a.toNat.testBit i
abbrev u64r(a:Int):Prop:=0<=a/\a<18446744073709551616
def bitOf(s:List U64)(n:Nat):Bool:=tb (s.getD (n/64) default).n (n%64)
def uniB(s t:List U64)(k:Nat)(w:List U64):Prop:=w.length=s.length/\∀i,bitOf w i=(bitOf s i||(decide (i<64 *k)&&bitOf t i))
def lstK(s:List U64)(m:Nat):List Int:=List.map (fun i:Nat=>(i:Int)) ((List.range m).filter (bitOf s))
def lstV(s:List U64):List Int:=lstK s (64 *s.length)
end Go.R
end
noncomputable section
namespace Go.R
open Go.RowKit Go.WideShapes Go.ChangeShapes
section
variable {c_:Type} {enc:TypeId×Value->c_} {P:Program} {w:World} {μ:Emb} {H:Heap}
def EmC(enc:TypeId×Value->c_)(P:Program)(w:World)(t:TypeId)(α:Type) [Rp α](B:DataW c_->α->Prop):Prop:=
 ∀{μ:Emb} {H:Heap} {n:Nat} {cs:List Value} {x:DataW c_×List MemPlace},Em w μ H->DataW.trod enc P w 0 (fun _=>true) true n t cs=some x->
  ∃μ' H' c y,Em w μ' H'/\EmLe μ H μ' H'/\LRel μ' c cs/\Rp.rep H'.get c (y:α)/\B x.1 y
def LB{α:Type}(B:DataW c_->α->Prop)(d:DataW c_)(l:List α):Prop:=
 l.length<=maxLen/\∃(D:Nat->DataW c_) (rest:List (DataW c_)),(d= .slice ((List.range l.length).map D) rest\/(d= .nil/\l=[]))/\∀i y,l[i]?=some y->B (D i) y
end
end Go.R
end
noncomputable section
namespace Go.R
open Go.ChangeShapes
section
variable {H:Type} {enc:TypeId×Value->H}
end
end Go.R
end
noncomputable section
set_option linter.unusedVariables false
namespace Go.R
structure Eqs(s s':St):Prop where
 t:dm s.tmps=dm s'.tmps
 n:s.size=s'.size
 h:s.heap=s'.heap
def CgS(f g:St->Option (Ex×St)):Prop:= ∀s O,Eqs s O->∀e r,f s=some (e,r)->∃E,g O=some (e,E)/\Eqs r E
section
variable {P:Program} {G:Nat} {cf:cX} {ops:Array Oper}
end
def tabT(args:List Value):List (Nat×Value)->Tr Value
 | []=>fL 0 args .nil
 |(i,v)::l=>lset (tabT args l) i v
def endsTrue(d:Nat)(r:Option (Ex×St)):Bool:=match r with
 |some (.normal,s)=>(match dm s.tmps d with| .bool b=>b|_=>false)
 |some (.ret,s)=>(match dm s.tmps d with| .bool b=>b|_=>false)
 |_=>false
end Go.R
end
noncomputable section
set_option linter.unusedVariables false
namespace Go.R
structure PtrT where
 b:Nat
 deriving Inhabited
instance :Rp PtrT where
 sz:=1
 rep F cs x:=cs=[.pointer (some ⟨x.b,0,none⟩)]
 len:=by rintro F cs x rfl;rfl
 one:=by rintro F cs x rfl;rfl
 mono:=by intro F F' cs x _ h;exact h
section
variable {B:Base} {F F':Fz} {H:Heap} {L R:List Fp}
end
section
variable {P:Program} {G:Nat} {K:bM} {sz:Nat} {Q:Ex->Fn->Heap->Prop} {ops:Array Oper} {D:List (Nat×ID)} {i:Nat} {os:List Oper} {k:List Fr} {f:Fn} {H:Heap}
end
section
variable {ι β:Type} {Ch:Fz->ι->β->Fp->Prop} {F:Fz}
end
end Go.R
end
noncomputable section
set_option linter.unusedVariables false
namespace Go.R
open Go
theorem RL.imp{α:Type}{i j:Rp α}{F:Fz}(h: ∀cs x,i.rep F cs x->j.rep F cs x): ∀{l:List α} {cs:List Value}, @RL α i F cs l-> @RL α j F cs l
 | [],_,k=>k
 |_::_,_,⟨c,r,e,h1,h2⟩=>⟨c,r,e,h _ _ h1,RL.imp h h2⟩
theorem SR.imp{α:Type}{i j:Rp α}{F:Fz}(E:i.sz=j.sz)(h: ∀cs x,i.rep F cs x->j.rep F cs x){v:Value}{l:List α}(k: @SR α i F v l): @SR α j F v l:=by
 rcases k with k|⟨b,off,n,o,h1,h2,cs,opn,ro,h3,h4,h5,h6,h7⟩
 ·exact .inl k
 exact .inr ⟨b,off,n,o,h1,h2,cs,opn,ro,h3,by rw[←E];exact h4,h5,by rw[←E];exact RL.imp h h6,by rw[←E];exact h7⟩
structure Lv(α:Type)(n:Nat) where
 r:Fz->List Value->α->Prop
 len: ∀{F:Fz} {cs:List Value} {x:α},r F cs x->cs.length=n
 one: ∀{F:Fz} {cs:List Value} {x:α},r F cs x->nW Value.oneCell' cs=true
 mono: ∀{F F':Fz} {cs:List Value} {x:α},F.le F'->r F cs x->r F' cs x
abbrev Lv.rp{α:Type}{n:Nat}(r:Lv α n):Rp α:=⟨n,r.r,r.len,r.one,r.mono⟩
abbrev rpOf{α:Type}{n:Nat}(r:Nat->Lv α n):Rp α:=⟨n,fun F cs x=> ∃d,(r d).r F cs x,fun⟨d,h⟩=>(r d).len h,fun⟨d,h⟩=>(r d).one h,fun hF ⟨d,h⟩=>⟨d,(r d).mono hF h⟩⟩
theorem RL.unif{α:Type}{n:Nat}{r:Nat->Lv α n}{F:Fz}(E: ∀d cs x,(r d).r F cs x->(r (d+1)).r F cs x): ∀{l:List α} {cs:List Value}, @RL α (rpOf r) F cs l->∃d,∀e,d<=e-> @RL α (r e).rp F cs l
 | [],_,h=>⟨0,fun _ _=>h⟩
 |x::l,_,⟨c,t,e,⟨d,h1⟩,h2⟩=>by
  obtain⟨O,T⟩:=RL.unif E h2;have up: ∀e,d<=e->(r e).r F c x:=fun e U=>by
   induction e with
   |zero=>
    have:d=0:=M
    subst this;exact h1
   |succ e ih=>
    rcases a0c e d with h|h
    ·have:d=e+1:=M
     subst this;exact h1
    exact E _ _ _ (ih h)
  exact⟨max d O,fun q Y=>⟨c,t,e,up q M,T q M⟩⟩
theorem SR.unif{α:Type}{n:Nat}{r:Nat->Lv α n}{F:Fz}(T: ∀d cs x,(r d).r F cs x->(r (d+1)).r F cs x){v:Value}{l:List α}(k: @SR α (rpOf r) F v l): ∃d,∀e,d<=e-> @SR α (r e).rp F v l:=by
 rcases k with k|⟨b,off,n,o,h1,h2,cs,opn,ro,h3,h4,h5,h6,h7⟩
 ·exact⟨0,fun _ _=> .inl k⟩
 obtain⟨d,E⟩:=RL.unif T h6;exact⟨d,fun e O=> .inr ⟨b,off,n,o,h1,h2,cs,opn,ro,h3,h4,h5,E e O,h7⟩⟩
end Go.R
end
namespace Go.R
abbrev iI(n:Int):Value:= .int .i64 n
abbrev pT(b o:Nat):Value:= .pointer (some ⟨b,o,none⟩)
abbrev fP(b:Nat)(l:List Value):Fp:=[(b,.cells l none false)]
abbrev sL(a:Option Addr)(n k:Nat):Value:= .slice a n k
abbrev aG(l:List Value):Value:= .agg ⟨l⟩
abbrev tX(b:List UInt8):Value:= .string ⟨⟨b⟩⟩
theorem fT{a b c:Fz}(h:a.le b)(k:b.le c):a.le c:=Fz.le_trans h k
theorem fR{a:Fz}:a.le a:=Fz.le_refl a
theorem wR{P:Program}{G:Nat}{K:bM}{sz:Nat}{Q:Ex->Fn->Heap->Prop}{f:Fn}{H:Heap}{c1:Code}{k k1:List Fr}(n:Nat){id:Nat}{ops:Array Oper}(hs:List (Nat×Hint))(lo hi:Nat)(ex:List Nat)(l:List (Nat×Value)){p:Prop}(T:p)(E:foc n .skip k=(c1,k1))(O: ∀g,WK P G K sz c1 k1 (gO (hav lo hi ex g f) l) H Q)(h:fU P G (W0 P G K H) sz ops f 0 ops.toList hs lo hi ex (ec Prod.fst l)=some (l,p):=by kernel_rfl):WK P G K sz (.region id ops false) k f H Q:=wr n hs lo hi ex l T h E O
theorem wRD{P:Program}{G:Nat}{K:bM}{sz:Nat}{Q:Ex->Fn->Heap->Prop}{f:Fn}{H:Heap}{c1:Code}{k k1:List Fr}(n:Nat){id:Nat}{ops:Array Oper}(hs:List (Nat×Hint))(lo hi:Nat)(ex:List Nat)(l:List (Nat×Value)){p:Prop}(T:p)(U:(jg ops&&P.follows .mixedOrders)=true)(E:foc n .skip k=(c1,k1))(O: ∀g,WK P G K sz c1 k1 (gO (hav lo hi ex g f) l) H Q)(h:fU P G (W0 P G K {H with log:=[]}) sz ops f 0 ops.toList hs lo hi ex (ec Prod.fst l)=some (l,p):=by kernel_rfl):WK P G K sz (.region id ops true) k f H Q:=wrD n hs lo hi ex l T U h E O
theorem wRo{P:Program}{G:Nat}{K:bM}{sz:Nat}{Q:Ex->Fn->Heap->Prop}{f:Fn}{H:Heap}{k:List Fr}(n i:Nat){ops:Array Oper}{os E:List Oper}(hs:List (Nat×Hint))(lo hi:Nat)(ex:List Nat)(l:List (Nat×Value)){p:Prop}(U:p)(O:ev os n=E)(T: ∀g,WO P G K sz ops E k (gO (hav lo hi ex g f) l) H Q)(h:fU P G (W0 P G K H) sz ops f i (en os n) hs lo hi ex (ec Prod.fst l)=some (l,p):=by kernel_rfl):WO P G K sz ops os k f H Q:=wro n i hs lo hi ex l U h O T
theorem wT{P:Program}{G:Nat}{K:bM}{sz:Nat}{Q:Ex->Fn->Heap->Prop}{f:Fn}{H:Heap}{c1:Code}{k k1:List Fr}(n:Nat){id:Nat}{ops:Array Oper}(hs:List (Nat×Hint))(lo hi:Nat)(ex:List Nat)(l:List (Nat×Value))(E:foc n .skip k=(c1,k1))(O: ∀g,WK P G K sz c1 k1 (gO (hav lo hi ex g f) l) H Q)(h:fU P G (W0 P G K H) sz ops f 0 ops.toList hs lo hi ex (ec Prod.fst l)=some (l,True):=by kernel_rfl):WK P G K sz (.region id ops false) k f H Q:=wR n hs lo hi ex l trivial E O h
theorem wU{P:Program}{G:Nat}{K:bM}{sz:Nat}{Q:Ex->Fn->Heap->Prop}{f:Fn}{H:Heap}{c1:Code}{k k1:List Fr}(n:Nat){id:Nat}{ops:Array Oper}(hs:List (Nat×Hint))(lo hi:Nat)(ex:List Nat)(l:List (Nat×Value)){p:Prop}(T:p)(E:foc n .skip k=(c1,k1))(O: ∀g,WK P G K sz c1 k1 (gO (hav lo hi ex g f) l) H Q)(h:fU P G (W0 P G K H) sz ops f 0 ops.toList hs lo hi ex (ec Prod.fst l)=some (l,p/\True):=by kernel_rfl):WK P G K sz (.region id ops false) k f H Q:=wR n hs lo hi ex l ⟨T,trivial⟩ E O h
theorem wTo{P:Program}{G:Nat}{K:bM}{sz:Nat}{Q:Ex->Fn->Heap->Prop}{f:Fn}{H:Heap}{k:List Fr}(n i:Nat){ops:Array Oper}{os E:List Oper}(hs:List (Nat×Hint))(lo hi:Nat)(ex:List Nat)(l:List (Nat×Value))(O:ev os n=E)(T: ∀g,WO P G K sz ops E k (gO (hav lo hi ex g f) l) H Q)(h:fU P G (W0 P G K H) sz ops f i (en os n) hs lo hi ex (ec Prod.fst l)=some (l,True):=by kernel_rfl):WO P G K sz ops os k f H Q:=wRo n i hs lo hi ex l trivial O T h
theorem wUo{P:Program}{G:Nat}{K:bM}{sz:Nat}{Q:Ex->Fn->Heap->Prop}{f:Fn}{H:Heap}{k:List Fr}(n i:Nat){ops:Array Oper}{os E:List Oper}(hs:List (Nat×Hint))(lo hi:Nat)(ex:List Nat)(l:List (Nat×Value)){p:Prop}(U:p)(O:ev os n=E)(T: ∀g,WO P G K sz ops E k (gO (hav lo hi ex g f) l) H Q)(h:fU P G (W0 P G K H) sz ops f i (en os n) hs lo hi ex (ec Prod.fst l)=some (l,p/\True):=by kernel_rfl):WO P G K sz ops os k f H Q:=wRo n i hs lo hi ex l ⟨U,trivial⟩ O T h
end Go.R
namespace Go.R
theorem g_{B:Base}{F:Fz}{H:Heap}{L R:List Fp}(h:HS B F H L R){p:Fp}(e:L[0]?=some p):HS (.of H (p.map Prod.fst)) F H [p] (L.set 0 []++R):=HS.callOwn h e
theorem h_{B:Base}{F:Fz}{H:Heap}{L R:List Fp}(h:HS B F H L R){b:Nat}{cs:List Value}(e:L[0]?=some [(b,.cells cs none false)]):HC H.get b 0 cs:=HS.hc h e
theorem i_{B:Base}{F:Fz}{H:Heap}{L R:List Fp}(h:HS B F H L R){b:Nat}{cs:List Value}(e:L[1]?=some [(b,.cells cs none false)]):HC H.get b 0 cs:=HS.hc h e
theorem j_{F:Fz}:∀{l:List Str},RL F (l.map fun s=>.string ⟨⟨s.b⟩⟩) l
|[]=>RL.nl
|_::_=>RL.cs rfl j_
theorem k_{p:Prop}(h:p:=by rfl):p:=h
theorem l_{p:Prop}(h:p:=by rw[a00,List.length_singleton];omega):p:=h
end Go.R
