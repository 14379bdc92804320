/-
Symbolic runs by computation, data, the laid table.
-/
import Derived.Test.YtgdggmlghemecaaGreatDoorZVRC
import Derived.Laws.Bits128
import Derived.OpenShut
import Derived.ReadAgain
import Derived.Test.YtgdggmlghemecaaGreatDoorZVRB
import Derived.Deep.Slices
import Derived.JoinedCond
import Derived.LaidLaws
import Derived.KernelRfl
noncomputable section
namespace Go.R
section
variable {P:Program} {f:Fn} {H:Heap} {rs:List ResultVar} {l:List Value}
theorem rN:cm P f H []=some []:=rfl
theorem rT{t:Tmp}{v:Value}(E:f t=v)(h:cm P f H rs=some l):cm P f H (.tmp t::rs)=some (v::l):=by unfold cm;rw[h,E]
theorem rC{a:Tmp}{t:TypeId}{p:Addr}{v:Value}(E:f a= .pointer (some p))(N:H.loadV P t p=some v)(h:cm P f H rs=some l):cm P f H (.cell a t::rs)=some (v::l):=by unfold cm;rw[E];simp only[N,h]
theorem ldVN{t:TypeId}{b n:Nat}{cs:List Value}(T:eX P t=some true)(hs:cZ P t=some n)(hc:HC H.get b 0 cs)(U:cs.length=n):H.loadV P t ⟨b,0,none⟩=some (.agg ⟨cs⟩):=by obtain⟨all,Z,ro,N,E⟩:=hc;unfold Heap.loadV;rw[T];simp only[hs];unfold Heap.loadN;rw[a1j]at E;subst U;simp only[N,bS,bU,bA,a1j,E,a15,cond_true]
end
section
variable {α:Type} [Rp α] {P:Program} {ρ:Operand->Value} {d:Option Tmp} {ty:TypeId} {pos:String} {af:Array Edge} {gd:Option (Nat×Bool)} {B:Base} {F:Fz} {H:Heap} {L R:List Fp} {v:Value} {l:List α} {p:Fp}
theorem ap_boolNe{t yt:TypeId}{x y:Operand}{a b:Bool}(N:ρ x= .bool a)(T:ρ y= .bool b)(E: ∀a b:Bool,aJ P (d4 .neq t x y a b)=some (.value (.bool (a !=b)))):AP P ρ ⟨d,.binOp .neq t x y yt,ty,pos,af,gd⟩ H (.val (.bool (a !=b)),H):=by
 refine⟨?_⟩;show aBin P ρ _ .neq t (ρ x) y H=_;rw[N];show bG P ρ _ H=_;unfold bG;have U:((Op.binOp .neq t x y yt).operands.toList.all fun x=>jT (ρ x))=true:=by simp[Op.operands,N,T,jT,noA0]
 simp only[U,cond_true];have Z:aJ P (execOp ρ ⟨d,.binOp .neq t x y yt,ty,pos,af,gd⟩)=some (.value (.bool (a !=b))):=by rw[←E a b];unfold execOp d4;simp only[N,T]
 rw[Z];rfl
theorem OS.len'{F:Fz}{a:Option Addr}{n k:Nat}{l:List α}{p:Fp}(h:OS F (.slice a n k) l p):l.length=n:=by obtain⟨E,N,e⟩:=h.shape;injection e with _ e _;exact e.symm
theorem OS.norm{F:Fz}{a:Option Addr}{n k:Nat}{l:List α}{p:Fp}(h:OS F (.slice a n k) l p):OS F (.slice a l.length k) l p:=by rw[h.len'];exact h
theorem ap_ixG{x i:Operand}{t:TypeId}{cs:Array Value}{w r:Value}(E:ρ x= .agg cs)(hi:ρ i=w)(h:aJ P (Instr.index t (.agg cs) w)=some r):AP P ρ ⟨d,.index t x i,ty,pos,af,gd⟩ H (.val r,H):=by refine⟨?_⟩;show lI P t (ρ x) (ρ i) H=_;rw[E,hi];show lift P (Instr.index t (.agg cs) w) H=_;unfold lift;rw[h]
end
section
variable {α:Type} [Rp α] {P:Program} {ρ:Operand->Value} {d:Option Tmp} {ty:TypeId} {pos:String} {af:Array Edge} {gd:Option (Nat×Bool)} {B:Base} {F:Fz} {H:Heap} {L R:List Fp} {v:Value} {l:List α} {p:Fp} {t e:TypeId} {x:Operand} {i j q:Nat}
theorem rs_cutd{lo:Option Operand}(h:SR F v l)(hs:HS B F H L R)(U:ρ x=v)(T:P.underlying t=some (.slice e))(Z:cZ P e=some (Rp.sz α))(N:cd 0 (lo.map ρ)=some i)(E:i<=l.length):
  ∃r:Rs,AP P ρ ⟨d,.slice t x lo none none,ty,pos,af,gd⟩ H (.val r.v,r.H)/\(∃a k,r.v= .slice a (l.drop i).length k/\r.H=H/\SR F (.slice a (l.drop i).length k) (l.drop i)):=by
 have:=rs_cut (d:=d) (ty:=ty) (pos:=pos) (af:=af) (gd:=gd) (hi:=none) h hs U T Z optN0 N E (a0d _)
 rwa [a0i (a0d _)]at this
theorem ns{hi:Option Operand}(h:SR F v l)(hs:HS B F H L R)(U:ρ x=v)(T:P.underlying t=some (.slice e))(Z:cZ P e=some (Rp.sz α))(E:cd l.length (hi.map ρ)=some j)(N:j<=l.length):
  ∃r:Rs,AP P ρ ⟨d,.slice t x none hi none,ty,pos,af,gd⟩ H (.val r.v,r.H)/\(∃a k,r.v= .slice a (l.take j).length k/\r.H=H/\SR F (.slice a (l.take j).length k) (l.take j)):=by
 have:=rs_cut (d:=d) (ty:=ty) (pos:=pos) (af:=af) (gd:=gd) (lo:=none) h hs U T Z E optN0 (a0D _) N
 rwa [a1j]at this
end
def kS(P:Program):List Field->Option (List (Nat×Nat))
 | []=>some []
 |f::fs=>match cZ P f.type with
  |some n=>match kS P fs with
   |some l=>some ((f.offset,n)::l)
   |none=>none
  |none=>none
def fillL(pl:Nat->Option (Nat×Nat)):List Value->List (Nat×Value)->Option (List Value)
 |cs,[]=>some cs
 |cs,(i,v)::r=>match pl i with
  |some (off,n)=>bif Nat.beq (eB v.cells.toList) n&&Nat.ble (off+eB v.cells.toList) (eB cs) then fcL (bc cs off v.cells.toList) fun cs=>fillL pl cs r else none
  |none=>none
def bldL(P:Program)(t:TypeId)(ps:List (Nat×Value)):Option (List Value):=match P.underlying t with
 |some (.struct fs)=>match cy P t with
  |some z=>match kS P fs.toList with
   |some pl=>fillL (nth pl) z ps
   |none=>none
  |none=>none
 |_=>none
theorem kM: ∀(l:List Value) (s off:Nat) (A:List Value),off+s+l.length<=A.length->((l.zipIdx s).foldl (fun(cs:Array Value) p=>cs.setIfInBounds (off+p.2) p.1) ⟨A⟩)=⟨bc A (off+s) l⟩
 | [],s,off,A,h=>by
  have:bc A (off+s) []=A:=by rw[kJ A [] (off+s) h];simp
  rw[this];rfl
 |v::l,s,off,A,h=>by
  rw[List.zipIdx_cons,a2p];show((l.zipIdx (s+1)).foldl (fun(cs:Array Value) p=>cs.setIfInBounds (off+p.2) p.1) ((⟨A⟩:Array Value).setIfInBounds (off+s) v))=_;rw[show(⟨A⟩:Array Value).setIfInBounds (off+s) v=⟨A.set (off+s) v⟩ from by rw[←a1m,Array.toList_setIfInBounds]];simp only[a05]at h;rw[kM l (s+1) off _ (by rw[a0h];omega),←a1m];show bc (A.set (off+s) v) (off+(s+1)) l=bc A (off+s) (v::l);apply a1o;intro i;rw[bp _ _ _ i (by rw[a0h];omega),bp _ _ _ i (by simp only[a05];omega)];simp only[a05,a1T];by_cases E:i=off+s
  ·subst E;rw[if_neg M,if_pos V,if_pos M,if_pos M,a1S,a0W]
  rw[if_neg (show ¬off+s=i from fun e=>E e.symm)];by_cases N:off+(s+1)<=i/\i<off+(s+1)+l.length
  ·rw[if_pos N,if_pos M,show i-(off+s)=(i-(off+(s+1)))+1 by omega,a1J]
  rw[if_neg N,if_neg M]
theorem nH(pl:Nat->Option (Nat×Nat)): ∀(ps:List (Nat×Value)) (cs r:List Value),fillL pl cs ps=some r->Instr.fill pl ⟨cs⟩ ps=some ⟨r⟩
 | [],cs,r,h=>by simp only[fillL,a00]at h;subst h;rfl
 |(i,v)::ps,cs,r,h=>by
  unfold fillL at h;split at h
  ·rename_i off n e;cases E:(Nat.beq (eB v.cells.toList) n&&Nat.ble (off+eB v.cells.toList) (eB cs)) with
   |false=>rw[E]at h;cases h
   |true=>
    rw[E]at h
    simp only[cond_true,mE]at h
    rw[a09]at E
    have T:=a0c E.1
    have N:=a0a E.2
    rw[bA]at T N
    rw[bA]at N
    unfold Instr.fill
    simp only[e]
    rw[if_neg (by
     simp only[a0A,decide_eq_true_eq,not_or];show ¬(v.cells.size≠n)/\¬(off+v.cells.size>cs.length);rw[←a21];omega)]
    have:=nH pl ps _ _ h
    rw[←this]
    congr 1
    rw[←Array.foldl_toList,Array.toList_zipIdx]
    have:=kM v.cells.toList 0 off cs M
    exact this
  cases h
theorem places_ok{P:Program}: ∀{fs:List Field} {pl:List (Nat×Nat)},kS P fs=some pl->aJ P (fs.mapM (m:=Sem) fun f=>do Pure.pure (f.offset,←sizeOf f.type))=some pl
 | [],pl,h=>by simp only[kS,a00]at h;subst h;rfl
 |f::fs,pl,h=>by
  unfold kS at h;split at h
  ·rename_i n e;split at h
   ·rename_i l E;simp only[a00]at h;subst h;rw[a2y];simp only[aM,ct,e,a0q,bD,places_ok E]
   cases h
  cases h
theorem bldL_ok{P:Program}{t:TypeId}{ps:Array (Nat×Value)}{cs:List Value}(h:bldL P t ps.toList=some cs):aJ P (Instr.build t ps)=some (.agg ⟨cs⟩):=by
 unfold bldL at h;split at h
 ·rename_i fs Z;split at h
  ·rename_i z E;split at h
   ·rename_i pl e3;have hz: ∃v,aJ P (zeroValue t)=some v/\v.cells.toList=z:=by
     unfold cy at E;split at E
     ·rename_i i hi;split at E
      ·rename_i v N;refine⟨v,?_,?_⟩
       ·unfold zeroValue;simp only[aM,cW,hi,a0q,N];rfl
       cases T:v.cells.toList.all noA0 with
       |true=>rw[T]at E;simpa using E
       |false=>rw[T]at E;cases E
      cases E
     cases E
    obtain⟨v,N,U⟩:=hz;unfold Instr.build;simp only[aM,N,a0q,bx,Z];rw[Array.mapM_eq_mapM_toList];simp only[←bind_pure_comp,aM,places_ok e3,a0q,bD];have:=nH (nth pl) ps.toList z cs h;rw[show nth pl=fun i=>pl.toArray[i]? from funext fun i=>by rw[ga,a2f]]at this;rw[show v.cells=⟨z⟩ from by rw[←U]];simp only[this];rfl
   cases h
  cases h
 cases h
theorem w64_in(n:Int):in64 (IntKind.i64.wrap n):=by rw[IntKind.wrap_i64];constructor<;>omega
theorem fX(n:Int):IntKind.u64.wrap n=n%18446744073709551616:=rfl
abbrev bv(n:Int):BitVec 64:=BitVec.ofInt 64 n
theorem bv_toNat(a:Int):((bv a).toNat:Int)=a%18446744073709551616:=by rw[bv,BitVec.toNat_ofInt];omega
def valA(n:Nat)(c:UInt8):Nat:=10 *n+(c.toNat-48)
def val(l:List UInt8):Nat:=l.foldl valA 0
open Go.RowKit Go.WideShapes Go.ChangeShapes
structure Em(w:World)(μ:Emb)(H:Heap):Prop where
 rel:WRel μ H w
 ro: ∀b o,H.get b=some o->o.rw=false
 wf:WF H
 dom: ∀b,H.next<=b->μ b=none
 log:H.log=[]
section
variable {w:World} {μ:Emb} {H:Heap}
theorem Em.lt(h:Em w μ H){b:Nat}{o:AObj}(E:H.get b=some o):b<H.next:=by
 rcases a0g b H.next with h1|h1
 ·exact h1
 rw[h.wf b h1]at E;cases E
theorem Em.add(h:Em w μ H){c sh:Nat}{cs:List Value}(hc:c<w.heap.size)(T: ∀(i:Nat) v,cs[i]?=some v->∃v',w.cell? ⟨c,sh+i,none⟩=some v'/\VRel μ v v'):
  Em w (μ.set H.next ⟨c,sh,none,0⟩) (H.push (.cells cs none true)):=by
 have U:=Emb.set_ext (μ:=μ) (b:=H.next) ⟨c,sh,none,0⟩ (h.dom _ (a0d _))
 have Z: ∀b o,(H.push (.cells cs none true)).get b=some o->(b=H.next/\o= .cells cs none true)\/(b≠H.next/\H.get b=some o):=by
  intro b o E;by_cases e:b=H.next
  ·subst e;rw[Heap.get_push_same]at E;exact .inl ⟨V,(Option.some.inj E).symm⟩
  rw[Heap.get_push_ne _ _ (Ne.symm e)]at E;exact .inr ⟨e,E⟩
 have aa: ∀b o,(H.push (.cells cs none true)).get b=some o->o.rw=false:=by
  intro b o E;rcases Z b o E with⟨_,rfl⟩|⟨_,h1⟩
  ·rfl
  exact h.ro b o h1
 refine⟨⟨fun b l o E ho=>?_,fun b1 b2 l1 l2 o1 o2 _ _ _ h3 _ h5 _=>?_⟩,aa,fun b E=>?_,fun b E=>?_,h.log⟩
 ·rcases Z b o ho with⟨rfl,rfl⟩|⟨ai,al⟩
  ·rw[Emb.set_same]at E;obtain rfl:=Option.some.inj E;refine⟨V,V,hc,fun i v hv=>?_⟩;obtain⟨v',h1,h2⟩:=T i v hv;exact⟨v',h1,h2.mono U⟩
  rcases Emb.set_inv E with⟨e,_⟩|⟨_,N⟩
  ·exact absurd e ai
  exact(h.rel.obj b l o N al).keep U (a0d _) (fun _=>rfl)
 ·rw[aa b1 o1 h3]at h5;cases h5
 ·have N:H.next+1<=b:=E;rw[Heap.get_push_ne _ _ M];exact h.wf b M
 have N:H.next+1<=b:=E
 unfold Emb.set
 rw[if_neg M];exact h.dom b M
theorem Em.hs(h:Em w μ H):HS (.of H []) H.get H [] []:=
 ⟨fun b o E=>⟨E,h.lt E⟩,fun p N=>by simp at N,by simp,a0d _,fun b E=> .inl E,fun p N=>by simp at N⟩
end
structure EmLe(μ:Emb)(H:Heap)(μ':Emb)(H':Heap):Prop where
 emb: ∀b l,μ b=some l->μ' b=some l
 heap:Fz.le H.get H'.get
theorem EmLe.refl(μ:Emb)(H:Heap):EmLe μ H μ H:=⟨fun _ _ h=>h,fun _ _ h=>h⟩
theorem EmLe.add{w:World}{μ:Emb}{H:Heap}(h:Em w μ H)(l:Loc)(o:AObj):EmLe μ H (μ.set H.next l) (H.push o):=
 ⟨Emb.set_ext l (h.dom _ (a0d _)),fun b x E=>by rw[Heap.get_push_ne _ _ (Nat.ne_of_gt (h.lt E))];exact E⟩
section
variable {c_:Type} {enc:TypeId×Value->c_} {P:Program} {w:World} {μ:Emb} {H:Heap}
theorem wf_in64{n:Int}(h:(Lit.int .i64 n).wf=true):in64 n:=by simp[Lit.wf,IntKind.min,IntKind.max,IntKind.signed,IntKind.bits]at h;exact⟨by omega,by omega⟩
theorem RL_ints{F:Fz}: ∀(l:List Int),(∀n∈l,in64 n)->RL F (l.map fun n=>Value.int .i64 n) l
 | [],_=>rfl
 |n::l,h=>⟨[.int .i64 n],l.map fun n=>Value.int .i64 n,V,⟨V,h n (by simp)⟩,RL_ints l fun m E=>h m (by simp[E])⟩
theorem em_ints{base:Nat}{t e:TypeId}{v:Value}{d:DataW c_}{ps:List MemPlace}(h:Em w μ H)(ht:P.underlying t=some (.slice e))(he:P.underlying e=some (.int .i64))(hc:P.cellsOf e=1)(ai:Value.okWide P w .any base t v)
  (hd:DataW.Trod enc P w 0 (fun _=>true) true t v d ps):
  ∃μ' H' a k,∃l:List Int,Em w μ' H'/\EmLe μ H μ' H'/\VRel μ' (.slice a l.length k) v/\SR H'.get (.slice a l.length k) l/\(l.length<=maxLen)/\(∃aw,d= .slice (Go.ChangeShapes.lits .i64 l) aw\/d= .nil/\l=[]):=by
 obtain⟨a,len,U,rfl⟩:=okWide_slice ht ai
 obtain⟨fuel,hf⟩:=hd
 rcases Go.ChangeShapes.open_ints ht he hc hf with⟨Z,T⟩|⟨a',len',a3,E,Z,_,aA,bb,ar,T,an,a2⟩
 ·simp[Value.cells]at Z;obtain⟨rfl,rfl,rfl⟩:=Z;simp only[a04]at T;exact⟨μ,H,none,0,[],h,.refl _ _,.atom _ V,.nil,a0D _,[],.inr ⟨T.1,V⟩⟩
 simp[Value.cells]at Z
 obtain⟨rfl,rfl,rfl⟩:=Z
 have a0:a'.spot=none/\a'.block<w.heap.size:=by
  have ag:Cell.ok P w .any base t (.slice (some a') len U):=by have:=ai;unfold Value.okWide at this;rw[ht]at this;simp only at this;unfold Cell.okWide at this;rw[ht]at this;exact this
  unfold Cell.ok at ag;rw[ht]at ag;obtain⟨_,_,_,a1,bk,cells,hs,_⟩:=ag;refine⟨a1,?_⟩;unfold World.shape? at hs;split at hs
  ·rename_i ay;exact(a0K.1 ay).1
  cases hs
 obtain⟨c,off,sp⟩:=a'
 obtain⟨rfl,ax⟩:=a0
 simp only[if_true]at ar
 have aq: ∀n∈E.take len,in64 n:=fun n hn=>wf_in64 (a2 n (a1k hn))
 have hl:(E.take len).length=len:=by rw[a0p];omega
 have hA:=h.add (c:=c) (sh:=off) (cs:=(E.take len).map fun n=>Value.int .i64 n) ax (fun i v hv=>by
  rw[a14]at hv;cases N:(E.take len)[i]? with
  |none=>rw[N]at hv;cases hv
  |some n=>
   rw[N]at hv
   obtain rfl:=Option.some.inj hv
   have hi:=(a0w.1 N).1
   have ap:=an i (by rw[hl]at hi;omega)
   have hn:E.getD i 0=n:=by
    rw[a0z]at N;split at N
    ·rw[a02,N];rfl
    cases N
   refine⟨_,?_,.atom _ V⟩
   rw[hn]at ap
   rw[←ap]
   congr 1
   unfold Addr.add
   split
   ·rename_i h0;subst h0;rfl
   rfl)
 refine⟨_,_,some ⟨H.next,0,none⟩,U,E.take len,hA,.add h _ _,?_,?_,by rw[hl];omega,E.drop len|>Go.ChangeShapes.lits .i64,.inl ?_⟩
 ·rw[hl];have:=VRel.sliceC (μ:=μ.set H.next ⟨c,off,none,0⟩) H.next 0 len U ⟨c,off,none,0⟩ (Emb.set_same _ _ _) V;simpa using this
 ·refine .inr ⟨H.next,0,U,_,V,Heap.get_push_same _ _,_,none,true,V,fun T=>(by cases T),(by rw[hl];exact aA),?_,.inl V⟩;have e1:((E.take len).map fun n=>Value.int .i64 n).length=(E.take len).length *Rp.sz Int:=by rw[a1u];show _=_ *1;omega
  rw[a1j,←e1,a0T];exact RL_ints _ aq
 simp only[a04]at T
 exact T.1
end
section
variable {c_:Type} {enc:TypeId×Value->c_} {P:Program}
theorem iX{w w':World}{base:Nat}{E:Nat->Bool}{held:Bool}: ∀{T:List TypeId} {U:List Value} {ds:List (DataW c_)} {ps:List MemPlace},DataW.TrodAll enc P w base E held T U ds ps->(∀p∈ps,w.sameAt w' p)->DataW.TrodAll enc P w' base E held T U ds ps
 | [],[],[],_,h,_=>h
 |_::_,_::_,_::_,_,⟨p,q,⟨n,h1⟩,h2,e⟩,hs=>⟨p,q,⟨n,DataW.trod_carry n _ _ _ h1 fun x N=>hs x (by rw[e];exact a1H _ N)⟩,iX h2 fun x N=>hs x (by rw[e];exact a1v _ N),e⟩
theorem post_law{f:Func}{s:ChangeSpec}{T ag U ad:Bool}{W W':World}{args:Array Value}{ds gs:List (DataW c_)}{N:List MemPlace}{tb:TypeId}
  (K:Kids P (· <P.types.size)) (ao: ∀t e,t<P.types.size->P.underlying t=some (.slice e)->0<P.cellsOf e) (ar: ∀t∈f.params.toList,t<P.types.size)
  (hW:DataW.Whole enc P f.params.toList s.vars T W args.toList ds gs N) (aa:s.vars=[]) (E:f.resultTypes= #[tb]) (al:P.underlying tb=some .bool)
  (Z:s.fn c_ (ds++gs)={results:=[.lit (.bool true)],args:=ds}) (hb:Below W.heap.size W W'):s.post enc P f T ag U ad W args (.bool true) W':=by
 have aA: ∀p∈N,p.block<W.heap.size:=fun p hp=>by simpa using hW.lt p hp
 have ax:=hW
 obtain⟨p,q,hA,hV,rfl,a6,a7⟩:=hW
 have hq:q=[]/\gs=[]:=by
  rw[aa]at hV;cases gs with
  |nil=>exact⟨hV,V⟩
  |cons _ _=>exact absurd hV id
 obtain⟨rfl,rfl⟩:=hq
 refine nw (pa:=p) (pv:=[]) ax (fun b sp hd=>?_) (fun sp a0=>?_) (fun sp _=>?_) V hb ?_
 ·rw[Z,E];exact trodAll_cons_mk (shut_bool al true) V
 ·rw[Z];refine DataW.TrodAll.respare K ao ar (iX hA fun x hx=>hb.same (aA x (by simpa using hx))) fun x hx=>a0 x (by simpa using hx)
 ·rw[aa,Z];rfl
 rw[E]
 intro j t r h1 h2
 exact ok_one (f:=f) E V (okWide_bool_mk al true) j t r (by rw[E];exact h1) (by rw[E];exact h2)
end
open Go
section
variable {P:Program} {d:Nat} {t:TypeId}
theorem eqI{k:IntKind}{a b:Int}(E:P.underlying t=some (.int k)):aJ P (Op.equalIn (d+1) t (.int k a) (.int k b))=some (a==b):=by simp[Op.equalIn,underlying,E]
theorem eqB{a b:Bool}(E:P.underlying t=some .bool):aJ P (Op.equalIn (d+1) t (.bool a) (.bool b))=some (a==b):=by simp[Op.equalIn,underlying,E]
structure EqF(P:Program)(d:Nat)(xs ys:Array Value)(f:Field)(b:Bool):Prop where
 named:f.name≠ "_"
 ok: ∃u v,aJ P (part f.type xs f.offset)=some u/\aJ P (part f.type ys f.offset)=some v/\aJ P (Op.equalIn d f.type u v)=some b
inductive EqFs(P:Program)(d:Nat)(xs ys:Array Value):List Field->List Bool->Prop
 |nil:EqFs P d xs ys [] []
 |cons {f b fs bs}:EqF P d xs ys f b->EqFs P d xs ys fs bs->EqFs P d xs ys (f::fs) (b::bs)
def eqLoop(d:Nat)(xs ys:Array Value)(fs:List Field):Sem (Option Bool×Unit):=
 forIn fs ((none:Option Bool),()) fun f (_:Option Bool×Unit)=>
  if f.name≠ "_" then do
   if !(←Op.equalIn d f.type (←part f.type xs f.offset) (←part f.type ys f.offset)) then pure (ForInStep.done (some false,()))
   else pure (ForInStep.yield (none,()))
  else pure (ForInStep.yield (none,()))
theorem eq_loop{xs ys:Array Value}{fs:List Field}{bs:List Bool}(h:EqFs P d xs ys fs bs):
  aJ P (eqLoop d xs ys fs)=some (if bs.all id=true then none else some false,()):=by
 induction h with
 |nil=>simp[eqLoop]
 | @cons f b fs bs hf _ ih=>
  obtain⟨U,u,v,E,N,T⟩:=hf
  unfold eqLoop at ih⊢
  rw[List.forIn_cons,if_pos U]
  simp only[aM,E,N,T,a0q]
  cases b
  ·simp
  simp only[a1M,a0P,if_false,bD,a0q,ih]
  simp
theorem eq_struct{fs:Array Field}{xs ys:Array Value}{bs:List Bool}(E:P.underlying t=some (.struct fs))(hs:P.stoodInHeld t=false)
  (h:EqFs P d xs ys fs.toList bs):aJ P (Op.equalIn (d+1) t (.agg xs) (.agg ys))=some (bs.all id):=by
 simp only[Op.equalIn,underlying,aM,eH,a0q,E,bD,hs,a0P,if_false]
 rw[←Array.forIn_toList]
 have:=eq_loop h
 unfold eqLoop at this
 rw[this]
 cases bs.all id<;>rfl
end
section
variable {P:Program} {ρ:Operand->Value} {d:Option Tmp} {ty:TypeId} {pos:String} {af:Array Edge} {gd:Option (Nat×Bool)} {H:Heap}
theorem noA_cells{cs:List Value}(h:cs.all noA0=true):jT (.agg ⟨cs⟩)=true:=h
theorem ap_agEq{t yt:TypeId}{x y:Operand}{xs ys:List Value}{fs:Array Field}{bs:List Bool}(E:ρ x= .agg ⟨xs⟩)(U:ρ y= .agg ⟨ys⟩)
  (N:xs.all noA0=true) (T:ys.all noA0=true)
  (hu:P.underlying t=some (.struct fs)) (hs:P.stoodInHeld t=false) (hg:P.eqGuardType P.depth t=false)
  (h:EqFs P 9999 ⟨xs⟩ ⟨ys⟩ fs.toList bs):AP P ρ ⟨d,.binOp .eql t x y yt,ty,pos,af,gd⟩ H (.val (.bool (bs.all id)),H):=by
 refine⟨?_⟩
 show aBin P ρ _ .eql t (ρ x) y H=_
 rw[E]
 show bG P ρ _ H=_
 unfold bG
 have h1:((Op.binOp .eql t x y yt).operands.toList.all fun x=>jT (ρ x))=true:=by simp[Op.operands,E,U,noA_cells N,noA_cells T]
 simp only[h1,cond_true]
 have h2:aJ P (execOp ρ ⟨d,.binOp .eql t x y yt,ty,pos,af,gd⟩)=some (.value (Value.bool (bs.all id))):=by
  unfold execOp;simp only[E,U,aM];have Z:aJ P (eqGuard .eql t x y (.agg ⟨xs⟩) (.agg ⟨ys⟩))=some ():=by simp[eqGuard,hg]
  have e2:aJ P (binOp .eql t (.agg ⟨xs⟩) (.agg ⟨ys⟩))=some (Value.bool (bs.all id)):=by show aJ P (Op.equal t (.agg ⟨xs⟩) (.agg ⟨ys⟩)>>=fun b=>(Pure.pure (Value.bool b):Sem Value))=_;rw[aM,show Op.equal t (.agg ⟨xs⟩) (.agg ⟨ys⟩)=Op.equalIn (9999+1) t (.agg ⟨xs⟩) (.agg ⟨ys⟩) from V,eq_struct hu hs h];rfl
  simp only[Z,e2,a0q];rfl
 rw[h2];rfl
end
open Go.RowKit
def tcell(n:Nat):AObj:= .cells [.slice (some ⟨1,0,none⟩) n n] none true
open Classical in
def KT(E ex n:Nat)(cells:List Value):bJ:=fun f args H=>match args with
 | []=>bif (Nat.ble f E&&Nat.beq f ex) then(if H.get 0=some (tcell n)/\H.get 1=some (.cells cells none true) then some (.bool true) else none) else none
 |_=>none
theorem kt_ok{P:Program}{aa ex n fuel:Nat}{cells:List Value}(h:saysTrue (call P 1 noneKnown fuel ex [] (tabHeap n cells))=true)(U:cells.all noA0=true)(ao:cells≠ [])(a5:0<n:=by decide):KnownOK P 1 (KT aa ex n cells):=by
 intro f args H v E;unfold KT at E;split at E
 ·cases hq:(Nat.ble f aa&&Nat.beq f ex) with
  |false=>rw[hq]at E;cases E
  |true=>
   rw[hq]at E
   simp only[cond_true]at E
   split at E
   ·rename_i hT;obtain rfl:=Option.some.inj E;obtain rfl:=a0c (Bool.and_eq_true_iff.1 hq).2;refine⟨V,V,fun μ N w hc hG hw=>?_⟩;obtain rfl:N= #[]:=by cases N;simp_all
    obtain⟨l0,al,hc0,ar⟩:=hG 0 (Nat.zero_lt_succ _);obtain⟨_,_,_,h4⟩:=hw.obj 0 l0 _ al hT.1;obtain⟨v',Z,hr⟩:=h4 0 _ V;obtain⟨T,an,aq⟩:=hr.slice_inv;obtain⟨ap,_,_,h5⟩:=hw.obj 1 T _ an hT.2;have e1:v'= .slice (some ⟨T.c,T.sh+0,none⟩) n n:=by
     rcases aq with⟨_,e⟩|⟨e,o',k',hx,_⟩|⟨hz,_,_⟩
     rotate_right
     ·omega
     ·exact e
     rw[ap]at hx;cases hx
    subst e1;rw[hc0,ar]at Z;refine jR none_ok h U (c:=T.c) (o:=T.sh+0) Z ao fun i v hv=>?_
    obtain⟨a6,h6,h7⟩:=h5 i v hv;rw[h7.eq0 (a0m.1 U v (a0r hv))]at h6;simpa using h6
   cases E
 cases E
theorem Em.tab{w:World}{n c o:Nat}{cells:List Value}(ao:cells.all noA0=true)(aq:cells≠ [])
  (h0:w.cell? ⟨0,0,none⟩=some (.slice (some ⟨c,o,none⟩) n n)) (h1: ∀i v,cells[i]?=some v->w.cell? ⟨c,o+i,none⟩=some v):
  ∃μ,Em w μ (tabHeap n cells)/\GRel μ 1:=by
 have Z: ∀{a:Addr} {v:Value},w.cell? a=some v->a.block<w.heap.size:=by
  intro a v N;unfold World.cell? at N;split at N
  ·rename_i ap;exact(a0K.1 ap).1
  cases N
 let μ:Emb:=fun b=>if b=1 then some ⟨c,o,none,0⟩ else if b=0 then some ⟨0,0,none,0⟩ else none
 have aa: ∀b x,(tabHeap n cells).get b=some x->x.rw=false:=by
  intro b x E;rw[cC]at E;split at E
  ·injection E with E;subst E;rfl
  split at E
  ·injection E with E;subst E;rfl
  cases E
 refine⟨μ,⟨⟨fun b l x U E=>?_,fun b1 b2 l1 l2 o1 o2 _ _ _ h3 _ h5 _=>?_⟩,aa,fun b U=>?_,fun b U=>?_,V⟩,fun g hg=>?_⟩
 ·rw[cC]at E;by_cases e1:b=1
  ·subst e1;rw[if_pos rfl]at E;injection E with E;subst E;have T:l=⟨c,o,none,0⟩:=(Option.some.inj U).symm;subst T;refine⟨V,V,?_,fun i v N=>⟨v,h1 i v N,.atom v (a0m.1 ao v (a0r N))⟩⟩;cases cells with
   |nil=>exact absurd V aq
   |cons v r=>exact Z (h1 0 v V)
  rw[if_neg e1]at E;by_cases e0:b=0
  ·subst e0;rw[if_pos rfl]at E;injection E with E;subst E;have T:l=⟨0,0,none,0⟩:=(Option.some.inj U).symm;subst T;refine⟨V,V,Z h0,fun i v N=>?_⟩;cases i with
   |zero=>
    simp only[a0W,a00]at N;subst N
    exact⟨_,h0,.sliceC 1 0 n n ⟨c,o,none,0⟩ V V⟩
   |succ i=>simp at N
  rw[if_neg e0]at E;cases E
 ·rw[aa b1 o1 h3]at h5;cases h5
 ·have T:2<=b:=U;rw[cC,if_neg M,if_neg M]
 ·have T:2<=b:=U;show(if b=1 then _ else if b=0 then _ else none)=none;rw[if_neg M,if_neg M]
 have:g=0:=M
 subst this
 exact⟨⟨0,0,none,0⟩,V,V,V⟩
theorem walk_of_EmG{P:Program}{G:Nat}{K:bJ}{w:World}{μ:Emb}{H:Heap}(hK:KnownOK P G K)(h:Em w μ H)(Z:GRel μ G){f:FuncId}{args:List Value}{E:Array Value}(ha:LRel μ args E.toList)(hc:C P G K f args H fun v _=>v= .bool true):
  Calls P f E w fun e w'=>e= .returned (.bool true)/\Below w.heap.size w w':=by
 obtain⟨n,v,H',U,rfl⟩:=hc.out
 obtain⟨_,N⟩:=call_ok hK n f args H (.bool true) H' U h.wf
 refine(N μ w E ha Z h.rel (fun b hb _=>h.dom b hb)).mono ?_
 rintro e w' ⟨μ',v',rfl,hr,hp⟩
 rw[hr.eq2 rfl]
 exact⟨V,hp.os,hp.tape,hp.out,hp.grow,fun k hk=>hp.keep k hk fun b l x _ hx T=>by rw[h.ro b x hx]at T;cases T⟩
structure TB(n:Nat)(cells:List Value)(F:Fz):Prop where
 at0:F 0=some (tcell n)
 at1:F 1=some (.cells cells none true)
section
variable {n:Nat} {cells:List Value} {F F':Fz}
theorem TB.mono(h:TB n cells F)(E:Fz.le F F'):TB n cells F':=⟨E _ _ h.at0,E _ _ h.at1⟩
theorem TB.start:TB n cells (tabHeap n cells).get:=⟨by rw[cC,if_neg M,if_pos rfl];rfl,by rw[cC,if_pos rfl]⟩
theorem TB.known{E ex:Nat}{H:Heap}(h:TB n cells H.get)(N:Nat.ble ex E=true):KT E ex n cells ex [] H=some (.bool true):=by show(bif (Nat.ble ex E&&Nat.beq ex ex) then _ else _)=_;rw[N,a15,a17,cond_true,if_pos ⟨h.at0,h.at1⟩]
theorem TB.heap{B:Base}{H:Heap}{L R:List Fp}(h:TB n cells F)(hs:HS B F H L R):TB n cells H.get:=⟨(hs.fz _ _ h.at0).1,(hs.fz _ _ h.at1).1⟩
theorem TB.hc{get:Nat->Option AObj}(h:TB n cells get):HC get 0 0 [.slice (some ⟨1,0,none⟩) n n]:=⟨_,none,true,h.at0,V⟩
theorem TB.sr{α:Type} [Rp α]{l:List α}(h:TB n cells F)(T:l.length=n)(E:RL F cells l):SR F (.slice (some ⟨1,0,none⟩) l.length n) l:=by refine .inr ⟨1,0,n,_,V,h.at1,_,none,true,V,fun U=>(by cases U),Nat.le_of_eq T,?_,.inl V⟩;have N:cells.length=l.length *Rp.sz α:=E.length;rw[a1j,←N,a0T];exact E
end
end Go.R
end
noncomputable section
set_option linter.unusedVariables false
set_option linter.unusedSimpArgs false
namespace Go.R
inductive Hint where
 |p
 |w
 |e (n:Int)
 |o (v:Value)
 |r (q:Nat)
abbrev Ch:=List (Nat×Bool)
def bq:Bool->Bool->Bool
 |true,b=>b
 |false,b=> !b
theorem bq_eq{a b:Bool}(h:bq a b=true):a=b:=by cases a<;>cases b<;>first|rfl|cases h
def gl:List (Nat×Bool)->Nat->Option Bool
 | [],_=>none
 |(s,g)::G,t=>bif Nat.beq s t then some g else gl G t
def act(G:List (Nat×Bool)):Ch->Bool
 | []=>true
 |(s,w)::c=>(match gl G s with|some g=>bq g w|none=>false)&&act G c
def memC(s:Nat)(w:Bool):Ch->Bool
 | []=>false
 |(s',w')::c=>(Nat.beq s' s&&bq w' w)||memC s w c
def subC:Ch->Ch->Bool
 | [],_=>true
 |(s,w)::a,c=>memC s w c&&subC a c
def lk:List (Nat×Ch×Value)->Nat->Option (Ch×Value)
 | [],_=>none
 |(s,x)::m,t=>bif Nat.beq s t then some x else lk m t
structure SS where
 m:List (Nat×Ch×Value)
 G:List (Nat×Bool)
def SS.rd(S:SS)(f:Fn):Operand->Value
 | .tmp t=>match lk S.m t with
  |some x=>x.2
  |none=>f t
 | .const v=>v
 | .global g=> .pointer (some ⟨g,0,none⟩)
 | .func i=> .func (.func i) #[] #[]
def SS.can(S:SS)(c:Ch):Operand->Bool
 | .tmp t=>match lk S.m t with
  |some x=>subC x.1 c
  |none=>true
 |_=>true
def impl(G:List (Nat×Bool)):Ch->Prop->Prop
 | [],p=>p
 |(s,w)::c,p=>match gl G s with
  |some g=>g=w->impl G c p
  |none=>True
def kA(G:List (Nat×Bool))(s:Nat)(g:Bool):List (Nat×Bool):=match gl G s with
 |some _=>G
 |none=>(s,g)::G
def gu:Option Prop->Prop
 |none=>True
 |some p=>p
def andO(q:Option Prop)(p:Prop):Prop:=match q with
 |none=>p
 |some q=>q/\p
def rng(k:IntKind)(n:Int):Prop:=match k with
 | .i64=> -9223372036854775808<=n/\n<9223372036854775808
 | .u64=>0<=n/\n<18446744073709551616
 | .u8=>0<=n/\n<256
 |k=>k.wrap n=n
theorem rng_wrap{k:IntKind}{n:Int}(h:rng k n):k.wrap n=n:=by
 cases k with
 |i64=>exact w_i64 h
 |u64=>exact w_u64 h
 |u8=>exact w_u8 h
 |_=>exact h
def kq:IntKind->IntKind->Bool
 | .i64,.i64=>true
 | .u64,.u64=>true
 | .u8,.u8=>true
 | .i32,.i32=>true
 | .u32,.u32=>true
 |_,_=>false
theorem kq_eq{k E:IntKind}(h:kq k E=true):E=k:=by cases k<;>cases E<;>first|rfl|cases h
abbrev VP:=Option (Value×Option Prop)
def ari(h:Hint)(k:IntKind)(n:Int):VP:=match h with
 | .w=>some (.int k (k.wrap n),none)
 | .e m=>some (.int k m,some (n=m/\rng k m))
 |_=>some (.int k n,some (rng k n))
def bi(h:Hint)(k:IntKind)(n:Int):VP:=match h with
 | .e m=>some (.int k m,some (n=m))
 |_=>some (.int k n,none)
def withP(p:Prop):VP->VP
 |some (v,none)=>some (v,some p)
 |some (v,some q)=>some (v,some (p/\q))
 |none=>none
def pint(h:Hint)(op:BinOp)(k:IntKind)(x y:Int):VP:=match op with
 | .add=>ari h k (x+y)
 | .sub=>ari h k (x-y)
 | .mul=>ari h k (x *y)
 | .quo=>withP (y≠0) (ari h k (x.tdiv y))
 | .rem=>withP (y≠0) (bi h k (x.tmod y))
 | .and=>bi h k (aD .and k x y)
 | .or=>bi h k (aD .or k x y)
 | .xor=>bi h k (aD .xor k x y)
 | .andNot=>bi h k (aD .andNot k x y)
 | .eql=>some (.bool (x==y),none)
 | .neq=>some (.bool (x !=y),none)
 | .lss=>some (.bool (decide (x<y)),none)
 | .leq=>some (.bool (decide (x<=y)),none)
 | .gtr=>some (.bool (decide (y<x)),none)
 | .geq=>some (.bool (decide (y<=x)),none)
 |_=>none
def AGB(P:Program)(op:BinOp)(t:TypeId)(a b v:Value):Prop:= ∀(ρ:Operand->Value) (x y:Operand) (yt:TypeId) (d:Option Tmp) (ty:TypeId) (pos:String) (af:Array Edge) (gd:Option (Nat×Bool)) (H:Heap),ρ x=a->ρ y=b->AP P ρ ⟨d,.binOp op t x y yt,ty,pos,af,gd⟩ H (.val v,H)
def isBT(P:Program)(t:TypeId):Bool:=match P.underlying t with
 |some .bool=> !P.eqGuardType P.depth t
 |_=>false
def pbin(P:Program)(h:Hint)(op:BinOp)(t:TypeId)(a b:Value):VP:=match a,b with
 | .int k x,.int k' y=>match op with
  | .shl=>withP (0<=y) (bi h k (k.wrap (x *2^(Nat.min y.toNat k.bits))))
  | .shr=>withP (0<=y) (bi h k (x.fdiv (2^(Nat.min y.toNat k.bits))))
  |op=>bif kq k k' then pint h op k x y else none
 | .string ⟨⟨x⟩⟩,.string ⟨⟨y⟩⟩=>match op with
  | .eql=>some (.bool (x==y),none)
  | .neq=>some (.bool (x !=y),none)
  | .lss=>some (.bool (Op.bytesLess x y),none)
  | .leq=>some (.bool (Op.bytesLess x y||x==y),none)
  | .add=>some (.string ⟨⟨x++y⟩⟩,some (x.length+y.length<=1099511627776))
  |_=>none
 | .bool x,.bool y=>bif isBT P t then match op with
  | .eql=>some (.bool (x==y),none)
  | .neq=>some (.bool (x !=y),none)
  |_=>none else none
 | .agg x,.agg y=>match h with
  | .o v=>some (v,some (AGB P op t (.agg x) (.agg y) v))
  |_=>none
 | .pointer a,.pointer b=>match nilEq P t (.pointer a) (.pointer b),op with
  |some r,.eql=>some (.bool r,none)
  |some r,.neq=>some (.bool (!r),none)
  |_,_=>none
 | .slice a n k,.slice b n' k'=>match nilEq P t (.slice a n k) (.slice b n' k'),op with
  |some r,.eql=>some (.bool r,none)
  |some r,.neq=>some (.bool (!r),none)
  |_,_=>none
 |_,_=>none
def pun(h:Hint)(op:UnOp)(v:Value):VP:=match op,v with
 | .not,.bool b=>some (.bool (!b),none)
 | .neg,.int k n=>ari h k (0-n)
 | .xor,.int k n=>bi h k (bits .xor k (if k.signed then-1 else k.max) n)
 |_,_=>none
structure FW where
 ld:TypeId->Value->Value->Prop
 cl:FuncId->List Value->Value->Prop
 cv:TypeId->TypeId->Option Addr->Nat->Value->Prop
 sl:TypeId->Value->Option Value->Option Value->Value->Prop
def pconv(P:Program)(W:FW)(h:Hint)(s t:TypeId)(v:Value):VP:=match v with
 | .int _ n=>match P.underlying s,P.underlying t with
  |some _,some (.int k')=>ari h k' n
  |_,_=>none
 | .slice a n k=>match h with
  | .o v=>some (v,some (W.cv s t a n v))
  |_=>none
 |_=>none
def ppick(g:Bool)(a b:Value):Option Value:=match a,b with
 | .bool x,.bool y=>some (.bool (bif g then x else y))
 | .int k x,.int k' y=>bif kq k k' then some (.int k (bif g then x else y)) else none
 | .string x,.string y=>some (.string ⟨⟨bif g then x.data.toList else y.data.toList⟩⟩)
 |_,_=>none
def LDv(P:Program)(H:Heap)(t:TypeId)(a w:Value):Prop:=d9 P t a H=some (.val w,H)
def IX(v:Value)(j:Int):Prop:= ∃b o n k,v= .slice (some ⟨b,o,none⟩) n k/\0<=j/\j<n/\n<=k
def pidx(P:Program)(t:TypeId)(a i:Value):VP:=match a,i with
 | .string ⟨⟨s⟩⟩,.int _ j=>match P.underlying t with
  |some .string=>some (.int .u8 ((s.getD j.toNat 0).toNat:Int),some (0<=j/\j<s.length))
  |_=>none
 | .agg x,w=>match aJ P (Instr.index t (.agg x) w) with
  |some r=>some (r,none)
  |none=>none
 |_,_=>none
def pidxA(P:Program)(t:TypeId)(a i:Value):VP:=match a,i with
 | .slice x n k,.int _ j=>match P.underlying t with
  |some (.slice e)=>match cZ P e with
   |some z=>some (.pointer (some ⟨sB (.slice x n k),sO (.slice x n k)+j.toNat *z,none⟩),some (IX (.slice x n k) j))
   |none=>none
  |_=>none
 | .pointer (some ⟨b,o,none⟩),.int _ j=>match P.underlying t with
  |some (.array n e)=>match cZ P e with
   |some z=>some (.pointer (some ⟨b,o+j.toNat *z,none⟩),some (0<=j/\j<n))
   |none=>none
  |_=>none
 |_,_=>none
def pslice(P:Program)(W:FW)(h:Hint)(t:TypeId)(x:Value)(lo hi:Option Value):VP:=match x with
 | .string ⟨⟨s⟩⟩=>match P.underlying t with
  |some .string=>match lo,hi with
   |none,none=>some (.string ⟨⟨s⟩⟩,none)
   |some (.int _ i),none=>some (.string ⟨⟨s.drop i.toNat⟩⟩,some (0<=i/\i<=s.length))
   |none,some (.int _ j)=>some (.string ⟨⟨s.take j.toNat⟩⟩,some (0<=j/\j<=s.length))
   |some (.int _ i),some (.int _ j)=>some (.string ⟨⟨(s.drop i.toNat).take (j.toNat-i.toNat)⟩⟩,some (0<=i/\i<=j/\j<=s.length))
   |_,_=>none
  |_=>none
 |x=>match h with
  | .o v=>some (v,some (W.sl t x lo hi v))
  |_=>none
def plen(P:Program)(t:TypeId)(x:Value):VP:=match x with
 | .string ⟨⟨s⟩⟩=>match P.underlying t with
  |some .string=>some (.int .i64 (s.length:Int),none)
  |_=>none
 | .slice _ n _=>match P.underlying t with
  |some (.slice _)=>some (.int .i64 (n:Int),none)
  |_=>none
 |_=>none
def pmm(w:Bool)(a b:Value):VP:=match a,b with
 | .int k x,.int _ y=>some (.int k (bif w then(if y<x then y else x) else(if y>x then y else x)),none)
 |_,_=>none
def pcall(P:Program)(W:FW)(h:Hint)(ρ:Operand->Value)(c:Call):VP:=match c.callee with
 | .builtin .len=>match c.argTypes.toList,c.args.toList with
  | [t],[x]=>plen P t (ρ x)
  |_,_=>none
 | .builtin .min=>match c.args.toList with
  | [x,y]=>pmm true (ρ x) (ρ y)
  |_=>none
 | .builtin .max=>match c.args.toList with
  | [x,y]=>pmm false (ρ x) (ρ y)
  |_=>none
 | .value f=>match fS P (ρ f) (dF ρ c.args.toList),h with
  |some (.enter g args),.o v=>some (v,some (W.cl g args v))
  |_,_=>none
 |_=>none
def ppk(a b:Operand)(g:Bool)(x y:Value):Option Value:=match b,x with
 | .const (.bool false),.bool x=>some (.bool (g&&x))
 |_,_=>match a,y with
  | .const (.bool true),.bool y=>some (.bool (g||y))
  |_,_=>ppick g x y
def optV{α:Type}(r:Option α):Option (α×Option Prop):=match r with
 |some v=>some (v,none)
 |none=>none
def W0(P:Program)(G0:Nat)(K:bJ)(H:Heap):FW:=⟨LDv P H,fun g args v=>C P G0 K g args H fun v' H'=>v'=v/\H'=H,fun s t a n v=>eM P s t a n H=some v,fun t x lo hi v=>bt P t x lo hi none H=some v⟩
def WJ(P:Program)(G0:Nat)(K:bJ)(d_:Heap->Prop):FW:=⟨fun t a v=> ∀H,d_ H->LDv P H t a v,fun g args v=> ∀H,d_ H->C P G0 K g args H fun v' H'=>v'=v/\d_ H',fun s t a n v=> ∀H,d_ H->eM P s t a n H=some v,fun t x lo hi v=> ∀H,d_ H->bt P t x lo hi none H=some v⟩
structure FW.OK(P:Program)(G0:Nat)(K:bJ)(d_:Heap->Prop)(W:FW):Prop where
 ld: ∀{t a v},W.ld t a v->∀H,d_ H->LDv P H t a v
 cl: ∀{g args v},W.cl g args v->∀H,d_ H->C P G0 K g args H fun v' H'=>v'=v/\d_ H'
 cv: ∀{s t a n v},W.cv s t a n v->∀H,d_ H->eM P s t a n H=some v
 sl: ∀{t x lo hi v},W.sl t x lo hi v->∀H,d_ H->bt P t x lo hi none H=some v
theorem ok0{P:Program}{G0:Nat}{K:bJ}{H:Heap}:(W0 P G0 K H).OK P G0 K (· =H):=⟨fun h _ e=>e▸h,fun h _ e=>e▸h,fun h _ e=>e▸h,fun h _ e=>e▸h⟩
theorem okJ{P:Program}{G0:Nat}{K:bJ}{d_:Heap->Prop}:(WJ P G0 K d_).OK P G0 K d_:=⟨fun h=>h,fun h=>h,fun h=>h,fun h=>h⟩
def pop(P:Program)(W:FW)(h:Hint)(ρ:Operand->Value)(op:Op):VP:=match op with
 | .move x=>some (ρ x,none)
 | .assign x=>some (ρ x,none)
 | .binOp op t x y _=>pbin P h op t (ρ x) (ρ y)
 | .unOp op _ x=>pun h op (ρ x)
 | .convert s t x=>pconv P W h s t (ρ x)
 | .load t a=>match h with
  | .o v=>some (v,some (W.ld t (ρ a) v))
  |_=>none
 | .index t x i=>pidx P t (ρ x) (ρ i)
 | .indexAddr t x i=>pidxA P t (ρ x) (ρ i)
 | .field t x f=>optV (iw P t (ρ x) f)
 | .fieldAddr s x f=>optV (iW P s (ρ x) f)
 | .extract x i=>optV (gO (ρ x) i)
 | .build t parts=>match cy P t with
  |some _=>match bldL P t (dF (fun p=>(p.1,ρ p.2)) parts.toList) with
   |some cs=>some (.agg ⟨cs⟩,none)
   |none=>optV (aJ P (Instr.build t (parts.map fun p=>(p.1,ρ p.2))))
  |none=>none
 | .slice t x lo hi none=>pslice P W h t (ρ x) (lo.map ρ) (hi.map ρ)
 | .call c=>pcall P W h ρ c
 | .nilCheck x=>match ρ x with
  | .pointer (some a)=>some (.pointer (some a),none)
  | .func (.func f) a c=>some (.func (.func f) a c,none)
  |_=>none
 | .makeFunc fn first cap=>some (.func fn (first.map ρ) (cap.map ρ),none)
 |_=>none
def nO(ops:Array Oper)(f:Fn)(S:SS):Option (Nat×Bool)->Option (Ch×List (Nat×Bool))
 |none=>some ([],S.G)
 |some (j,w)=>match (ops[j]?).bind (·.dst) with
  |some d=>match lk S.m d with
   |some (c,.bool g)=>some ((d,w)::c,kA S.G d g)
   |some _=>none
   |none=>match f d with
    | .bool g=>some ([(d,w)],kA S.G d g)
    |_=>none
  |none=>none
def putS(q:Option Prop)(c:Ch)(G:List (Nat×Bool))(m:List (Nat×Ch×Value))(d:Nat)(v:Value):Option (SS×Option Prop):=
 match gl G d with
 |some _=>none
 |none=>fcL G fun G=>fcL c fun c=>some (⟨(d,c,v)::m,G⟩,match q with
  |none=>none
  |some p=>some (impl G c p))
def fcC{β:Type}(v:Value)(k:Value->β):β:=match v with
 | .int a n=>k (.int a n)
 | .bool b=>k (.bool b)
 | .string ⟨⟨l⟩⟩=>k (.string ⟨⟨l⟩⟩)
 | .pointer a=>k (.pointer a)
 | .slice a n m=>k (.slice a n m)
 |v=>k v
theorem fcC_eq{β:Type}(v:Value)(k:Value->β):fcC v k=k v:=by cases v<;>rfl
def fcM{β:Type}:List Value->(List Value->β)->β
 | [],k=>k []
 |a::l,k=>fcC a fun a=>fcM l fun r=>k (a::r)
theorem fcM_eq{β:Type}: ∀(l:List Value) (k:List Value->β),fcM l k=k l
 | [],_=>rfl
 |a::l,k=>by unfold fcM;rw[fcC_eq,fcM_eq l]
def fcV{β:Type}(v:Value)(k:Value->β):β:=match v with
 | .agg ⟨l⟩=>fcM l fun l=>k (.agg ⟨l⟩)
 |v=>fcC v k
theorem fcV_eq{β:Type}(v:Value)(k:Value->β):fcV v k=k v:=by
 unfold fcV;split
 ·exact fcM_eq _ _
 exact fcC_eq _ _
def fcH{β:Type}(h:Hint)(v:Value)(k:Value->β):β:=match h with
 | .o _=>k v
 |_=>fcV v k
theorem fcH_eq{β:Type}(h:Hint)(v:Value)(k:Value->β):fcH h v k=k v:=by cases h<;>first|rfl|exact fcV_eq _ _
def stepS(P:Program)(G0:Nat)(W:FW)(sz:Nat)(ops:Array Oper)(f:Fn)(S:SS)(h:Hint)(o:Oper):Option (SS×Option Prop):=
 match o.dst with
 |none=>none
 |some d=>
  bif Nat.ble (d+1) sz&&o.op.operands.toList.all (bo G0) then
   match nO ops f S o.guard with
   |none=>none
   |some (c,G1)=>
    match o.op with
    | .pick (.tmp s) a b=>
     match lk S.m s with
     |some (cc,.bool g)=>
      bif subC cc c&&(S.can ((s,true)::c) a&&S.can ((s,false)::c) b) then
       match ppk a b g (S.rd f a) (S.rd f b) with
       |some v=>fcV v fun v=>putS none c (kA G1 s g) S.m d v
       |none=>none
      else none
     |_=>none
    |op=>
     bif op.operands.toList.all (S.can c) then
      match pop P W h (S.rd f) op with
      |some (v,q)=>fcH h v fun v=>putS q c G1 S.m d v
      |none=>none
     else none
  else none
def hintAt:List (Nat×Hint)->Nat->Hint
 | [],_=> .p
 |(i,h)::l,j=>bif Nat.beq i j then h else hintAt l j
def rgL(P:Program)(G0:Nat)(W:FW)(sz:Nat)(ops:Array Oper)(f:Fn)(hs:List (Nat×Hint)):Nat->List Oper->SS->Option (SS×Prop)
 |_,[],S=>some (S,True)
 |i,o::os,S=>match stepS P G0 W sz ops f S (hintAt hs i) o with
  |none=>none
  |some (S1,q)=>match rgL P G0 W sz ops f hs (i+1) os S1 with
   |none=>none
   |some (S2,p)=>some (S2,andO q p)
def fins(m:List (Nat×Ch×Value)):List Nat->Option (List (Nat×Value))
 | []=>some []
 |d::ds=>match lk m d,fins m ds with
  |some ([],v),some l=>some ((d,v)::l)
  |_,_=>none
def gg(P:Program)(G0:Nat)(W:FW)(sz:Nat)(ops:Array Oper)(f:Fn)(i:Nat)(os:List Oper)(hs:List (Nat×Hint))(lo hi:Nat)(ex:List Nat)(E:List Nat):Option (List (Nat×Value)×Prop):=
 match rgL P G0 W sz ops f hs i os ⟨[],[]⟩ with
 |none=>none
 |some (S,p)=>bif S.m.all (fun e=>inR lo hi ex e.1) then
   match fins S.m E with
   |some l=>some (l,p)
   |none=>none
  else none
section
variable {P:Program} {G0:Nat} {K:bJ} {d_:Heap->Prop} {W:FW} {H:Heap} {ρ:Operand->Value} {d:Option Tmp} {ty:TypeId} {pos:String} {af:Array Edge} {gd:Option (Nat×Bool)} {v:Value} {q:Option Prop} {hi:Hint}
theorem mS{k:IntKind}{n:Int}(h:ari hi k n=some (v,q))(E:gu q):v= .int k (k.wrap n):=by
 unfold ari at h;split at h
 ·simp only[a00,a04]at h;exact h.1.symm
 ·simp only[a00,a04]at h;obtain⟨rfl,rfl⟩:=h;obtain⟨rfl,N⟩:=E;rw[rng_wrap N]
 simp only[a00,a04]at h;obtain⟨rfl,rfl⟩:=h;rw[rng_wrap E]
theorem bi_ok{k:IntKind}{n:Int}(h:bi hi k n=some (v,q))(N:gu q):v= .int k n:=by
 unfold bi at h;split at h
 ·simp only[a00,a04]at h;obtain⟨rfl,rfl⟩:=h;have E:n=_:=N;rw[E]
 simp only[a00,a04]at h;exact h.1.symm
theorem jZ{p:Prop}{r:VP}(h:withP p r=some (v,q))(E:gu q):p/\∃N,r=some (v,N)/\gu N:=by
 match r,h with
 |some (v',none),h=>
  simp only[withP,a00,a04]at h
  obtain⟨rfl,rfl⟩:=h
  exact⟨E,none,V,trivial⟩
 |some (v',some p'),h=>
  simp only[withP,a00,a04]at h
  obtain⟨rfl,rfl⟩:=h
  exact⟨E.1,some p',V,E.2⟩
 |none,h=>simp[withP]at h
theorem beq0{b:Int}(E:b≠0):(b==0)=false:=by simpa using E
variable {x y:Operand} {t yt:TypeId}
theorem pint_ok{op:BinOp}{k:IntKind}{a b:Int}(hx:ρ x= .int k a)(hy:ρ y= .int k b)(h:pint hi op k a b=some (v,q))(N:gu q):
  AP P ρ ⟨d,.binOp op t x y yt,ty,pos,af,gd⟩ H (.val v,H):=by
 have E: ∀{v':Value},lm op=false->mA op k a b=some v'->AP P ρ ⟨d,.binOp op t x y yt,ty,pos,af,gd⟩ H (.val v',H):=by intro v' hs hv;exact ap_int hx hy (by rw[hs,ii];exact hv)
 cases op with
 |add=>rw[mS (n:=a+b) h N];exact E V V
 |sub=>rw[mS (n:=a-b) h N];exact E V V
 |mul=>rw[mS (n:=a *b) h N];exact E V V
 |quo=>
  obtain⟨T,q',U,Z⟩:=jZ (p:=b≠0) (r:=ari hi k (a.tdiv b)) h N
  rw[mS U Z]
  exact E V (by show(bif b==0 then none else some (Value.int k (k.wrap (a.tdiv b))))=_;rw[beq0 T];rfl)
 |rem=>
  obtain⟨T,q',U,Z⟩:=jZ (p:=b≠0) (r:=bi hi k (a.tmod b)) h N
  rw[bi_ok U Z]
  exact E V (by show(bif b==0 then none else some (Value.int k (a.tmod b)))=_;rw[beq0 T];rfl)
 |and=>rw[bi_ok (n:=aD .and k a b) h N];exact E V V
 |or=>rw[bi_ok (n:=aD .or k a b) h N];exact E V V
 |xor=>rw[bi_ok (n:=aD .xor k a b) h N];exact E V V
 |andNot=>rw[bi_ok (n:=aD .andNot k a b) h N];exact E V V
 |shl=>cases h
 |shr=>cases h
 |_=>
  simp only[pint,a00,a04]at h
  obtain⟨rfl,_⟩:=h
  exact E V V
theorem bool_run{a b:Bool}(h:isBT P t=true):aJ P (d4 .eql t x y a b)=some (.value (.bool (a==b)))/\aJ P (d4 .neq t x y a b)=some (.value (.bool (a !=b))):=by
 unfold isBT at h;split at h
 ·rename_i U;have Z:P.eqGuardType P.depth t=false:=by simpa using h
  have N:aJ P (eqGuard .eql t x y (.bool a) (.bool b))=some ():=by simp[eqGuard]
  have T:aJ P (eqGuard .neq t x y (.bool a) (.bool b))=some ():=by simp[eqGuard]
  have E:aJ P (Op.equal t (.bool a) (.bool b))=some (a==b):=eqB (d:=9999) U;constructor
  ·unfold d4;simp only[aM,N,a0q];have:aJ P (binOp .eql t (.bool a) (.bool b))=some (Value.bool (a==b)):=by show aJ P (Op.equal t (.bool a) (.bool b)>>=fun b=>(Pure.pure (Value.bool b):Sem Value))=_;rw[aM,E];rfl
   rw[this];rfl
  unfold d4;simp only[aM,T,a0q];have:aJ P (binOp .neq t (.bool a) (.bool b))=some (Value.bool (a !=b)):=by show aJ P (Op.equal t (.bool a) (.bool b)>>=fun b=>(Pure.pure (Value.bool (!b)):Sem Value))=_;rw[aM,E];rfl
  rw[this];rfl
 cases h
theorem pbin_ok{op:BinOp}{a b:Value}(E:ρ x=a)(N:ρ y=b)(h:pbin P hi op t a b=some (v,q))(hq:gu q):
  AP P ρ ⟨d,.binOp op t x y yt,ty,pos,af,gd⟩ H (.val v,H):=by
 have U: ∀(a b:Value) (r:Bool),ρ x=a->ρ y=b->(∃p,a= .pointer p)\/(∃p n k,a= .slice p n k)->nilEq P t a b=some r->(op= .eql->v= .bool r)->(op= .neq->v= .bool (!r))->(op= .eql\/op= .neq)->
   AP P ρ ⟨d,.binOp op t x y yt,ty,pos,af,gd⟩ H (.val v,H):=by
  intro a b r E N ha T h1 h2 h3
  refine⟨?_⟩
  show aBin P ρ _ op t (ρ x) y H=_
  have:aBin P ρ ⟨d,.binOp op t x y yt,ty,pos,af,gd⟩ op t (ρ x) y H=nilBin op (nilEq P t a b) H:=by rw[E];rcases ha with⟨p,rfl⟩|⟨p,n,k,rfl⟩<;>(rw[←N];rfl)
  rw[this,T]
  rcases h3 with rfl|rfl
  ·rw[h1 rfl];rfl
  rw[h2 rfl];rfl
 unfold pbin at h
 split at h
 ·--integers
  split at h
  ·obtain⟨h1,q',h2,h3⟩:=jZ h hq;rw[bi_ok h2 h3];exact ap_shl E N h1
  ·obtain⟨h1,q',h2,h3⟩:=jZ h hq;rw[bi_ok h2 h3];exact ap_shr E N h1
  rename_i k a k' b _ _ _;cases hk:kq k k' with
  |false=>rw[hk]at h;cases h
  |true=>
   rw[hk]at h
   have:=kq_eq hk;subst this
   exact pint_ok E N h hq
 ·split at h<;>simp only[a00,a04,reduceCtorEq]at h
  ·obtain⟨rfl,_⟩:=h;exact ap_eqS E N
  ·obtain⟨rfl,_⟩:=h;exact ap_neS E N
  ·obtain⟨rfl,_⟩:=h;exact ap_ltS E N
  ·obtain⟨rfl,_⟩:=h;exact ap_leS E N
  obtain⟨rfl,rfl⟩:=h;exact ap_addS E N hq
 ·cases Z:isBT P t with
  |false=>rw[Z]at h;cases h
  |true=>
   rw[Z]at h
   simp only[cond_true]at h
   split at h<;>simp only[a00,a04,reduceCtorEq]at h
   ·obtain⟨rfl,_⟩:=h;exact ap_boolEq E N (fun a b=>(bool_run Z).1)
   obtain⟨rfl,_⟩:=h;exact ap_boolNe E N (fun a b=>(bool_run Z).2)
 ·split at h<;>simp only[a00,a04,reduceCtorEq]at h;obtain⟨rfl,rfl⟩:=h;exact hq ρ x y yt d ty pos af gd H E N
 ·split at h<;>simp only[a00,a04,reduceCtorEq]at h
  ·rename_i T;obtain⟨rfl,_⟩:=h;exact U _ _ _ E N (.inl ⟨_,V⟩) T (fun _=>rfl) (fun e=>by cases e) (.inl V)
  rename_i T;obtain⟨rfl,_⟩:=h;exact U _ _ _ E N (.inl ⟨_,V⟩) T (fun e=>by cases e) (fun _=>rfl) (.inr V)
 ·split at h<;>simp only[a00,a04,reduceCtorEq]at h
  ·rename_i T;obtain⟨rfl,_⟩:=h;exact U _ _ _ E N (.inr ⟨_,_,_,V⟩) T (fun _=>rfl) (fun e=>by cases e) (.inl V)
  rename_i T;obtain⟨rfl,_⟩:=h;exact U _ _ _ E N (.inr ⟨_,_,_,V⟩) T (fun e=>by cases e) (fun _=>rfl) (.inr V)
 cases h
theorem pun_ok{op:UnOp}{a:Value}(E:ρ x=a)(h:pun hi op a=some (v,q))(N:gu q):AP P ρ ⟨d,.unOp op t x,ty,pos,af,gd⟩ H (.val v,H):=by
 unfold pun at h;split at h
 ·simp only[a00,a04]at h;obtain⟨rfl,_⟩:=h;exact ap_not E
 ·rw[mS h N];exact ap_neg E
 ·rw[bi_ok h N];exact ap_cpl E
 cases h
theorem pconv_ok(hW:W.OK P G0 K d_)(hH:d_ H){s:TypeId}{a:Value}(T:ρ x=a)(h:pconv P W hi s t a=some (v,q))(E:gu q):AP P ρ ⟨d,.convert s t x,ty,pos,af,gd⟩ H (.val v,H):=by
 unfold pconv at h;split at h
 ·split at h
  ·rename_i U Z;rw[mS h E];exact ap_conv T U Z
  cases h
 ·split at h
  ·simp only[a00,a04]at h;obtain⟨rfl,rfl⟩:=h;refine⟨?_⟩;show fQ P ρ _ s t (ρ x) H=_;rw[T];show ovl (eM P s t _ _ H) H=_;have N:eM P s t _ _ H=_:=hW.cv E H hH;rw[N];rfl
  cases h
 cases h
theorem ppick_ok{g:Bool}{a b v:Value}(h:ppick g a b=some v):v=bif g then a else b:=by
 unfold ppick at h;split at h
 ·simp only[a00]at h;subst h;cases g<;>rfl
 ·rename_i k x N y;cases E:kq k N with
  |false=>rw[E]at h;cases h
  |true=>
   rw[E]at h
   have:=kq_eq E;subst this
   simp only[cond_true,a00]at h;subst h;cases g<;>rfl
 ·simp only[a00]at h;subst h;cases g<;>rfl
 cases h
theorem ppk_ok{g:Bool}{a b:Operand}{v:Value}{r:Operand->Value}(hc: ∀w,r (.const w)=w)(h:ppk a b g (r a) (r b)=some v):v=bif g then r a else r b:=by
 unfold ppk at h;split at h
 ·rename_i x e;simp only[a00]at h;subst h;rw[hc,e];cases g<;>rfl
 split at h
 ·rename_i y e _;simp only[a00]at h;subst h;rw[hc,e];cases g<;>rfl
 exact ppick_ok h
theorem pidx_ok{i:Operand}{a b:Value}(T:ρ x=a)(E:ρ i=b)(h:pidx P t a b=some (v,q))(U:gu q):AP P ρ ⟨d,.index t x i,ty,pos,af,gd⟩ H (.val v,H):=by
 unfold pidx at h;split at h
 ·rename_i s _ j;split at h
  ·rename_i N;simp only[a00,a04]at h;obtain⟨rfl,rfl⟩:=h;obtain⟨Z,q2⟩:=U;have q3:j<(s.length:Int):=q2;exact ap_idxS (s:=s) T E N Z (bg M)
  cases h
 ·split at h
  ·rename_i N;simp only[a00,a04]at h;obtain⟨rfl,rfl⟩:=h;exact ap_ixG T E N
  cases h
 cases h
theorem pidxA_ok{i:Operand}{a b:Value}(hx:ρ x=a)(E:ρ i=b)(h:pidxA P t a b=some (v,q))(Z:gu q):AP P ρ ⟨d,.indexAddr t x i,ty,pos,af,gd⟩ H (.val v,H):=by
 unfold pidxA at h;split at h
 ·split at h
  ·rename_i N;split at h
   ·rename_i T;simp only[a00,a04]at h;obtain⟨rfl,rfl⟩:=h;obtain⟨b,o,n,k,e,U,q2,q3⟩:=Z;cases e
    exact jN hx E N T U q2 q3
   cases h
  cases h
 ·split at h
  ·rename_i N;split at h
   ·rename_i T;simp only[a00,a04]at h;obtain⟨rfl,rfl⟩:=h;obtain⟨U,q2⟩:=Z;refine⟨?_⟩;rename_i kk j n e z _;obtain⟨m,rfl⟩:=a1c U;show ovl (di P t (ρ x) (ρ i)) H=_;rw[hx,E];unfold di;rw[N];have h3:Nat.ble (m+1) n=true:=a0x M;show ovl (match cZ P e with|some sz=>bif Nat.ble (m+1) n then some (.pointer (some ⟨_,_+m *sz,none⟩)) else none|none=>none) H=_;rw[T];simp only[h3,cond_true];rfl
   cases h
  cases h
 cases h
theorem sl_str{lo hi:Option Operand}{s:ByteArray}{i j:Nat}(hx:ρ x= .string s)(Z:P.underlying t=some .string)(N:cd s.data.toList.length (hi.map ρ)=some j)(T:cd 0 (lo.map ρ)=some i)(E:i<=j)(U:j<=s.data.toList.length):
  AP P ρ ⟨d,.slice t x lo hi none,ty,pos,af,gd⟩ H (.val (.string ⟨⟨(s.data.toList.drop i).take (j-i)⟩⟩),H):=by
 obtain⟨⟨s⟩⟩:=s
 exact ap_slS hx Z N T E U
theorem pslice_ok(hW:W.OK P G0 K d_)(hH:d_ H){lo E:Option Operand}{a:Value}(U:ρ x=a)(h:pslice P W hi t a (lo.map ρ) (E.map ρ)=some (v,q))(hq:gu q):AP P ρ ⟨d,.slice t x lo E none,ty,pos,af,gd⟩ H (.val v,H):=by
 unfold pslice at h;split at h
 ·rename_i s;split at h
  ·rename_i h1;split at h
   ·rename_i N T;simp only[a00,a04]at h;obtain⟨rfl,rfl⟩:=h;have:=sl_str (d:=d) (ty:=ty) (pos:=pos) (af:=af) (gd:=gd) (H:=H) (lo:=lo) (hi:=E) (i:=0) (s:=⟨⟨s⟩⟩) (j:=s.length) U h1 (by rw[T];rfl) (by rw[N];rfl) (a0D _) (a0d _);rw[a1j,Nat.sub_zero,a0T]at this;exact this
   ·rename_i k i N T;simp only[a00,a04]at h;obtain⟨rfl,rfl⟩:=h;obtain⟨Z,q2⟩:=hq;have:=sl_str (d:=d) (ty:=ty) (pos:=pos) (af:=af) (gd:=gd) (H:=H) (lo:=lo) (hi:=E) (i:=i.toNat) (s:=⟨⟨s⟩⟩) (j:=s.length) U h1 (by rw[T];rfl) (by rw[N];exact optN Z) M (a0d _);rw[a0i (by rw[a0H];exact a0d _)]at this;exact this
   ·rename_i k j N T;simp only[a00,a04]at h;obtain⟨rfl,rfl⟩:=h;obtain⟨Z,q2⟩:=hq;have:=sl_str (d:=d) (ty:=ty) (pos:=pos) (af:=af) (gd:=gd) (H:=H) (lo:=lo) (hi:=E) (i:=0) (j:=j.toNat) (s:=⟨⟨s⟩⟩) U h1 (by rw[T];exact optN Z) (by rw[N];rfl) (a0D _) (show j.toNat<=s.length by omega);simpa using this
   ·rename_i k i k' j N T;simp only[a00,a04]at h;obtain⟨rfl,rfl⟩:=h;obtain⟨Z,q2,q3⟩:=hq;exact sl_str (s:=⟨⟨s⟩⟩) (lo:=lo) (hi:=E) (i:=i.toNat) (j:=j.toNat) U h1 (by rw[T];exact optN M) (by rw[N];exact optN Z) M (show j.toNat<=s.length by omega)
   cases h
  cases h
 split at h
 ·simp only[a00,a04]at h;obtain⟨rfl,rfl⟩:=h;refine⟨?_⟩;show ovl (bt P t (ρ x) (lo.map ρ) (E.map ρ) (Option.map ρ none) H) H=_;have ag:bt P t _ (lo.map ρ) (E.map ρ) none H=_:=hW.sl hq H hH;rw[U,a27,ag];rfl
 cases h
theorem plen_ok{a:Value}(N:ρ x=a)(h:plen P t a=some (v,q)):AP P ρ ⟨d,.call ⟨.builtin .len, #[x], #[t]⟩,ty,pos,af,gd⟩ H (.val v,H):=by
 unfold plen at h;split at h
 ·rename_i s;split at h
  ·rename_i E;simp only[a00,a04]at h;obtain⟨rfl,rfl⟩:=h;exact ap_lenS (s:=s) N E
  cases h
 ·split at h
  ·rename_i E;simp only[a00,a04]at h;obtain⟨rfl,rfl⟩:=h;refine⟨?_⟩;show ovl (aLen P t (ρ x) H) H=_;rw[N];unfold aLen;rw[E];rfl
  cases h
 cases h
inductive PRes(P:Program)(G0:Nat)(K:bJ)(d_:Heap->Prop)(ρ:Operand->Value)(o:Oper)(H:Heap)(v:Value):Prop where
 |val (h:AP P ρ o H (.val v,H))
 |call (g:FuncId) (args:List Value) (h:AP P ρ o H (.enter g args,H)) (hk:gp o.op=true) (hc:C P G0 K g args H fun v' H'=>v'=v/\d_ H')
theorem mr{ρ ρ':Operand->Value}: ∀{l:List Operand},(∀x,x∈l->ρ x=ρ' x)->dF ρ l=dF ρ' l
 | [],_=>rfl
 |x::l,h=>by show ρ x::dF ρ l=ρ' x::dF ρ' l;rw[h x (by simp),mr fun y E=>h y (by simp[E])]
theorem pmm_ok{w:Bool}{y:Operand}{E:Array TypeId}{a b:Value}(N:ρ x=a)(T:ρ y=b)(h:pmm w a b=some (v,q)):AP P ρ ⟨d,.call ⟨.builtin (bif w then .min else .max), #[x,y],E⟩,ty,pos,af,gd⟩ H (.val v,H):=by
 unfold pmm at h;split at h
 ·rename_i k n k' m;simp only[a00,a04]at h;obtain⟨rfl,rfl⟩:=h;have h1:([ρ x,ρ y].all fun z=>jT z)=true:=by simp[N,T,jT,noA0]
  cases w with
  |true=>
   refine⟨?_⟩
   show bG P ρ ⟨d,.call ⟨.builtin .min, #[x,y],E⟩,ty,pos,af,gd⟩ H=_
   unfold bG
   have Z:((Op.call ⟨.builtin .min, #[x,y],E⟩).operands.toList.all fun x=>jT (ρ x))=true:=by simp[Op.operands,Call.operands,N,T,jT,noA0]
   simp only[Z,cond_true]
   have U:aJ P (execOp ρ ⟨d,.call ⟨.builtin .min, #[x,y],E⟩,ty,pos,af,gd⟩)=some (.value (.int k (if m<n then m else n))):=by unfold execOp;simp[resolve,invoke,builtin,Builtin.min_,Builtin.min2,N,T]
   rw[U];rfl
  |false=>
   refine⟨?_⟩
   show bG P ρ ⟨d,.call ⟨.builtin .max, #[x,y],E⟩,ty,pos,af,gd⟩ H=_
   unfold bG
   have Z:((Op.call ⟨.builtin .max, #[x,y],E⟩).operands.toList.all fun x=>jT (ρ x))=true:=by simp[Op.operands,Call.operands,N,T,jT,noA0]
   simp only[Z,cond_true]
   have U:aJ P (execOp ρ ⟨d,.call ⟨.builtin .max, #[x,y],E⟩,ty,pos,af,gd⟩)=some (.value (.int k (if m>n then m else n))):=by unfold execOp;simp[resolve,invoke,builtin,Builtin.max_,Builtin.max2,N,T]
   rw[U];rfl
 cases h
theorem pcall_ok(hW:W.OK P G0 K d_)(hH:d_ H){ρ ρ':Operand->Value}{c:Call}(E: ∀x,x∈(Op.call c).operands.toList->ρ x=ρ' x)(h:pcall P W hi ρ' c=some (v,q))(hq:gu q):
  PRes P G0 K d_ ρ ⟨d,.call c,ty,pos,af,gd⟩ H v:=by
 obtain⟨T,args,N⟩:=c
 cases T with
 |builtin b=>
  cases b with
  |len=>
   obtain⟨N⟩:=N
   obtain⟨args⟩:=args
   simp only[pcall]at h
   split at h
   ·exact .val (plen_ok (E _ (by simp[Op.operands,Call.operands])) h)
   cases h
  |min=>
   obtain⟨args⟩:=args
   simp only[pcall]at h
   split at h
   ·exact .val (pmm_ok (w:=true) (E _ (by simp[Op.operands,Call.operands])) (E _ (by simp[Op.operands,Call.operands])) h)
   cases h
  |max=>
   obtain⟨args⟩:=args
   simp only[pcall]at h
   split at h
   ·exact .val (pmm_ok (w:=false) (E _ (by simp[Op.operands,Call.operands])) (E _ (by simp[Op.operands,Call.operands])) h)
   cases h
  |_=>cases h
 |value f=>
  simp only[pcall]at h
  split at h
  ·rename_i Z;simp only[a00,a04]at h;obtain⟨rfl,rfl⟩:=h;refine .call _ _ ⟨?_⟩ V (hW.cl hq H hH);show fF (fS P (ρ f) (dF ρ args.toList)) H=_;rw[E f (by simp[Op.operands,Call.operands]),mr (ρ':=ρ') (fun x U=>E x (by simp[Op.operands,Call.operands]at U⊢;exact .inr U)),Z];rfl
  cases h
 |invoke r m=>cases h
theorem pop_ok(hW:W.OK P G0 K d_)(Z:d_ H){ρ ρ':Operand->Value}{op:Op}(E: ∀x,x∈op.operands.toList->ρ x=ρ' x)(h:pop P W hi ρ' op=some (v,q))(U:gu q):
  PRes P G0 K d_ ρ ⟨d,op,ty,pos,af,gd⟩ H v:=by
 cases op with
 |move x=>
  simp only[pop,a00,a04]at h;obtain⟨rfl,rfl⟩:=h
  exact .val (ap_move (E x (by simp[Op.operands])))
 |assign x=>
  simp only[pop,a00,a04]at h;obtain⟨rfl,rfl⟩:=h
  exact .val (lG (E x (by simp[Op.operands])))
 |binOp op t x y yt=>exact .val (pbin_ok (E x (by simp[Op.operands])) (E y (by simp[Op.operands])) h U)
 |unOp op t x=>exact .val (pun_ok (E x (by simp[Op.operands])) h U)
 |convert s t x=>exact .val (pconv_ok hW Z (E x (by simp[Op.operands])) h U)
 |load t a=>
  simp only[pop]at h
  split at h
  ·simp only[a00,a04]at h;obtain⟨rfl,rfl⟩:=h;refine .val ⟨?_⟩;show d9 P t (ρ a) H=_;rw[E a (by simp[Op.operands])];exact hW.ld U H Z
  cases h
 |lookup t m x ok=>simp only[pop]at h;cases h
 |index t x i=>exact .val (pidx_ok (E x (by simp[Op.operands])) (E i (by simp[Op.operands])) h U)
 |indexAddr t x i=>exact .val (pidxA_ok (E x (by simp[Op.operands])) (E i (by simp[Op.operands])) h U)
 |field t x f=>
  simp only[pop,optV]at h
  split at h
  ·rename_i N;simp only[a00,a04]at h;obtain⟨rfl,rfl⟩:=h;exact .val (ap_fv (E x (by simp[Op.operands])) N)
  cases h
 |fieldAddr s x f=>
  simp only[pop,optV]at h
  split at h
  ·rename_i N;simp only[a00,a04]at h;obtain⟨rfl,rfl⟩:=h;refine .val ⟨?_⟩;show ovl (iW P s (ρ x) f) H=_;rw[E x (by simp[Op.operands]),N];rfl
  cases h
 |extract x i=>
  simp only[pop,optV]at h
  split at h
  ·rename_i N;simp only[a00,a04]at h;obtain⟨rfl,rfl⟩:=h;exact .val (ap_ex (E x (by simp[Op.operands])) N)
  cases h
 |build t parts=>
  have ad:parts.map (fun p=>(p.1,ρ p.2))=parts.map (fun p=>(p.1,ρ' p.2)):=by apply a2l;intro p hp;rw[E p.2 (by simp only[Op.operands,a0u];exact⟨p,by simpa using hp,V⟩)]
  simp only[pop,optV]at h
  split at h
  ·rename_i z hz;split at h
   ·rename_i cs N;simp only[a00,a04]at h;obtain⟨rfl,rfl⟩:=h;exact .val (ap_bld ad hz (bldL_ok (by rw[je]at N;rw[a2g];exact N)))
   split at h
   ·rename_i N;simp only[a00,a04]at h;obtain⟨rfl,rfl⟩:=h;exact .val (ap_bld ad hz N)
   cases h
  cases h
 |slice t x lo hi2 mx=>
  cases mx with
  |some _=>simp only[pop]at h;cases h
  |none=>
   simp only[pop]at h
   have e1:lo.map ρ=lo.map ρ':=by
    cases lo with
    |none=>rfl
    |some o=>simp only[a2s];rw[E o (by simp[Op.operands])]
   have e2:hi2.map ρ=hi2.map ρ':=by
    cases hi2 with
    |none=>rfl
    |some o=>simp only[a2s];rw[E o (by simp[Op.operands])]
   rw[←e1,←e2]at h
   exact .val (pslice_ok hW Z (E x (by simp[Op.operands])) h U)
 |call c=>exact pcall_ok hW Z E h U
 |nilCheck x=>
  simp only[pop]at h
  have T:=E x (by simp[Op.operands])
  split at h
  ·rename_i a ha;simp only[a00,a04]at h;obtain⟨rfl,rfl⟩:=h;refine .val ⟨?_⟩;show opNil (ρ x) H=_;rw[T,ha];rfl
  ·rename_i f a c ha;simp only[a00,a04]at h;obtain⟨rfl,rfl⟩:=h;refine .val ⟨?_⟩;show opNil (ρ x) H=_;rw[T,ha];rfl
  cases h
 |makeFunc fn first cap=>
  simp only[pop,a00,a04]at h;obtain⟨rfl,rfl⟩:=h
  refine .val ⟨?_⟩
  show some (AN.val (.func fn (first.map ρ) (cap.map ρ)),H)=_
  have e1:first.map ρ=first.map ρ':=a2l fun x T=>E x (by simp[Op.operands]at T⊢;first|exact .inl T|exact .inr T)
  have e2:cap.map ρ=cap.map ρ':=a2l fun x T=>E x (by simp[Op.operands]at T⊢;first|exact .inl T|exact .inr T)
  rw[e1,e2]
 |_=>cases h
end
structure SS.Rel(S:SS)(f fr:Fn):Prop where
 sl: ∀t c v,lk S.m t=some (c,v)->fr t=(bif act S.G c then v else undef)
 no: ∀t,lk S.m t=none->fr t=f t
 gs: ∀s g,gl S.G s=some g->(∃c,lk S.m s=some (c,.bool g))\/(lk S.m s=none/\f s= .bool g)
 ks: ∀t c v,lk S.m t=some (c,v)->∀s w,(s,w)∈c->∃g,gl S.G s=some g
theorem gl_add{G:List (Nat×Bool)}{d s:Nat}{g r:Bool}(h:gl G s=some r):gl (kA G d g) s=some r:=by
 unfold kA;split
 ·exact h
 rename_i N;show(bif Nat.beq d s then some g else gl G s)=_;cases E:Nat.beq d s with
 |true=>have:=a0c E;subst this;rw[N]at h;cases h
 |false=>exact h
theorem ln{G:List (Nat×Bool)}{d:Nat}{g:Bool}(h: ∀r,gl G d=some r->r=g):gl (kA G d g) d=some g:=by
 unfold kA;split
 ·rename_i r E;rw[E,h r E]
 show(bif Nat.beq d d then some g else gl G d)=_;rw[a15];rfl
theorem gl_add_inv{G:List (Nat×Bool)}{d s:Nat}{g r:Bool}(h:gl (kA G d g) s=some r):gl G s=some r\/(s=d/\r=g):=by
 unfold kA at h;split at h
 ·exact .inl h
 have E:(bif Nat.beq d s then some g else gl G s)=some r:=h;cases N:Nat.beq d s with
 |true=>rw[N]at E;exact .inr ⟨(a0c N).symm,(Option.some.inj E).symm⟩
 |false=>rw[N]at E;exact .inl E
theorem og{G:List (Nat×Bool)}{d:Nat}{g:Bool}: ∀{c:Ch},(∀s w,(s,w)∈c->∃r,gl G s=some r)->act (kA G d g) c=act G c
 | [],_=>rfl
 |(s,w)::c,h=>by
  obtain⟨r,E⟩:=h s w (by simp);show((match gl (kA G d g) s with|some g=>bq g w|none=>false)&&act (kA G d g) c)=((match gl G s with|some g=>bq g w|none=>false)&&act G c)
  rw[gl_add E,E,og fun s w N=>h s w (by simp[N])]
theorem act_mem{G:List (Nat×Bool)}: ∀{c:Ch} {s:Nat} {w:Bool},act G c=true->memC s w c=true->gl G s=some w
 |(s',w')::c,s,w,h,E=>by
  simp only[act,a09]at h;simp only[memC,a0A,a09]at E;rcases E with⟨Z,h2⟩|E
  ·have T:=a0c Z;have U:=bq_eq h2;subst T U;have N:=h.1;split at N
   ·rename_i g hg;rw[hg,bq_eq N]
   cases N
  exact act_mem h.2 E
 | [],s,w,_,E=>by cases E
theorem act_sub{G:List (Nat×Bool)}: ∀{a c:Ch},act G c=true->subC a c=true->act G a=true
 | [],_,_,_=>rfl
 |(s,w)::a,c,h,hs=>by simp only[subC,a09]at hs;have E:=act_mem h hs.1;simp only[act,E,act_sub h hs.2,a17];cases w<;>rfl
theorem impl_act{G:List (Nat×Bool)}{p:Prop}: ∀{c:Ch},act G c=true->impl G c p->p
 | [],_,h=>h
 |(s,w)::c,ha,h=>by
  simp only[act,a09]at ha;obtain⟨E,N⟩:=ha;unfold impl at h;split at E
  ·rename_i g T;rw[T]at h;exact impl_act N (h (bq_eq E))
  cases E
section
variable {P:Program} {G0:Nat} {K:bJ} {d_:Heap->Prop} {W:FW} {sz:Nat} {Q:Ex->Fn->Heap->Prop} {ops:Array Oper} {os:List Oper} {k:List Fr} {f fr:Fn} {H:Heap} {S S':SS}
theorem SS.Rel.add(h:S.Rel f fr){d:Nat}{g:Bool}(T:(∃c,lk S.m d=some (c,.bool g))\/(lk S.m d=none/\f d= .bool g)):SS.Rel ⟨S.m,kA S.G d g⟩ f fr:=by
 refine⟨fun t c v E=>?_,h.no,fun s r N=>?_,fun t c v E s w U=>?_⟩
 ·rw[h.sl t c v E];show _=bif act (kA S.G d g) c then v else undef
  rw[og (h.ks t c v E)]
 ·rcases gl_add_inv N with h1|⟨rfl,rfl⟩
  ·exact h.gs s r h1
  exact T
 obtain⟨r,N⟩:=h.ks t c v E s w U;exact⟨r,gl_add N⟩
theorem SS.Rel.same(h:S.Rel f fr){d:Nat}{g:Bool}(Z:(∃c,lk S.m d=some (c,.bool g))\/(lk S.m d=none/\f d= .bool g)): ∀r,gl S.G d=some r->r=g:=by
 intro r hr;rcases h.gs d r hr with⟨c,N⟩|⟨N,U⟩<;>rcases Z with⟨c',E⟩|⟨E,T⟩
 ·rw[N]at E;simp only[a00,a04,Value.bool.injEq]at E;exact E.2
 ·rw[N]at E;cases E
 ·rw[N]at E;cases E
 rw[U]at T;simpa using T
structure GOK(ops:Array Oper)(f fr:Fn)(S:SS)(g:Option (Nat×Bool))(c:Ch)(G1:List (Nat×Bool)):Prop where
 rel:SS.Rel ⟨S.m,G1⟩ f fr
 ks: ∀s w,(s,w)∈c->∃g,gl G1 s=some g
 on:act G1 c=true->match g with
  |none=>True
  |some (j,w)=>cO ops fr j=some w
 off:act G1 c=false->match g with
  |none=>False
  |some (j,w)=>cO ops fr j=none\/cO ops fr j=some (!w)
theorem fJ(hr:S.Rel f fr){g:Option (Nat×Bool)}{c:Ch}{G1:List (Nat×Bool)}(h:nO ops f S g=some (c,G1)):GOK ops f fr S g c G1:=by
 unfold nO at h;split at h
 ·simp only[a00,a04]at h;obtain⟨rfl,rfl⟩:=h;exact⟨hr,fun s w T=>by simp at T,fun _=>trivial,fun h=>by cases h⟩
 rename_i j w;split at h
 ·rename_i d hd;have al: ∀(E:Ch) (γ:Bool),((∃c,lk S.m d=some (c,.bool γ))\/(lk S.m d=none/\f d= .bool γ))->(∀s w,(s,w)∈E->∃g,gl S.G s=some g)->(fr d=bif act S.G E then .bool γ else undef)->GOK ops f fr S (some (j,w)) ((d,w)::E) (kA S.G d γ):=by
   intro E γ ag ai N;have hG:=ln (G:=S.G) (d:=d) (g:=γ) (hr.same ag);have ha:act (kA S.G d γ) ((d,w)::E)=(bq γ w&&act S.G E):=by show((match gl (kA S.G d γ) d with|some g=>bq g w|none=>false)&&act (kA S.G d γ) E)=_;rw[hG,og ai]
   have hy: ∀v,fr d=v->cO ops fr j=match v with| .bool b=>some b|_=>none:=by intro v hv;unfold cO;rw[hd];show(match fr d with| .bool b=>some b|_=>none)=_;rw[hv]
   refine⟨hr.add ag,fun s w' T=>?_,fun ad=>?_,fun U=>?_⟩
   ·rcases a0v.1 T with e|T
    ·injection e with e1 e2;subst e1;exact⟨γ,hG⟩
    obtain⟨r,av⟩:=ai s w' T;exact⟨r,gl_add av⟩
   ·rw[ha,a09]at ad;rw[ad.2]at N;show cO ops fr j=some w;rw[hy _ N,bq_eq ad.1];rfl
   rw[ha]at U;show cO ops fr j=none\/cO ops fr j=some (!w);cases hc:act S.G E with
   |false=>rw[hc]at N;left;rw[hy _ N];rfl
   |true=>
    rw[hc]at N U
    right
    rw[hy _ N]
    cases γ<;>cases w<;>first|rfl|cases U
  split at h
  ·rename_i E γ Z;simp only[a00,a04]at h;obtain⟨rfl,rfl⟩:=h;exact al E γ (.inl ⟨_,Z⟩) (hr.ks d E _ Z) (hr.sl d E _ Z)
  ·cases h
  rename_i Z;split at h
  ·rename_i γ hf;simp only[a00,a04]at h;obtain⟨rfl,rfl⟩:=h;exact al [] γ (.inr ⟨Z,hf⟩) (fun s w T=>by simp at T) (by rw[hr.no d Z,hf];rfl)
  cases h
 cases h
theorem kP{m:List (Nat×Ch×Value)}{G:List (Nat×Bool)}{q q':Option Prop}{c:Ch}{d:Nat}{v:Value}(hr:SS.Rel ⟨m,G⟩ f fr)(hk: ∀s w,(s,w)∈c->∃g,gl G s=some g)(h:putS q c G m d v=some (S',q')):
  SS.Rel S' f (upd fr d (bif act G c then v else undef))/\(gu q'->act G c=true->gu q):=by
 unfold putS at h
 simp only[mE]at h
 split at h
 ·cases h
 rename_i hd
 simp only[a00,a04]at h
 obtain⟨rfl,rfl⟩:=h
 refine⟨⟨fun t T v' U=>?_,fun t U=>?_,fun s g hg=>?_,fun t T v' U s w hm=>?_⟩,fun hq ha=>?_⟩
 ·have E:(bif Nat.beq d t then some (c,v) else lk m t)=some (T,v'):=U;unfold upd;cases N:Nat.beq d t with
  |true=>
   rw[N]at E
   simp only[cond_true,a00,a04]at E
   obtain⟨rfl,rfl⟩:=E
   rfl
  |false=>rw[N]at E;exact hr.sl t T v' E
 ·have E:(bif Nat.beq d t then some (c,v) else lk m t)=none:=U;unfold upd;cases N:Nat.beq d t with
  |true=>rw[N]at E;cases E
  |false=>rw[N]at E;exact hr.no t E
 ·have ai:Nat.beq d s=false:=by
   cases N:Nat.beq d s with
   |false=>rfl
   |true=>have:=a0c N;subst this;rw[hd]at hg;cases hg
  have e:lk ((d,c,v)::m) s=lk m s:=by show(bif Nat.beq d s then some (c,v) else lk m s)=_;rw[ai];rfl
  rcases hr.gs s g hg with⟨c0,Z⟩|Z
  ·exact .inl ⟨c0,e.trans Z⟩
  exact .inr ⟨e.trans Z.1,Z.2⟩
 ·have E:(bif Nat.beq d t then some (c,v) else lk m t)=some (T,v'):=U;cases N:Nat.beq d t with
  |true=>
   rw[N]at E
   simp only[cond_true,a00,a04]at E
   obtain⟨rfl,rfl⟩:=E
   exact hk s w hm
  |false=>rw[N]at E;exact hr.ks t T v' E s w hm
 cases q with
 |none=>trivial
 |some p=>exact impl_act ha hq
theorem rd_ok(T:S.Rel f fr){c:Ch}(Z:act S.G c=true){x:Operand}(hx:S.can c x=true):cJ fr x=S.rd f x:=by
 cases x with
 |tmp t=>
  show fr t=match lk S.m t with|some x=>x.2|none=>f t
  have E:(match lk S.m t with|some x=>subC x.1 c|none=>true)=true:=hx
  cases N:lk S.m t with
  |none=>exact T.no t N
  |some y=>
   obtain⟨U,v⟩:=y
   rw[N]at E
   rw[T.sl t U v N,act_sub Z E];rfl
 |_=>rfl
theorem gG(hW:W.OK P G0 K d_){o:Oper}{q:Option Prop}{hi:Hint}(hr:S.Rel f fr)(h:stepS P G0 W sz ops f S hi o=some (S',q))(hq:gu q):
  ∃d c E v,o.dst=some d/\Nat.ble (d+1) sz=true/\o.op.operands.toList.all (bo G0)=true/\nO ops f S o.guard=some (c,E)/\
   (act E c=true->∀H,d_ H->PRes P G0 K d_ (cJ fr) ⟨some d,o.op,o.type,o.pos,o.after,none⟩ H v)/\SS.Rel S' f (upd fr d (bif act E c then v else undef)):=by
 unfold stepS at h
 simp only[fcH_eq,fcV_eq]at h
 split at h
 ·cases h
 rename_i d hd
 cases U:(Nat.ble (d+1) sz&&o.op.operands.toList.all (bo G0)) with
 |false=>rw[U]at h;cases h
 |true=>
  rw[U]at h
  simp only[cond_true]at h
  rw[a09]at U
  split at h
  ·cases h
  rename_i c E hc
  have T:=fJ hr hc
  split at h
  ·rename_i s a b ax;split at h
   ·rename_i cc γ hl;cases N:(subC cc c&&(S.can ((s,true)::c) a&&S.can ((s,false)::c) b)) with
    |false=>rw[N]at h;cases h
    |true=>
     rw[N]at h
     simp only[cond_true]at h
     simp only[a09]at N
     split at h
     ·rename_i v hv;have an:(∃c,lk S.m s=some (c,.bool γ))\/(lk S.m s=none/\f s= .bool γ):= .inl ⟨_,hl⟩;have ag:=SS.Rel.add (S:=⟨S.m,E⟩) T.rel (d:=s) (g:=γ) an;have hG:=ln (G:=E) (d:=s) (g:=γ) (T.rel.same an);have ao: ∀s' w,(s',w)∈c->∃g,gl (kA E s γ) s'=some g:=fun s' w hm=>by obtain⟨r,ay⟩:=T.ks s' w hm;exact⟨r,gl_add ay⟩
      have aa:act (kA E s γ) c=act E c:=og T.ks;obtain⟨h1,_⟩:=kP ag ao h;rw[aa]at h1;refine⟨d,c,E,v,hd,U.1,U.2,hc,fun Z H hH=>?_,h1⟩;refine .val ⟨?_⟩;rw[ax];show gq (cJ fr) (.tmp s) a b H=_;have e0:cJ fr (.tmp s)= .bool γ:=by have:=T.rel.sl s cc _ hl;rw[act_sub Z N.1]at this;exact this
      unfold gq;rw[e0];show some (AN.val (bif γ then cJ fr a else cJ fr b),H)=_;rw[ppk_ok (fun _=>rfl) hv];have ad: ∀(w:Bool) (x:Operand),γ=w->S.can ((s,w)::c) x=true->cJ fr x=S.rd f x:=by intro w x hw hx;have aA:SS.Rel ⟨S.m,kA E s γ⟩ f fr:=ag;refine rd_ok (S:=⟨S.m,kA E s γ⟩) aA (c:=(s,w)::c) ?_ hx;show((match gl (kA E s γ) s with|some g=>bq g w|none=>false)&&act (kA E s γ) c)=true;rw[hG,aa,Z,hw];cases w<;>rfl
      cases γ with
      |true=>rw[cond_true,cond_true,ad true a V N.2.1]
      |false=>rw[cond_false,cond_false,ad false b V N.2.2]
     cases h
   cases h
  cases N:o.op.operands.toList.all (S.can c) with
  |false=>rw[N]at h;cases h
  |true=>
   rw[N]at h
   simp only[cond_true]at h
   split at h
   ·rename_i v q0 hp;obtain⟨h1,h2⟩:=kP T.rel T.ks h;refine⟨d,c,E,v,hd,U.1,U.2,hc,fun Z H hH=>?_,h1⟩;refine pop_ok hW hH (fun x hx=>?_) hp (h2 hq Z);have:=a0m.1 N x hx;exact rd_ok (S:=⟨S.m,E⟩) T.rel Z this
   cases h
theorem wo_do{d:Nat}{o:Oper}{c:Ch}{N:List (Nat×Bool)}{v:Value}(hd:o.dst=some d)(U:Nat.ble (d+1) sz=true)(ho:o.op.operands.toList.all (bo G0)=true)(Z:GOK ops f fr S o.guard c N)
  (hp:act N c=true->∀H,d_ H->PRes P G0 K d_ (cJ fr) ⟨some d,o.op,o.type,o.pos,o.after,none⟩ H v) (T:d_ H) (h: ∀H,d_ H->WO P G0 K sz ops os k (upd fr d (bif act N c then v else undef)) H Q):WO P G0 K sz ops (o::os) k fr H Q:=by
 obtain⟨ai,op,ty,pos,af,gd⟩:=o
 simp only at hd ho Z hp
 subst hd
 cases E:act N c with
 |true=>
  rw[E]at h
  have base:WO P G0 K sz ops (⟨some d,op,ty,pos,af,none⟩::os) k fr H Q:=by
   cases hp E H T with
   |val hv=>exact cP hv ho U (h H T)
   |call g args he _ hc=>exact wo_callG he ho U hc (by rintro v' H' ⟨rfl,hJ⟩;exact h H' hJ)
  cases gd with
  |none=>exact base
  |some jw=>
   obtain⟨j,w⟩:=jw
   exact iZ (Z.on E) V base
 |false=>
  rw[E]at h
  have:=Z.off E
  cases gd with
  |none=>exact absurd this id
  |some jw=>
   obtain⟨j,w⟩:=jw
   rcases this with h1|h1
   ·exact wo_gn h1 U (h H T)
   exact wo_gf h1 V U (h H T)
def bnD:ID->Bool
 | .x []=>true
 | .x _=>false
 | .s _=>false
 |_=>true
theorem okD_r{i:Nat}: ∀{D:List (Nat×ID)},D.all (fun e=>bnD e.2)=true->okD ops i .r D
 | [],_=>trivial
 |(j,e)::D,h=>by
  simp only[a0F,a09]at h;refine⟨.inr ?_,okD_r h.2⟩;cases e with
  |x W=>
   cases W with
   |nil=>trivial
   |cons a b=>exact absurd h.1 (by simp[bnD])
  |s W=>exact absurd h.1 (by simp[bnD])
  |_=>trivial
theorem okD_x{i:Nat}: ∀{D:List (Nat×ID)},D.all (fun e=>bnD e.2)=true->okD ops i (.x []) D
 | [],_=>trivial
 |(j,e)::D,h=>by
  simp only[a0F,a09]at h;refine⟨.inr ?_,okD_x h.2⟩;cases e with
  |x W=>
   cases W with
   |nil=>exact⟨trivial,trivial⟩
   |cons a b=>exact absurd h.1 (by simp[bnD])
  |s W=>exact absurd h.1 (by simp[bnD])
  |l b=>exact a0k
  |q S=>exact fun b E=>absurd E a0k
  |n B=>exact fun b E=>absurd E a0k
  |_=>trivial
theorem wf_weak{D:List (Nat×ID)}{i j:Nat}{e:ID}(Z: ∀g,e.fits g->gA g=true)(h:WF2 P G0 K sz ops ((j,.r)::D) i os k f H Q):WF2 P G0 K sz ops ((j,e)::D) i os k f H Q:=⟨fun t fs ht E=>by
 refine h.out t fs ht ?_;cases fs with
 |nil=>exact absurd E id
 |cons x fs=>
  obtain⟨a,g⟩:=x
  obtain⟨N,T,U⟩:=E
  exact⟨N,Z g T,U⟩⟩
theorem wf_callx{d:Tmp}{op:Op}{ty:TypeId}{pos:String}{af:Array Edge}{D:List (Nat×ID)}{i:Nat}{v:Value}{g:FuncId}{args:List Value}(ha:AP P (cJ f) ⟨some d,op,ty,pos,af,none⟩ {H with log:=[]} (.enter g args,{H with log:=[]}))(ho:op.operands.toList.all (bo G0)=true)(hd:Nat.ble (d+1) sz=true)(hk:gp op=true)
  (hc:C P G0 K g args {H with log:=[]} fun v' H'=>v'=v/\H'={H with log:=[]}) (ai:okD ops i (.x []) D)
  (h:WF2 P G0 K sz ops ((i,.x [])::D) (i+1) os k (upd f d v) H Q):WF2 P G0 K sz ops D i (⟨some d,op,ty,pos,af,none⟩::os) k f H Q:=⟨fun t fs ht Z=>by
 obtain⟨N,v',H2,ag,rfl,rfl⟩:=hc.out
 obtain⟨U,h1,h2⟩:=jB (s:=⟨t,sz,{H with log:=[]}⟩) (d:=some d) (v:=v') hd
 have hi:=dC (ops:=ops) (f:=f) (o:=⟨some d,op,ty,pos,af,none⟩) (n:=H.next) (log:=[]) (W:=[]) V hk (fun b hb=>by simp at hb) t sz H ht
 obtain⟨E,e,s',h3,h4⟩:=h.out U ((i,d8 ops ⟨some d,op,ty,pos,af,none⟩ ⟨t,sz,H⟩ H.next [])::fs) (by rw[h2,ht];rfl) ⟨V,hi,Z⟩
 refine⟨Nat.max N E,e,s',?_,h4⟩
 have al:step P G0 (call P G0 K (Nat.max N E)) ops ⟨some d,op,ty,pos,af,none⟩ ⟨t,sz,{H with log:=[]}⟩=some ⟨U,sz,{H with log:=[]}⟩:=by unfold step bf;simp only[cond_true,ho,ew,ht,ha.eq,fo (a25 N E) _ _ _ _ ag];exact h1
 unfold bw gW
 rw[al]
 simp only[dP hi Z ai,cond_true,dD,a18]
 refine dW (a1B (a1w N E)) k _ _ (fun x T=>?_) _ h3
 cases hq:bw P G0 (call P G0 K E) ops (i+1) ((i,d8 ops ⟨some d,op,ty,pos,af,none⟩ ⟨t,sz,H⟩ H.next [])::fs) os ⟨U,sz,H⟩ with
 |none=>rw[hq]at T;cases T
 |some y=>
  have:=eR (fo (P:=P) (G:=G0) (K:=K) (a1w N E)) _ _ _ _ _ hq
  rw[hq]at T
  show dT (bw P G0 (call P G0 K (Nat.max N E)) ops (i+1) _ os ⟨U,sz,H⟩)=_
  rw[this];exact T⟩
theorem wf_do{D:List (Nat×ID)}{i d:Nat}{o:Oper}{c:Ch}{U:List (Nat×Bool)}{v:Value}(hD:D.all (fun e=>bnD e.2)=true)(hd:o.dst=some d)(N:Nat.ble (d+1) sz=true)(Z:o.op.operands.toList.all (bo G0)=true)(E:GOK ops f fr S o.guard c U)
  (hp:act U c=true->PRes P G0 K (· ={H with log:=[]}) (cJ fr) ⟨some d,o.op,o.type,o.pos,o.after,none⟩ {H with log:=[]} v) (h:WF2 P G0 K sz ops ((i,.r)::D) (i+1) os k (upd fr d (bif act U c then v else undef)) H Q):WF2 P G0 K sz ops D i (o::os) k fr H Q:=by
 obtain⟨an,op,ty,pos,af,gd⟩:=o
 simp only at hd Z E hp
 subst hd
 cases T:act U c with
 |true=>
  rw[T]at h
  have base:WF2 P G0 K sz ops D i (⟨some d,op,ty,pos,af,none⟩::os) k fr H Q:=by
   cases hp T with
   |val hv=>exact bE (id:= .r) hv Z N (did_r fun b N=>by simp at N) (okD_r hD) h
   |call g args he hk hc=>
    exact wf_callx he Z N hk hc (okD_x hD) (wf_weak (fun g E=>by obtain⟨w,rfl,hw⟩:=E;cases w with
     |nil=>rfl
     |cons a b=>exact absurd (hw a (by simp)) a0k) h)
  cases gd with
  |none=>exact base
  |some jw=>
   obtain⟨j,w⟩:=jw
   exact wf_gt (E.on T) V base
 |false=>
  rw[T]at h
  have:=E.off T
  cases gd with
  |none=>exact absurd this id
  |some jw=>
   obtain⟨j,w⟩:=jw
   have h':=wf_weak (e:= .v) (fun g E=>by rw[show g= .v from E];rfl) h
   rcases this with h1|h1
   ·exact wf_gn h1 N h'
   exact wf_gf h1 V N h'
theorem fh{q:Option Prop}{p:Prop}(h:andO q p):gu q/\p:=by
 cases q with
 |none=>exact⟨trivial,h⟩
 |some q=>exact h
theorem wo_row(T:W.OK P G0 K d_){hs:List (Nat×Hint)}: ∀{a:List Oper} {i:Nat} {S S':SS} {p:Prop} {fr:Fn} {H:Heap},d_ H->rgL P G0 W sz ops f hs i a S=some (S',p)->p->S.Rel f fr->
  (∀E H,d_ H->S'.Rel f E->WO P G0 K sz ops os k E H Q)->WO P G0 K sz ops (a++os) k fr H Q
 | [],i,S,S',p,fr,H,hH,h,_,hr,hk=>by simp only[rgL,a00,a04]at h;obtain⟨rfl,_⟩:=h;exact hk fr H hH hr
 |o::a,i,S,S',p,fr,H,hH,h,hp,hr,hk=>by
  unfold rgL at h;split at h
  ·cases h
  rename_i S1 q h1;split at h
  ·cases h
  rename_i S2 p2 h2;simp only[a00,a04]at h;obtain⟨rfl,rfl⟩:=h;obtain⟨hq,U⟩:=fh hp;obtain⟨d,c,G1,v,Z,e2,e3,e4,e5,e6⟩:=gG T hr h1 hq;exact wo_do Z e2 e3 (fJ hr e4) e5 hH fun H' N=>wo_row T N h2 U e6 hk
def rs(i:Nat):List Oper->List (Nat×ID)->List (Nat×ID)
 | [],D=>D
 |_::a,D=>rs (i+1) a ((i,.r)::D)
theorem wf_row{hs:List (Nat×Hint)}: ∀{a:List Oper} {i:Nat} {D:List (Nat×ID)} {S S':SS} {p:Prop} {fr:Fn},D.all (fun e=>bnD e.2)=true->rgL P G0 (W0 P G0 K {H with log:=[]}) sz ops f hs i a S=some (S',p)->p->S.Rel f fr->
  (∀E,S'.Rel f E->WF2 P G0 K sz ops (rs i a D) (i+a.length) os k E H Q)->WF2 P G0 K sz ops D i (a++os) k fr H Q
 | [],i,D,S,S',p,fr,_,h,_,hr,hk=>by simp only[rgL,a00,a04]at h;obtain⟨rfl,_⟩:=h;exact hk fr hr
 |o::a,i,D,S,S',p,fr,hD,h,hp,hr,hk=>by
  unfold rgL at h;split at h
  ·cases h
  rename_i S1 q h1;split at h
  ·cases h
  rename_i S2 p2 h2;simp only[a00,a04]at h;obtain⟨rfl,rfl⟩:=h;obtain⟨hq,N⟩:=fh hp;obtain⟨d,c,G1,v,U,Z,e3,e4,e5,e6⟩:=gG ok0 hr h1 hq;refine wf_do hD U Z e3 (fJ hr e4) (fun ha=>e5 ha _ V) (wf_row (by simp only[a0F,hD,a17];rfl) h2 N e6 fun E T=>?_);have:=hk E T;rw[a05,show i+(a.length+1)=i+1+a.length by omega]at this;exact this
theorem nG{m:List (Nat×Ch×Value)}{G:List (Nat×Bool)}(N:SS.Rel ⟨m,G⟩ f fr): ∀{E:List Nat} {l:List (Nat×Value)},fins m E=some l->aB fr l
 | [],l,h=>by simp only[fins,a00]at h;subst h;trivial
 |d::E,l,h=>by
  unfold fins at h;split at h
  ·rename_i v l' T U;simp only[a00]at h;subst h;exact⟨by have:=N.sl d [] v T;exact this,nG N U⟩
  cases h
theorem i7{m:List (Nat×Ch×Value)}{G:List (Nat×Bool)}(Z:SS.Rel ⟨m,G⟩ f fr){lo hi:Nat}{ex:List Nat}(h:m.all (fun e=>inR lo hi ex e.1)=true):Leaves lo hi ex f fr:=⟨fun j U=>by
 refine Z.no j ?_;have N: ∀(m:List (Nat×Ch×Value)),m.all (fun e=>inR lo hi ex e.1)=true->lk m j=none:=by
  intro m;induction m with
  |nil=>intro _;rfl
  |cons e m ih=>
   obtain⟨s,x⟩:=e
   intro E
   simp only[a0F,a09]at E
   show(bif Nat.beq s j then some x else lk m j)=none
   cases T:Nat.beq s j with
   |true=>have:=a0c T;subst this;rw[U]at E;cases E.1
   |false=>exact ih E.2
 exact N m h⟩
theorem rel0:SS.Rel ⟨[],[]⟩ f f:=⟨fun t c v h=>(by cases h),fun _ _=>rfl,fun s g h=>(by cases h),fun t c v h=>(by cases h)⟩
theorem top_ok{i:Nat}{a:List Oper}{hs:List (Nat×Hint)}{lo hi:Nat}{ex T:List Nat}{l:List (Nat×Value)}{p:Prop}(h:gg P G0 W sz ops f i a hs lo hi ex T=some (l,p)):
  ∃S,rgL P G0 W sz ops f hs i a ⟨[],[]⟩=some (S,p)/\∀fr,S.Rel f fr->∃g,fr=gQ (hav lo hi ex g f) l:=by
 unfold gg at h
 split at h
 ·cases h
 rename_i S p' U
 cases E:S.m.all (fun e=>inR lo hi ex e.1) with
 |false=>rw[E]at h;cases h
 |true=>
  rw[E]at h
  simp only[cond_true]at h
  split at h
  ·rename_i l' Z;simp only[a00,a04]at h;obtain⟨rfl,rfl⟩:=h;refine⟨S,U,fun fr N=>⟨fr,?_⟩⟩;rw[←(i7 N E).eq,e9 (nG N Z)]
  cases h
theorem wk_rg{id:Nat}(hs:List (Nat×Hint))(lo hi:Nat)(ex:List Nat){E:List Nat}{l:List (Nat×Value)}{p:Prop}(h:gg P G0 (W0 P G0 K H) sz ops f 0 ops.toList hs lo hi ex E=some (l,p))(Z:p)
  (U: ∀g,WK P G0 K sz .skip k (gQ (hav lo hi ex g f) l) H Q):WK P G0 K sz (.region id ops false) k f H Q:=by
 obtain⟨S,N,T⟩:=top_ok h
 refine ab ?_
 have:=wo_row (os:=[]) (k:=k) (Q:=Q) ok0 V N Z rel0 (fun fr H' e hr=>by obtain⟨g,rfl⟩:=T fr hr;subst e;exact iy (U g))
 rwa [a0o]at this
theorem wk_rgD{id:Nat}(E:(bh ops&&P.follows .mixedOrders)=true)(hs:List (Nat×Hint))(lo hi:Nat)(ex:List Nat){N:List Nat}{l:List (Nat×Value)}{p:Prop}(h:gg P G0 (W0 P G0 K {H with log:=[]}) sz ops f 0 ops.toList hs lo hi ex N=some (l,p))(hp:p)
  (Z: ∀g,WK P G0 K sz .skip k (gQ (hav lo hi ex g f) l) H Q):WK P G0 K sz (.region id ops true) k f H Q:=by
 obtain⟨S,T,U⟩:=top_ok h
 refine aL E ?_
 have:=wf_row (os:=[]) (k:=k) (Q:=Q) (D:=[]) V T hp rel0 (fun fr E=>by obtain⟨g,rfl⟩:=U fr E;exact gS (Z g))
 rwa [a0o]at this
theorem wo_rg(n i:Nat)(hs:List (Nat×Hint))(lo hi:Nat)(ex:List Nat){os:List Oper}{E:List Nat}{l:List (Nat×Value)}{p:Prop}(h:gg P G0 (W0 P G0 K H) sz ops f i (dU os n) hs lo hi ex E=some (l,p))(Z:p)
  (U: ∀g,WO P G0 K sz ops (dY os n) k (gQ (hav lo hi ex g f) l) H Q):WO P G0 K sz ops os k f H Q:=by
 obtain⟨S,N,T⟩:=top_ok h
 have:=wo_row (os:=dY os n) (k:=k) (Q:=Q) ok0 V N Z rel0 (fun fr H' e hr=>by obtain⟨g,rfl⟩:=T fr hr;subst e;exact U g)
 rwa [bS,bU,a13]at this
end
def foc:Nat->Code->List Fr->Code×List Fr
 |0,c,k=>(c,k)
 |n+1,.seq a b,k=>foc n a (.seq b::k)
 |n+1,.block id b,k=>foc n b (.block id::k)
 |n+1,.skip,.seq b::k=>foc n b k
 |n+1,.skip,.block _::k=>foc n .skip k
 |n+1,.exit id,.seq _::k=>foc n (.exit id) k
 |n+1,.exit id,.block id'::k=>bif Nat.beq id id' then foc n .skip k else foc n (.exit id) k
 |_+1,c,k=>(c,k)
section
variable {P:Program} {G:Nat} {K:bJ} {sz:Nat} {Q:Ex->Fn->Heap->Prop} {f:Fn} {H:Heap}
theorem wk_foc': ∀(n:Nat) (c:Code) (k:List Fr),WK P G K sz (foc n c k).1 (foc n c k).2 f H Q->WK P G K sz c k f H Q:=by
 intro n;induction n with
 |zero=>intro c k h;exact h
 |succ n ih=>
  intro c k h
  cases c with
  |seq a b=>exact wk_seq (ih _ _ h)
  |block id b=>exact wk_block (ih _ _ h)
  |skip=>
   cases k with
   |nil=>exact h
   |cons x k=>
    cases x with
    |seq b=>exact wk_skip_seq (ih _ _ h)
    |block id=>exact mX (ih _ _ h)
  |exit id=>
   cases k with
   |nil=>exact h
   |cons x k=>
    cases x with
    |seq b=>exact wk_exit_seq (ih _ _ h)
    |block id'=>
     have E:WK P G K sz (bif Nat.beq id id' then foc n .skip k else foc n (.exit id) k).1 (bif Nat.beq id id' then foc n .skip k else foc n (.exit id) k).2 f H Q:=h
     cases N:Nat.beq id id' with
     |true=>
      have:=a0c N
      subst this
      rw[N]at E
      exact mY (ih _ _ E)
     |false=>
      rw[N]at E
      exact jQ N (ih _ _ E)
  |_=>exact h
variable {c c1 c2:Code} {k k1 k2:List Fr}
theorem am(n:Nat)(E:foc n c k=(c1,k1))(h:WK P G K sz c1 k1 f H Q):WK P G K sz c k f H Q:=wk_foc' n c k (by rw[E];exact h)
theorem eV(n m:Nat){x:Operand}{a b:Code}{v:Bool}(hx:cJ f x= .bool v)(Z:bo G x=true)(N:foc n a k=(c1,k1))(T:foc m b k=(c2,k2))(ht:v=true->WK P G K sz c1 k1 f H Q)(U:v=false->WK P G K sz c2 k2 f H Q):WK P G K sz (.cond x a b) k f H Q:=
 wk_cond hx Z (fun E=>am n N (ht E)) (fun E=>am m T (U E))
theorem aS(n:Nat){x:Operand}{a b:Code}{v:Bool}(U:cJ f x= .bool v)(T:v=true)(N:bo G x=true)(E:foc n a k=(c1,k1))(h:WK P G K sz c1 k1 f H Q):WK P G K sz (.cond x a b) k f H Q:=wk_true U T N (am n E h)
theorem bW(n:Nat){x:Operand}{a b:Code}{v:Bool}(U:cJ f x= .bool v)(T:v=false)(N:bo G x=true)(E:foc n b k=(c1,k1))(h:WK P G K sz c1 k1 f H Q):WK P G K sz (.cond x a b) k f H Q:=wk_false U T N (am n E h)
theorem bj(d_:Fn->Heap->Prop)(N:(∀E H',d_ E H'->WK P G K sz .skip k E H' Q)->WK P G K sz c k f H Q)(T: ∀E H',d_ E H'->WK P G K sz .skip k E H' Q):WK P G K sz c k f H Q:=N T
theorem wr(n:Nat){id:Nat}{ops:Array Oper}(hs:List (Nat×Hint))(lo hi:Nat)(ex:List Nat)(l:List (Nat×Value)){p:Prop}(T:p)(h:gg P G (W0 P G K H) sz ops f 0 ops.toList hs lo hi ex (dF Prod.fst l)=some (l,p))(E:foc n .skip k=(c1,k1))
  (N: ∀g,WK P G K sz c1 k1 (gQ (hav lo hi ex g f) l) H Q):WK P G K sz (.region id ops false) k f H Q:=wk_rg hs lo hi ex h T fun g=>am n E (N g)
theorem wrD(n:Nat){id:Nat}{ops:Array Oper}(hs:List (Nat×Hint))(lo hi:Nat)(ex:List Nat)(l:List (Nat×Value)){p:Prop}(T:p)(U:(bh ops&&P.follows .mixedOrders)=true)(h:gg P G (W0 P G K {H with log:=[]}) sz ops f 0 ops.toList hs lo hi ex (dF Prod.fst l)=some (l,p))(E:foc n .skip k=(c1,k1))
  (N: ∀g,WK P G K sz c1 k1 (gQ (hav lo hi ex g f) l) H Q):WK P G K sz (.region id ops true) k f H Q:=wk_rgD U hs lo hi ex h T fun g=>am n E (N g)
theorem wro(n i:Nat){ops:Array Oper}{os E:List Oper}(hs:List (Nat×Hint))(lo hi:Nat)(ex:List Nat)(l:List (Nat×Value)){p:Prop}(U:p)(h:gg P G (W0 P G K H) sz ops f i (dU os n) hs lo hi ex (dF Prod.fst l)=some (l,p))(N:dY os n=E)
  (T: ∀g,WO P G K sz ops E k (gQ (hav lo hi ex g f) l) H Q):WO P G K sz ops os k f H Q:=wo_rg n i hs lo hi ex h U (by rw[N];exact T)
def HP(_:List (Nat×Hint))(p:Prop):Prop:=p
theorem Hn_:HP [] True:=trivial
theorem Ha_{hs:List (Nat×Hint)}{p q:Prop}(h:q)(r:HP hs p):HP hs (q/\p):=⟨h,r⟩
theorem Hl_(i:Nat){H:Heap}{t:TypeId}{a v:Value}{hs:List (Nat×Hint)}{p:Prop}(h:LDv P H t a v)(r:HP hs p):HP ((i,.o v)::hs) (LDv P H t a v/\p):=⟨h,r⟩
theorem Hc_(i:Nat){H:Heap}{g:FuncId}{args:List Value}{v:Value}{hs:List (Nat×Hint)}{p:Prop}(h:C P G K g args H fun v' H'=>v'=v/\H'=H)(r:HP hs p):HP ((i,.o v)::hs) ((C P G K g args H fun v' H'=>v'=v/\H'=H)/\p):=⟨h,r⟩
theorem Ho_(i:Nat)(x:Hint){hs:List (Nat×Hint)}{p q:Prop}(h:q)(r:HP hs p):HP ((i,x)::hs) (q/\p):=⟨h,r⟩
theorem Hw_(i:Nat)(x:Hint){hs:List (Nat×Hint)}{p:Prop}(r:HP hs p):HP ((i,x)::hs) p:=r
theorem wrp(n:Nat){id:Nat}{ops:Array Oper}{hs:List (Nat×Hint)}(lo hi:Nat)(ex:List Nat)(l:List (Nat×Value)){p:Prop}(T:HP hs p)(h:gg P G (W0 P G K H) sz ops f 0 ops.toList hs lo hi ex (dF Prod.fst l)=some (l,p))(E:foc n .skip k=(c1,k1))
  (N: ∀g,WK P G K sz c1 k1 (gQ (hav lo hi ex g f) l) H Q):WK P G K sz (.region id ops false) k f H Q:=wr n hs lo hi ex l T h E N
theorem wrDp(n:Nat){id:Nat}{ops:Array Oper}{hs:List (Nat×Hint)}(lo hi:Nat)(ex:List Nat)(l:List (Nat×Value)){p:Prop}(T:HP hs p)(U:(bh ops&&P.follows .mixedOrders)=true)(h:gg P G (W0 P G K {H with log:=[]}) sz ops f 0 ops.toList hs lo hi ex (dF Prod.fst l)=some (l,p))(E:foc n .skip k=(c1,k1))
  (N: ∀g,WK P G K sz c1 k1 (gQ (hav lo hi ex g f) l) H Q):WK P G K sz (.region id ops true) k f H Q:=wrD n hs lo hi ex l T U h E N
theorem bL(n i:Nat){ops:Array Oper}{os E:List Oper}{hs:List (Nat×Hint)}(lo hi:Nat)(ex:List Nat)(l:List (Nat×Value)){p:Prop}(U:HP hs p)(h:gg P G (W0 P G K H) sz ops f i (dU os n) hs lo hi ex (dF Prod.fst l)=some (l,p))(N:dY os n=E)
  (T: ∀g,WO P G K sz ops E k (gQ (hav lo hi ex g f) l) H Q):WO P G K sz ops os k f H Q:=wro n i hs lo hi ex l U h N T
theorem ah(n:Nat){ops:Array Oper}(E:foc n .skip k=(c1,k1))(h:WK P G K sz c1 k1 f H Q):WO P G K sz ops [] k f H Q:=iy (am n E h)
theorem bC(n:Nat){ops:Array Oper}{D:List (Nat×ID)}{i:Nat}(E:foc n .skip k=(c1,k1))(h:WK P G K sz c1 k1 f H Q):WF2 P G K sz ops D i [] k f H Q:=gS (am n E h)
end
theorem vA{a b:Prop}(h:a)(k:b):a/\b:=⟨h,k⟩
theorem vi{n:Int}(h: -9223372036854775808<=n/\n<9223372036854775808:=by first|(dsimp only;omega)|omega):rng .i64 n:=h
theorem vu{n:Int}(h:0<=n/\n<18446744073709551616):rng .u64 n:=h
section
variable {P:Program} {G:Nat} {K:bJ} {H:Heap} {F:Fz} {B:Base} {L R:List Fp}
theorem ld1{b o i:Nat}{cs:List Value}{w:Value}{t:TypeId}(hc:HC H.get b o cs)(T:eX P t=some false)(U:cs[i]?=some w):LDv P H t (.pointer (some ⟨b,o+i,none⟩)) w:=by obtain⟨all,Z,ro,E,N⟩:=hc.get U;show ovl (H.loadV P t ⟨b,o+i,none⟩) H=_;unfold Heap.loadV;rw[T];simp only;unfold Heap.cellAt;simp only[E,ga,N];rfl
theorem ldN{b o i n:Nat}{cs l:List Value}{t:TypeId}(hc:HC H.get b o cs)(Z:eX P t=some true)(hs:cZ P t=some n)(hn:Nat.ble (i+n) cs.length=true)(E:dU (dY cs i) n=l):LDv P H t (.pointer (some ⟨b,o+i,none⟩)) (.agg ⟨l⟩):=by obtain⟨all,ad,ro,N,T,U⟩:=hc.part (a0a hn);rw[bS,bU]at E;show ovl (H.loadV P t ⟨b,o+i,none⟩) H=_;unfold Heap.loadV;rw[Z];simp only[hs];unfold Heap.loadN;rw[←E];simp only[N,bS,bU,bA,T,U,a15,cond_true];rfl
theorem hc0{b o:Nat}{cs:List Value}(h:HC H.get b o cs):HC ({H with log:=[]}:Heap).get b o cs:=h
theorem cq{f:FuncId}{args:List Value}{Q:Value->Heap->Prop}{v:Value}(h:C P G K f args H Q)(E: ∀v' H',Q v' H'->v'=v/\H'=H):C P G K f args H fun v' H'=>v'=v/\H'=H:=h.mono E
section
variable {α:Type} [Rp α] {v:Value} {l:List α}
theorem Sv.view{get:Nat->Option AObj}(h:Sv F get v l): ∃cf:Nat->List Value,∀(j:Nat),(∀d:α,j<l.length->Rp.rep F (cf j) (l.getD j d)/\HC get (sB v) (sO v+j *Rp.sz α) (cf j))/\(l.length<=j->cf j=[]):=by
 have N: ∀j,∃cs,(∀(d:α),j<l.length->Rp.rep F cs (l.getD j d)/\HC get (sB v) (sO v+j *Rp.sz α) cs)/\(l.length<=j->cs=[]):=by
  intro j;by_cases E:j<l.length
  ·obtain⟨cs,U,Z⟩:=h.at (a06 E);refine⟨cs,fun d _=>⟨?_,Z⟩,fun h=>absurd h M⟩;rw[a02,a06 E];exact U
  exact⟨[],fun _ T=>absurd T E,fun _=>rfl⟩
 exact⟨fun j=>(N j).choose,fun j=>(N j).choose_spec⟩
abbrev VW(F:Fz)(get:Nat->Option AObj)(v:Value)(l:List α)(cf:Nat->List Value)(j:Nat):Prop:=(∀d:α,j<l.length->Rp.rep F (cf j) (l.getD j d)/\HC get (sB v) (sO v+j *Rp.sz α) (cf j))/\(l.length<=j->cf j=[])
theorem Sv.ix{get:Nat->Option AObj}(h:Sv F get v l){j:Int}(N:0<=j:=by first|(dsimp only;omega)|omega)(E:j<l.length:=by first|(dsimp only;omega)|omega):IX v j:=by
 rcases h with⟨_,rfl⟩|⟨b,off,k,o,rfl,Z,cs,U,ro,rfl,h3,T,h5,h6⟩
 ·simp at E;omega
 exact⟨b,off,_,k,V,N,E,T⟩
end
def sA:Value->Option Addr
 | .slice a _ _=>a
 |_=>none
def sK:Value->Nat
 | .slice _ _ k=>k
 |_=>0
abbrev cA(cs:List Value)(i:Nat):Option Addr:=sA (cs.getD i undef)
abbrev cK(cs:List Value)(i:Nat):Nat:=sK (cs.getD i undef)
end
theorem cb{α:Type}{l:List α}{j:Nat}{d:α}(h:l.length<=j):l.getD j d=d:=by rw[a02,a0J h];rfl
section
variable {F:Fz} {get:Nat->Option AObj} {v:Value} {cf:Nat->List Value} {j:Nat}
theorem vI{l:List Int}(h:VW F get v l cf j)(T:j<l.length:=by first|(dsimp only;omega)|omega):HC get (sB v) (sO v+j *Rp.sz Int) [.int .i64 (l.getD j 0)]:=by obtain⟨⟨N,_⟩,E⟩:=h.1 0 T;rw[N]at E;exact E
theorem fI{l:List Int}(h:VW F get v l cf j):in64 (l.getD j 0):=by
 rcases a0g j l.length with hj|hj
 ·exact(h.1 0 hj).1.2
 rw[cb hj];decide
theorem vB{l:List Bool}(h:VW F get v l cf j)(T:j<l.length:=by first|(dsimp only;omega)|omega):HC get (sB v) (sO v+j *Rp.sz Bool) [.bool (l.getD j false)]:=by obtain⟨N,E⟩:=h.1 false T;rw[show cf j=_ from N]at E;exact E
theorem vS{l:List Str}(h:VW F get v l cf j)(T:j<l.length:=by first|(dsimp only;omega)|omega):HC get (sB v) (sO v+j *Rp.sz Str) [.string ⟨⟨(l.getD j default).b⟩⟩]:=by obtain⟨N,E⟩:=h.1 default T;rw[show cf j=_ from N]at E;exact E
theorem vU{l:List U64}(h:VW F get v l cf j)(T:j<l.length:=by first|(dsimp only;omega)|omega):HC get (sB v) (sO v+j *Rp.sz U64) [.int .u64 (l.getD j default).n]:=by obtain⟨⟨N,_⟩,E⟩:=h.1 default T;rw[N]at E;exact E
theorem fU{l:List U64}(h:VW F get v l cf j):0<=(l.getD j default).n/\(l.getD j default).n<18446744073709551616:=by
 rcases a0g j l.length with hj|hj
 ·exact(h.1 default hj).1.2
 rw[cb hj];exact⟨a1q _,by decide⟩
theorem vL{α:Type} [Rp α]{l:List (List α)}(h:VW F get v l cf j)(T:j<l.length:=by first|(dsimp only;omega)|omega):HC get (sB v) (sO v+j *Rp.sz (List α)) [.slice (cA (cf j) 0) (l.getD j default).length (cK (cf j) 0)]:=by obtain⟨⟨a,k,N,_⟩,E⟩:=h.1 default T;rw[N]at E⊢;exact E
theorem fL{α:Type} [Rp α]{l:List (List α)}(h:VW F get v l cf j):SR F (.slice (cA (cf j) 0) (l.getD j default).length (cK (cf j) 0)) (l.getD j default):=by
 rcases a0g j l.length with hj|hj
 ·obtain⟨⟨a,k,E,N⟩,_⟩:=h.1 default hj;rw[E];exact N
 rw[cb hj,h.2 hj];exact SR.nil
theorem ap_callc{P:Program}{E:Operand}{d:Option Tmp}{ty:TypeId}{pos:String}{af:Array Edge}{gd:Option (Nat×Bool)}{H:Heap}{args:Array Operand}{N:Array TypeId}{i:FuncId}{fn:Func}{f:Fn}{l:List Value}{x y:Array Value}(hv:cJ f E= .func (.func i) x y)(U:P.funcs[i]?=some fn)(T:(fn.body.isSome&& !(fn.name== "runtime.NumGoroutine"))=true)(Z:appL x.toList (appL (dF (cJ f) args.toList) y.toList)=l):
  AP P (cJ f) ⟨d,.call ⟨.value E,args,N⟩,ty,pos,af,gd⟩ H (.enter i l,H):=by
 refine⟨?_⟩
 show fF (fS P (cJ f E) (dF (cJ f) args.toList)) H=_
 rw[hv]
 unfold fS
 simp only[U,T,cond_true,Z]
 rfl
end
theorem vq{a b:Int}(N:in64 a)(hb:b≠ -1):rng .i64 (a.tdiv b):=by
 show in64 _;by_cases T:b=0
 ·subst T;rw[Int.tdiv_zero];decide
 have E:(a.tdiv b).natAbs=a.natAbs/b.natAbs:=Int.natAbs_tdiv a b;by_cases U:b=1
 ·subst U;rw[Int.tdiv_one];exact N
 have Z:2<=b.natAbs:=M
 have h5:(a.tdiv b).natAbs *2<=a.natAbs:=by rw[E];exact a0e (Nat.mul_le_mul_left _ Z) (Nat.div_mul_le_self _ _)
 obtain⟨h6,h7⟩:=N;clear E;constructor<;>omega
theorem ve{n m:Int}(h:n=m)(E: -9223372036854775808<=m/\m<9223372036854775808):n=m/\rng .i64 m:=⟨h,E⟩
section
variable {P:Program} {t:TypeId} {fs:Array Field} {xs ys:List Value} {bs:List Bool}
theorem agEq(E:xs.all noA0=true)(N:ys.all noA0=true)(U:P.underlying t=some (.struct fs))(hs:P.stoodInHeld t=false)(T:P.eqGuardType P.depth t=false)(h:EqFs P 9999 ⟨xs⟩ ⟨ys⟩ fs.toList bs):AGB P .eql t (.agg ⟨xs⟩) (.agg ⟨ys⟩) (.bool (bs.all id)):=
 fun _ _ _ _ _ _ _ _ _ _ Z hy=>ap_agEq Z hy E N U hs T h
end
section
variable {B:Base} {F:Fz} {H:Heap} {L R:List Fp} {x:Fp}
theorem HS.first(h:HS B F H (x::L) R):HS B F H [x] R:=HS.sub h (by simp)
theorem HS.didW{E:Heap}{W:List Nat}(h:HS (.of {E with log:=[]} W) F H L R): ∀b,b∈H.log->E.next<=b\/b∈W:=fun b N=>by
 rcases h.log b N with h1|h1|h1
 ·simp[Base.of]at h1
 ·exact .inl h1
 exact .inr h1
end
end Go.R
end
namespace Go.R
theorem over_all: ∀(cs E:List Value),cs.length=E.length->over cs E=E
 | [],[],_=>rfl
 | [],_::_,h=>by simp at h
 |_::_,[],h=>by simp at h
 |c::cs,v::E,h=>by show v::over cs E=_;rw[over_all cs E (by simpa using h)]
theorem st_whole{α:Type} [Rp α]{F:Fz}{c_ Y:α}{cl:List Value}(h:Rp.rep F cl Y): ∀cs,Rp.rep F cs c_->0+cl.length<=cs.length/\Rp.rep F (bc cs 0 cl) Y:=by
 intro cs hc;have E:=Rp.len h;have N:=Rp.len hc;refine⟨by omega,?_⟩;have:bc cs 0 cl=over cs cl:=by cases cs<;>rfl
 rw[this,over_all _ _ M];exact h
theorem HS.nin{B:Base}{F:Fz}{H:Heap}{L R:List Fp}(h:HS B F H L R){i j:Nat}{p q:Fp}(hi:L[i]?=some p)(hj:L[j]?=some q)(T:i≠j){b:Nat}(hb:b∈p.map Prod.fst):b∉q.map Prod.fst:=by
 intro hq;have hc:=h.callOwn hi;have E:=hc.nd;have U:q∈L.set i []:=by refine a0r (i:=j) ?_;rw[a1W T];exact hj
 simp only[a0Z,a18,a0Q,a12,a1p]at E;refine E.2.2 b hb b ?_ V;obtain⟨⟨Z,o⟩,N,rfl⟩:=a0u.1 hq;exact a0u.2 ⟨(Z,o),a0S.2 ⟨q,a1H _ U,N⟩,V⟩
theorem SR.len'{α:Type} [Rp α]{F:Fz}{a:Option Addr}{n k:Nat}{l:List α}(h:SR F (.slice a n k) l):l.length=n:=by obtain⟨E,N,e⟩:=Sv.shape h;injection e with _ e _;exact e.symm
theorem SR.norm{α:Type} [Rp α]{F:Fz}{a:Option Addr}{n k:Nat}{l:List α}(h:SR F (.slice a n k) l):SR F (.slice a l.length k) l:=by rw[h.len'];exact h
theorem HS.apq{B:Base}{F:Fz}{H:Heap}{L R:List Fp}(h:HS B F H L R){i:Nat}{p:Fp}(hi:L[i]?=some p): ∀b,b∈p.map Prod.fst->¬F b≠none:=by intro b T U;obtain⟨⟨N,o⟩,E,rfl⟩:=a0u.1 T;exact U (h.own p (.inl (a0r hi)) N o E).2.2
theorem SR.q{α:Type} [Rp α]{F:Fz}{a:Option Addr}{n k:Nat}{l:List α}(h:SR F (.slice a n k) l): ∀p,a=some p->F p.block≠none:=by
 intro p E;rcases h with⟨e,_⟩|⟨b,off,U,o,e,N,_⟩
 ·injection e with e1;rw[e1]at E;cases E
 injection e with e1;rw[e1]at E;obtain rfl:=Option.some.inj E;rw[show F b=some o from N];exact fun T=>by cases T
end Go.R
noncomputable section
set_option linter.unusedVariables false
namespace Go.R
open Go
section
variable {P:Program} {G:Nat} {K:bJ} {sz:Nat} {Q:Ex->Fn->Heap->Prop} {ops:Array Oper} {D:List (Nat×ID)} {i:Nat} {os:List Oper} {k k1 k2:List Fr} {c c1 c2:Code} {f:Fn} {H H1:Heap} {v:Value}
variable {d:Tmp} {ty:TypeId} {pos:String} {af:Array Edge} {x y:Operand}
theorem zi(n m:Nat){a b:Code}{v:Bool}(Z:v=true->WK P G K sz c1 k1 f H Q)(T:v=false->WK P G K sz c2 k2 f H Q)(hx:cJ f x= .bool v:=by rfl)(U:bo G x=true:=by rfl)(E:foc n a k=(c1,k1):=by rfl)(N:foc m b k=(c2,k2):=by rfl):WK P G K sz (.cond x a b) k f H Q:=eV n m hx U E N Z T
theorem zd(n m:Nat){a b:Code}{p:Prop}{i:Decidable p}(Z:p->WK P G K sz c1 k1 f H Q)(T: ¬p->WK P G K sz c2 k2 f H Q)(hx:cJ f x= .bool (@decide p i):=by rfl)(U:bo G x=true:=by rfl)(E:foc n a k=(c1,k1):=by rfl)(N:foc m b k=(c2,k2):=by rfl):WK P G K sz (.cond x a b) k f H Q:=eV n m hx U E N (fun h=>Z (of_decide_eq_true h)) fun h=>T (of_decide_eq_false h)
theorem za(v:Value)(h:WO P G K sz ops os k (upd f d v) H Q)(T:cJ f x=v:=by rfl)(N:(Op.assign x).operands.toList.all (bo G)=true:=by rfl)(E:Nat.ble (d+1) sz=true:=by rfl):WO P G K sz ops (⟨some d,.assign x,ty,pos,af,none⟩::os) k f H Q:=wa v T N E h
theorem zm(v:Value)(h:WO P G K sz ops os k (upd f d v) H Q)(T:cJ f x=v:=by rfl)(N:(Op.move x).operands.toList.all (bo G)=true:=by rfl)(E:Nat.ble (d+1) sz=true:=by rfl):WO P G K sz ops (⟨some d,.move x,ty,pos,af,none⟩::os) k f H Q:=wm v T N E h
theorem zfm(v:Value)(h:WF2 P G K sz ops ((i,.v)::D) (i+1) os k (upd f d v) H Q)(T:cJ f x=v:=by rfl)(N:(Op.move x).operands.toList.all (bo G)=true:=by rfl)(E:Nat.ble (d+1) sz=true:=by rfl):WF2 P G K sz ops D i (⟨some d,.move x,ty,pos,af,none⟩::os) k f H Q:=fm v T N E h
theorem zc{args:Array Operand}{E:Array TypeId}{g:FuncId}{fn:Func}{l:List Value}{R:Value->Heap->Prop}(hc:C P G K g l H R)(h: ∀v N,R v N->WO P G K sz ops os k (upd f d v) N Q)(Z:P.funcs[g]?=some fn:=by rfl)(T:(fn.body.isSome&& !(fn.name== "runtime.NumGoroutine"))=true:=by rfl)(hl:dF (cJ f) args.toList=l:=by rfl)(ho:(Op.call ⟨.value (.func g),args,E⟩).operands.toList.all (bo G)=true:=by rfl)(U:Nat.ble (d+1) sz=true:=by rfl):
  WO P G K sz ops (⟨some d,.call ⟨.value (.func g),args,E⟩,ty,pos,af,none⟩::os) k f H Q:=cu (aO Z T hl) ho U hc h
theorem zp{s:TypeId}{b o n:Nat}(E:Nat)(h:WF2 P G K sz ops ((i,.v)::D) (i+1) os k (upd f d (.pointer (some ⟨b,E,none⟩))) H Q)(Z:cJ f x= .pointer (some ⟨b,o,none⟩):=by rfl)(N:iW P s (.pointer (some ⟨b,o,none⟩)) n=some (.pointer (some ⟨b,E,none⟩)):=by rfl)(U:(Op.fieldAddr s x n).operands.toList.all (bo G)=true:=by rfl)(T:Nat.ble (d+1) sz=true:=by rfl):WF2 P G K sz ops D i (⟨some d,.fieldAddr s x n,ty,pos,af,none⟩::os) k f H Q:=bE (ap_fa Z N) U T (did_v V) (i9 _) h
theorem zl{t:TypeId}{b o N:Nat}(j:Nat){cs:List Value}{w:Value}(hc:HC ({H with log:=[]}:Heap).get b o cs)(h:WF2 P G K sz ops ((i,.l b)::D) (i+1) os k (upd f d w) H Q)(E:cJ f x= .pointer (some ⟨b,N,none⟩):=by rfl)(T:eX P t=some false:=by rfl)(Z:N=o+j:=by rfl)(hv:cs[j]?=some w:=by rfl)(ho:(Op.load t x).operands.toList.all (bo G)=true:=by rfl)(U:Nat.ble (d+1) sz=true:=by rfl)(hk:okB ops i (.l b) D=true:=by rfl):WF2 P G K sz ops D i (⟨some d,.load t x,ty,pos,af,none⟩::os) k f H Q:=bE (gB (H:={H with log:=[]}) E T hc Z hv) ho U (jj E) (kb hk) h
theorem zx(α:Type) [Rp α]{t e:TypeId}{ki:IntKind}{F:Fz}{l:List α}(j:Nat)(hs:Sv F ({H with log:=[]}:Heap).get v l)(h:WF2 P G K sz ops ((i,.v)::D) (i+1) os k (upd f d (.pointer (some ⟨sB v,sO v+j *Rp.sz α,none⟩))) H Q)(N:(j:Int)<l.length:=by first|(dsimp only;omega)|omega)(Z:cJ f x=v:=by rfl)(hi:cJ f y= .int ki (j:Int):=by rfl)(U:P.underlying t=some (.slice e):=by rfl)(hz:cZ P e=some (Rp.sz α):=by rfl)(T:(Op.indexAddr t x y).operands.toList.all (bo G)=true:=by rfl)(E:Nat.ble (d+1) sz=true:=by rfl):
  WF2 P G K sz ops D i (⟨some d,.indexAddr t x y,ty,pos,af,none⟩::os) k f H Q:=bE (ap_idxV (H:={H with log:=[]}) Z hi U hz hs M N) T E (did_v rfl) (i9 _) h
theorem zy(α:Type) [Rp α]{t e:TypeId}{ki:IntKind}{F:Fz}{l:List α}(j:Int)(hs:Sv F ({H with log:=[]}:Heap).get v l)(h:WF2 P G K sz ops ((i,.v)::D) (i+1) os k (upd f d (.pointer (some ⟨sB v,sO v+j.toNat *Rp.sz α,none⟩))) H Q)(E:0<=j:=by first|(dsimp only;omega)|omega)(T:j<l.length:=by first|(dsimp only;omega)|omega)(hx:cJ f x=v:=by rfl)(hi:cJ f y= .int ki j:=by rfl)(Z:P.underlying t=some (.slice e):=by rfl)(hz:cZ P e=some (Rp.sz α):=by rfl)(U:(Op.indexAddr t x y).operands.toList.all (bo G)=true:=by rfl)(N:Nat.ble (d+1) sz=true:=by rfl):
  WF2 P G K sz ops D i (⟨some d,.indexAddr t x y,ty,pos,af,none⟩::os) k f H Q:=bE (ap_idxV (H:={H with log:=[]}) hx hi Z hz hs E T) U N (did_v rfl) (i9 _) h
end
open Go
class BV(v:Bool)(p q:outParam Prop):Prop where
 t:(v=true)=p
 e:(v=false)=q
instance (priority:=low) {v:Bool}:BV v (v=true) (v=false):=⟨V,V⟩
instance {p:Prop} {i:Decidable p}:BV (@decide p i) p (¬p):=⟨by simp,by simp⟩
instance {a b:Int}:BV (a==b) (a=b) (a≠b):=⟨by simp,by simp⟩
instance {a b:Int}:BV (a !=b) (a≠b) (a=b):=⟨by simp,by simp⟩
instance {a:Bool} {p q:Prop} [h:BV a p q]:BV (!a) q p:=⟨by rw[←h.e];simp,by rw[←h.t];simp⟩
instance {a b:Bool} {p q r s:Prop} [h:BV a p q] [k:BV b r s]:BV (a&&b) (p/\r) (p->s):=⟨by rw[←h.t,←k.t];simp,by rw[←h.t,←k.e];simp⟩
instance {a b:Bool} {p q r s:Prop} [h:BV a p q] [k:BV b r s]:BV (a||b) (p\/r) (q/\s):=⟨by rw[←h.t,←k.t];simp,by rw[←h.e,←k.e];simp⟩
section
variable {P:Program} {G:Nat} {K:bJ} {sz:Nat} {Q:Ex->Fn->Heap->Prop} {k k1 k2:List Fr} {c1 c2:Code} {f:Fn} {H:Heap} {v:Bool} {x:Operand}
theorem zI(n m:Nat){a b:Code}{p q:Prop} [i:BV v p q](Z:p->WK P G K sz c1 k1 f H Q)(T:q->WK P G K sz c2 k2 f H Q)(hx:cJ f x= .bool v:=by rfl)(U:bo G x=true:=by rfl)(E:foc n a k=(c1,k1):=by rfl)(N:foc m b k=(c2,k2):=by rfl):WK P G K sz (.cond x a b) k f H Q:=eV n m hx U E N (fun h=>Z (i.t▸h)) fun h=>T (i.e▸h)
end
end Go.R
noncomputable section
set_option linter.unusedVariables false
namespace Go.R
def ownAt(L:List Fp)(q:Nat):Option (Nat×List Value):=match nth L q with
 |some [(b,.cells cs none false)]=>some (b,cs)
 |_=>none
theorem nA{L:List Fp}{q b:Nat}{cs:List Value}(h:ownAt L q=some (b,cs)):L[q]?=some [(b,.cells cs none false)]:=by
 unfold ownAt at h;split at h
 ·rename_i E;simp only[a00,a04]at h;obtain⟨rfl,rfl⟩:=h;rw[←ga];exact E
 cases h
def WN:FW:=⟨fun _ _ _=>False,fun _ _ _=>False,fun _ _ _ _ _=>False,fun _ _ _ _ _=>False⟩
theorem okN{P:Program}{G0:Nat}{K:bJ}{d_:Heap->Prop}:WN.OK P G0 K d_:=⟨fun h=>h.elim,fun h=>h.elim,fun h=>h.elim,fun h=>h.elim⟩
def ldR(P:Program)(t:TypeId)(cs:List Value)(o:Nat):Option Value:=match eX P t with
 |some false=>nth cs o
 |some true=>match cZ P t with
  |some n=>bif Nat.ble (o+n) (eB cs) then fcM (dU (dY cs o) n) fun l=>some (.agg ⟨l⟩) else none
  |none=>none
 |none=>none
def stR(P:Program)(L:List Fp)(q b:Nat)(cs:List Value)(t:TypeId)(o:Nat)(v:Value):Option (List Fp):=match cZ P t with
 |some n=>fcV v fun v=>fcM v.cells.toList fun cl=>bif Nat.beq (eB cl) n&&(Nat.ble (o+eB cl) (eB cs)&&mU Value.oneCell' cl) then
   fcL (bc cs o cl) fun E=>fcL (L.set q [(b,.cells E none false)]) some
  else none
 |none=>none
def sgL(P:Program)(G0:Nat)(W:FW)(sz:Nat)(ops:Array Oper)(f:Fn)(hs:List (Nat×Hint)):Nat->List Oper->SS->List Fp->Option (SS×List Fp×Prop)
 |_,[],S,L=>some (S,L,True)
 |i,o::os,S,L=>match hintAt hs i with
  | .r q=>match ownAt L q,o.guard,o.op.operands.toList.all (bo G0)&&o.op.operands.toList.all (S.can []) with
   |some (b,cs),none,true=>match o.dst,o.op with
    |some d,.load t a=>match S.rd f a with
     | .pointer (some ⟨b',o',none⟩)=>match ldR P t cs o' with
      |some v=>bif Nat.ble (d+1) sz then match putS none [] S.G S.m d v with
        |some (S1,_)=>match sgL P G0 W sz ops f hs (i+1) os S1 L with
         |some (S2,L2,p)=>some (S2,L2,b'=b/\p)
         |none=>none
        |none=>none else none
      |none=>none
     |_=>none
    |none,.store t a x=>match S.rd f a with
     | .pointer (some ⟨b',o',none⟩)=>match stR P L q b cs t o' (S.rd f x) with
      |some L1=>match sgL P G0 WN sz ops f hs (i+1) os S L1 with
       |some (S2,L2,p)=>some (S2,L2,b'=b/\p)
       |none=>none
      |none=>none
     |_=>none
    |_,_=>none
   |_,_,_=>none
  |h=>match stepS P G0 W sz ops f S h o with
   |some (S1,q)=>match sgL P G0 W sz ops f hs (i+1) os S1 L with
    |some (S2,L2,p)=>some (S2,L2,andO q p)
    |none=>none
   |none=>none
section
variable {P:Program} {G0:Nat} {K:bJ} {sz:Nat} {Q:Ex->Fn->Heap->Prop} {ops:Array Oper} {os:List Oper} {k:List Fr} {f fr:Fn} {H:Heap} {S:SS} {B:Base} {F:Fz} {L R:List Fp}
theorem ldR_ok{t:TypeId}{cs:List Value}{o b:Nat}{v:Value}{a:Operand}{ρ:Operand->Value}{d:Option Tmp}{ty:TypeId}{pos:String}{af:Array Edge}{gd:Option (Nat×Bool)}(hc:HC H.get b 0 cs)(T:ρ a= .pointer (some ⟨b,o,none⟩))(h:ldR P t cs o=some v):AP P ρ ⟨d,.load t a,ty,pos,af,gd⟩ H (.val v,H):=by
 unfold ldR at h;split at h
 ·rename_i E;exact gB (i:=o) T E hc (a1g _).symm (by rw[←ga];exact h)
 ·rename_i E;split at h
  ·rename_i n U;cases N:Nat.ble (o+n) (eB cs) with
   |false=>rw[N]at h;cases h
   |true=>
    rw[N]at h
    simp only[cond_true,fcM_eq,a00]at h
    subst h
    exact mT (i:=o) T E U hc (a1g _).symm (by rw[←bA];exact N) V
  cases h
 cases h
theorem stR_ok{q b o:Nat}{cs:List Value}{t:TypeId}{v:Value}{N:List Fp}{a x:Operand}{ρ:Operand->Value}{d:Option Tmp}{ty:TypeId}{pos:String}{af:Array Edge}{gd:Option (Nat×Bool)}(hs:HS B F H L R)(Z:L[q]?=some [(b,.cells cs none false)])(T:ρ a= .pointer (some ⟨b,o,none⟩))(hx:ρ x=v)(h:stR P L q b cs t o v=some N):
  ∃r:Rs,AP P ρ ⟨d,.store t a x,ty,pos,af,gd⟩ H (.skip,r.H)/\(HS B F r.H N R/\Wr H r.H [b]):=by
 unfold stR at h
 split at h
 ·rename_i n U;simp only[fcV_eq,fcM_eq,mE]at h;cases E:(Nat.beq (eB v.cells.toList) n&&(Nat.ble (o+eB v.cells.toList) (eB cs)&&mU Value.oneCell' v.cells.toList)) with
  |false=>rw[E]at h;cases h
  |true=>
   rw[E]at h
   simp only[cond_true,a00]at h
   subst h
   simp only[a09,bA]at E
   exact rs_rec hs Z T hx U V E.1 E.2.1 E.2.2 (by rw[mE])
 cases h
theorem iq{a:Operand}(E:S.Rel f fr)(h:S.can [] a=true):cJ fr a=S.rd f a:=rd_ok (c:=[]) E V h
theorem kL{hs:List (Nat×Hint)}: ∀{a:List Oper} {i:Nat} {W:FW} {S S':SS} {L L':List Fp} {p:Prop} {fr:Fn} {H:Heap},W.OK P G0 K (· =H)->sgL P G0 W sz ops f hs i a S L=some (S',L',p)->p->S.Rel f fr->HS B F H L R->
  (∀E H',HS B F H' L' R->(a.all (fun o=>o.dst.isSome)=true->H'=H)->S'.Rel f E->WO P G0 K sz ops os k E H' Q)->WO P G0 K sz ops (a++os) k fr H Q
 | [],i,W,S,S',L,L',p,fr,H,hW,h,_,hr,hh,hk=>by simp only[sgL,a00,a04]at h;obtain⟨rfl,rfl,_⟩:=h;exact hk fr H hh (fun _=>rfl) hr
 |o::a,i,W,S,S',L,L',p,fr,H,hW,h,N,hr,hh,hk=>by
  unfold sgL at h;split at h
  ·rename_i q _;split at h
   ·rename_i b cs ho hg hc;rw[a09]at hc;have hq:=nA ho;obtain⟨bk,op,ty,pos,af,gd⟩:=o;simp only at hg hc h;subst hg;split at h
    ·rename_i d t x;simp only[Op.operands,a0F,a1D,a17]at hc;split at h
     ·rename_i b' o' e1;split at h
      ·rename_i v e2;cases hb:Nat.ble (d+1) sz with
       |false=>rw[hb]at h;cases h
       |true=>
        rw[hb]at h
        simp only[cond_true]at h
        split at h
        ·rename_i S1 q1 e3;split at h
         ·rename_i S2 L2 p2 e4;simp only[a00,a04]at h;obtain⟨rfl,rfl,rfl⟩:=h;obtain⟨rfl,N⟩:=N;have h1:=(kP (m:=S.m) (G:=S.G) hr (c:=[]) (fun _ _ hm=>(a0k hm).elim) e3).1;exact cP (ldR_ok (HS.hc hh hq) (by rw[iq hr hc.2];exact e1) e2) (by simp only[Op.operands,a0F,a1D,a17];exact hc.1) hb (kL hW e4 N h1 hh fun E H' U a2 Z=>hk E H' U (fun T=>a2 (by simpa using T)) Z)
         cases h
        cases h
      cases h
     cases h
    ·rename_i t x y;simp only[Op.operands,a0F,a1D,a17,a09]at hc;split at h
     ·rename_i b' o' e1;split at h
      ·rename_i L1 e2;split at h
       ·rename_i S2 L2 p2 e4;simp only[a00,a04]at h;obtain⟨rfl,rfl,rfl⟩:=h;obtain⟨rfl,N⟩:=N;refine gf (stR_ok hh hq (by rw[iq hr hc.2.1];exact e1) (iq hr hc.2.2) e2) (by simp only[Op.operands,a0F,a1D,a17,a09];exact hc.1) ?_;rintro _ H1 _ ⟨h5,_⟩;exact kL okN e4 N hr h5 fun E H' U a2 Z=>hk E H' U (fun T=>by simp at T) Z
       cases h
      cases h
     cases h
    cases h
   cases h
  split at h
  ·rename_i S1 q h1;split at h
   ·rename_i S2 L2 p2 h2;simp only[a00,a04]at h;obtain⟨rfl,rfl,rfl⟩:=h;obtain⟨hq,ay⟩:=fh N;obtain⟨d,c,G1,v,e1,e2,e3,e4,e5,e6⟩:=gG hW hr h1 hq;exact wo_do (d_:=(· =H)) e1 e2 e3 (fJ hr e4) e5 V fun H' aw=>by subst aw;exact kL hW h2 ay e6 hh fun E H' U a2 Z=>hk E H' U (fun T=>a2 (by simp only[a0F,a09]at T;exact T.2)) Z
   cases h
  cases h
def sdL(P:Program)(G0:Nat)(W:FW)(sz:Nat)(ops:Array Oper)(f:Fn)(hs:List (Nat×Hint)):Nat->List Oper->SS->List Fp->List (Nat×ID)->Option (SS×List Fp×List (Nat×ID)×Prop)
 |_,[],S,L,D=>some (S,L,D,True)
 |i,o::os,S,L,D=>match hintAt hs i with
  | .r q=>match ownAt L q,o.guard,o.op.operands.toList.all (bo G0)&&o.op.operands.toList.all (S.can []) with
   |some (b,cs),none,true=>match o.dst,o.op with
    |some d,.load t a=>match S.rd f a with
     | .pointer (some ⟨b',o',none⟩)=>match ldR P t cs o' with
      |some v=>bif Nat.ble (d+1) sz&&okB ops i (.l b') D then match putS none [] S.G S.m d v with
        |some (S1,_)=>match sdL P G0 W sz ops f hs (i+1) os S1 L ((i,.l b')::D) with
         |some (S2,L2,D2,p)=>some (S2,L2,D2,b'=b/\p)
         |none=>none
        |none=>none else none
      |none=>none
     |_=>none
    |none,.store t a x=>match S.rd f a with
     | .pointer (some ⟨b',o',none⟩)=>match stR P L q b cs t o' (S.rd f x),okB ops i (.x [b']) D with
      |some L1,true=>match sdL P G0 WN sz ops f hs (i+1) os S L1 ((i,.x [b'])::D) with
       |some (S2,L2,D2,p)=>some (S2,L2,D2,b'=b/\p)
       |none=>none
      |_,_=>none
     |_=>none
    |_,_=>none
   |_,_,_=>none
  |h=>match stepS P G0 W sz ops f S h o with
   |some (S1,q)=>bif aT o.op then match sdL P G0 W sz ops f hs (i+1) os S1 L ((i,.v)::D) with
     |some (S2,L2,D2,p)=>some (S2,L2,D2,andO q p)
     |none=>none
    else bif D.all (fun e=>bnD e.2) then match sdL P G0 W sz ops f hs (i+1) os S1 L ((i,.r)::D) with
     |some (S2,L2,D2,p)=>some (S2,L2,D2,andO q p)
     |none=>none
    else none
   |none=>none
theorem wf_doV{D:List (Nat×ID)}{i d:Nat}{o:Oper}{c:Ch}{N:List (Nat×Bool)}{v:Value}(Z:aT o.op=true)(hd:o.dst=some d)(T:Nat.ble (d+1) sz=true)(ho:o.op.operands.toList.all (bo G0)=true)(U:GOK ops f fr S o.guard c N)
  (hp:act N c=true->PRes P G0 K (· ={H with log:=[]}) (cJ fr) ⟨some d,o.op,o.type,o.pos,o.after,none⟩ {H with log:=[]} v) (h:WF2 P G0 K sz ops ((i,.v)::D) (i+1) os k (upd fr d (bif act N c then v else undef)) H Q):WF2 P G0 K sz ops D i (o::os) k fr H Q:=by
 obtain⟨ai,op,ty,pos,af,gd⟩:=o
 simp only at Z hd ho U hp
 subst hd
 cases E:act N c with
 |true=>
  rw[E]at h
  have base:WF2 P G0 K sz ops D i (⟨some d,op,ty,pos,af,none⟩::os) k fr H Q:=by
   cases hp E with
   |val hv'=>exact bE (id:= .v) hv' ho T (did_v Z) (i9 _) h
   |call g args he hk hc=>
    exfalso
    cases op<;>first|(cases hk;done)|(cases Z;done)
  cases gd with
  |none=>exact base
  |some jw=>exact wf_gt (U.on E) V base
 |false=>
  rw[E]at h
  have:=U.off E
  cases gd with
  |none=>exact absurd this id
  |some jw=>
   rcases this with h1|h1
   ·exact wf_gn h1 T h
   exact wf_gf h1 V T h
theorem jy{hs:List (Nat×Hint)}: ∀{a:List Oper} {i:Nat} {W:FW} {S S':SS} {L L':List Fp} {D D':List (Nat×ID)} {p:Prop} {fr:Fn} {H:Heap},W.OK P G0 K (· ={H with log:=[]})->sdL P G0 W sz ops f hs i a S L D=some (S',L',D',p)->p->S.Rel f fr->HS B F H L R->
  (∀E H',HS B F H' L' R->(a.all (fun o=>o.dst.isSome)=true->H'=H)->S'.Rel f E->WF2 P G0 K sz ops D' (i+a.length) os k E H' Q)->WF2 P G0 K sz ops D i (a++os) k fr H Q
 | [],i,W,S,S',L,L',D,D',p,fr,H,hW,h,_,hr,hh,hk=>by simp only[sdL,a00,a04]at h;obtain⟨rfl,rfl,rfl,_⟩:=h;exact hk fr H hh (fun _=>rfl) hr
 |o::a,i,W,S,S',L,L',D,D',p,fr,H,hW,h,T,hr,hh,hk=>by
  rw[a05,show i+(a.length+1)=i+1+a.length by omega]at hk;unfold sdL at h;split at h
  ·rename_i q _;split at h
   ·rename_i b cs ho hg hc;rw[a09]at hc;have hq:=nA ho;obtain⟨b0,op,ty,pos,af,gd⟩:=o;simp only at hg hc h;subst hg;split at h
    ·rename_i d t x;simp only[Op.operands,a0F,a1D,a17]at hc;split at h
     ·rename_i b' o' e1;split at h
      ·rename_i v e2;cases hb:(Nat.ble (d+1) sz&&okB ops i (.l b') D) with
       |false=>rw[hb]at h;cases h
       |true=>
        rw[hb]at h
        rw[a09]at hb
        simp only[cond_true]at h
        split at h
        ·rename_i S1 q1 e3;split at h
         ·rename_i S2 L2 D2 p2 e4;simp only[a00,a04]at h;obtain⟨rfl,rfl,rfl,rfl⟩:=h;obtain⟨rfl,T⟩:=T;have h1:=(kP (m:=S.m) (G:=S.G) hr (c:=[]) (fun _ _ hm=>(a0k hm).elim) e3).1;have e5:cJ fr x= .pointer (some ⟨b',o',none⟩):=by rw[iq hr hc.2];exact e1
          exact bE (id:= .l b') (ldR_ok (HS.hc hh.log0 hq) e5 e2) (by simp only[Op.operands,a0F,a1D,a17];exact hc.1) hb.1 (jj e5) (kb hb.2) (jy hW e4 T h1 hh fun E H' U a2 Z=>hk E H' U (fun N=>a2 (by simpa using N)) Z)
         cases h
        cases h
      cases h
     cases h
    ·rename_i t x y;simp only[Op.operands,a0F,a1D,a17,a09]at hc;split at h
     ·rename_i b' o' e1;split at h
      ·rename_i L1 e2 e3;split at h
       ·rename_i S2 L2 D2 p2 e4;simp only[a00,a04]at h;obtain⟨rfl,rfl,rfl,rfl⟩:=h;obtain⟨rfl,T⟩:=T;refine gP (id:= .x [b']) (stR_ok hh.log0 hq (by rw[iq hr hc.2.1];exact e1) (iq hr hc.2.2) e2) (by simp only[Op.operands,a0F,a1D,a17,a09];exact hc.1) ?_ (kb e3) ?_
        ·rintro _ H1 _ ⟨_,hwr⟩;exact dC V V (Wr.did hwr)
        rintro _ H1 _ ⟨h5,_⟩ l hl;exact jy okN e4 T hr (HS.lg h5 hh hl) fun E H' U a2 Z=>hk E H' U (fun N=>by simp at N) Z
       cases h
      cases h
     cases h
    cases h
   cases h
  split at h
  ·rename_i S1 q h1;cases hv:aT o.op with
   |true=>
    rw[hv]at h
    simp only[cond_true]at h
    split at h
    ·rename_i S2 L2 D2 p2 h2;simp only[a00,a04]at h;obtain⟨rfl,rfl,rfl,rfl⟩:=h;obtain⟨hq,ar⟩:=fh T;obtain⟨d,c,G1,v,e1,e2,e3,e4,e5,e6⟩:=gG hW hr h1 hq;exact wf_doV hv e1 e2 e3 (fJ hr e4) (fun N=>e5 N _ V) (jy hW h2 ar e6 hh fun E H' U a2 Z=>hk E H' U (fun N=>a2 (by simp only[a0F,a09]at N;exact N.2)) Z)
    cases h
   |false=>
    rw[hv]at h
    simp only[cond_false]at h
    cases hD:D.all (fun e=>bnD e.2) with
    |false=>rw[hD]at h;cases h
    |true=>
     rw[hD]at h
     simp only[cond_true]at h
     split at h
     ·rename_i S2 L2 D2 p2 h2;simp only[a00,a04]at h;obtain⟨rfl,rfl,rfl,rfl⟩:=h;obtain⟨hq,ar⟩:=fh T;obtain⟨d,c,G1,v,e1,e2,e3,e4,e5,e6⟩:=gG hW hr h1 hq;exact wf_do hD e1 e2 e3 (fJ hr e4) (fun N=>e5 N _ V) (jy hW h2 ar e6 hh fun E H' U a2 Z=>hk E H' U (fun N=>a2 (by simp only[a0F,a09]at N;exact N.2)) Z)
     cases h
  cases h
theorem Hr_(i q:Nat){b:Nat}{hs:List (Nat×Hint)}{p:Prop}(r:HP hs p):HP ((i,.r q)::hs) (b=b/\p):=⟨V,r⟩
def sgE(lo hi:Nat)(ex E:List Nat)(r:Option (SS×List Fp×Prop)):Option (List (Nat×Value)×List Fp×Prop):=match r with
 |none=>none
 |some (S,L,p)=>bif S.m.all (fun e=>inR lo hi ex e.1) then
   match fins S.m E with
   |some l=>some (l,L,p)
   |none=>none
  else none
def sdE(lo hi:Nat)(ex E:List Nat)(r:Option (SS×List Fp×List (Nat×ID)×Prop)):Option (List (Nat×Value)×List Fp×List (Nat×ID)×Prop):=match r with
 |none=>none
 |some (S,L,D,p)=>bif S.m.all (fun e=>inR lo hi ex e.1) then
   match fins S.m E with
   |some l=>some (l,L,D,p)
   |none=>none
  else none
theorem sgE_ok{lo hi:Nat}{ex U:List Nat}{r:Option (SS×List Fp×Prop)}{l:List (Nat×Value)}{N:List Fp}{p:Prop}(h:sgE lo hi ex U r=some (l,N,p)): ∃S,r=some (S,N,p)/\∀fr,S.Rel f fr->∃g,fr=gQ (hav lo hi ex g f) l:=by
 unfold sgE at h;split at h
 ·cases h
 rename_i S L1 p1;cases E:S.m.all (fun e=>inR lo hi ex e.1) with
 |false=>rw[E]at h;cases h
 |true=>
  rw[E]at h
  simp only[cond_true]at h
  split at h
  ·rename_i l' Z;simp only[a00,a04]at h;obtain⟨rfl,rfl,rfl⟩:=h;refine⟨S,V,fun fr T=>⟨fr,?_⟩⟩;rw[←(i7 T E).eq,e9 (nG T Z)]
  cases h
theorem sdE_ok{lo hi:Nat}{ex Z:List Nat}{r:Option (SS×List Fp×List (Nat×ID)×Prop)}{l:List (Nat×Value)}{T:List Fp}{N:List (Nat×ID)}{p:Prop}(h:sdE lo hi ex Z r=some (l,T,N,p)): ∃S,r=some (S,T,N,p)/\∀fr,S.Rel f fr->∃g,fr=gQ (hav lo hi ex g f) l:=by
 unfold sdE at h;split at h
 ·cases h
 rename_i S L1 D1 p1;cases E:S.m.all (fun e=>inR lo hi ex e.1) with
 |false=>rw[E]at h;cases h
 |true=>
  rw[E]at h
  simp only[cond_true]at h
  split at h
  ·rename_i l' h2;simp only[a00,a04]at h;obtain⟨rfl,rfl,rfl,rfl⟩:=h;refine⟨S,V,fun fr U=>⟨fr,?_⟩⟩;rw[←(i7 U E).eq,e9 (nG U h2)]
  cases h
variable {c1:Code} {k1:List Fr}
theorem sgo(n i:Nat){E:List Oper}{hs:List (Nat×Hint)}(lo hi:Nat)(ex:List Nat)(l:List (Nat×Value)){N:List Fp}{p:Prop}(hp:HP hs p)(hh:HS B F H L R)(h:sgE lo hi ex (dF Prod.fst l) (sgL P G0 (W0 P G0 K H) sz ops f hs i (dU os n) ⟨[],[]⟩ L)=some (l,N,p))(he:dY os n=E)
  (hk: ∀g H',HS B F H' N R->WO P G0 K sz ops E k (gQ (hav lo hi ex g f) l) H' Q):WO P G0 K sz ops os k f H Q:=by
 subst he
 obtain⟨S,U,Z⟩:=sgE_ok (f:=f) h
 have:=kL (os:=dY os n) (k:=k) (Q:=Q) ok0 U hp rel0 hh (fun fr H' T _ hr=>by obtain⟨g,rfl⟩:=Z fr hr;exact hk g H' T)
 rwa [bS,bU,a13]at this
theorem sgr(n:Nat){id:Nat}{hs:List (Nat×Hint)}(lo hi:Nat)(ex:List Nat)(l:List (Nat×Value)){E:List Fp}{p:Prop}(hp:HP hs p)(hh:HS B F H L R)(h:sgE lo hi ex (dF Prod.fst l) (sgL P G0 (W0 P G0 K H) sz ops f hs 0 ops.toList ⟨[],[]⟩ L)=some (l,E,p))(Z:foc n .skip k=(c1,k1))
  (hk: ∀g H',HS B F H' E R->WK P G0 K sz c1 k1 (gQ (hav lo hi ex g f) l) H' Q):WK P G0 K sz (.region id ops false) k f H Q:=by
 obtain⟨S,T,U⟩:=sgE_ok (f:=f) h
 refine ab ?_
 have:=kL (os:=[]) (k:=k) (Q:=Q) ok0 T hp rel0 hh (fun fr H' N _ hr=>by obtain⟨g,rfl⟩:=U fr hr;exact iy (am n Z (hk g H' N)))
 rwa [a0o]at this
theorem sdo(n:Nat){i i':Nat}{E:List Oper}{hs:List (Nat×Hint)}(lo hi:Nat)(ex:List Nat)(l:List (Nat×Value)){T:List Fp}{D N:List (Nat×ID)}{p:Prop}(hp:HP hs p)(hh:HS B F H L R)(h:sdE lo hi ex (dF Prod.fst l) (sdL P G0 (W0 P G0 K {H with log:=[]}) sz ops f hs i (dU os n) ⟨[],[]⟩ L D)=some (l,T,N,p))(U:(dY os n,i+(dU os n).length)=(E,i'))
  (hk: ∀g H',HS B F H' T R->WF2 P G0 K sz ops N i' E k (gQ (hav lo hi ex g f) l) H' Q):WF2 P G0 K sz ops D i os k f H Q:=by
 simp only[a04]at U
 obtain⟨rfl,rfl⟩:=U
 obtain⟨S,h1,h2⟩:=sdE_ok (f:=f) h
 have:=jy (os:=dY os n) (k:=k) (Q:=Q) ok0 h1 hp rel0 hh (fun fr H' Z _ hr=>by obtain⟨g,rfl⟩:=h2 fr hr;exact hk g H' Z)
 rwa [bS,bU,a13]at this
theorem sdr(n:Nat){id:Nat}{hs:List (Nat×Hint)}(lo hi:Nat)(ex:List Nat)(l:List (Nat×Value)){N:List Fp}{U:List (Nat×ID)}{p:Prop}(hp:HP hs p)(hh:HS B F H L R)(E:(bh ops&&P.follows .mixedOrders)=true)(h:sdE lo hi ex (dF Prod.fst l) (sdL P G0 (W0 P G0 K {H with log:=[]}) sz ops f hs 0 ops.toList ⟨[],[]⟩ L [])=some (l,N,U,p))(hf:foc n .skip k=(c1,k1))
  (hk: ∀g H',HS B F H' N R->WK P G0 K sz c1 k1 (gQ (hav lo hi ex g f) l) H' Q):WK P G0 K sz (.region id ops true) k f H Q:=by
 obtain⟨S,Z,h2⟩:=sdE_ok (f:=f) h
 refine aL E ?_
 have:=jy (os:=[]) (k:=k) (Q:=Q) ok0 Z hp rel0 hh (fun fr H' T _ E=>by obtain⟨g,rfl⟩:=h2 fr E;exact gS (am n hf (hk g H' T)))
 rwa [a0o]at this
theorem aY(n i:Nat){N:List Oper}{hs:List (Nat×Hint)}(lo hi:Nat)(ex:List Nat)(l:List (Nat×Value)){T:List Fp}{p:Prop}(hp:HP hs p)(hh:HS B F H L R)(h:sgE lo hi ex (dF Prod.fst l) (sgL P G0 (W0 P G0 K H) sz ops f hs i (dU os n) ⟨[],[]⟩ L)=some (l,T,p))(E:(dY os n,(dU os n).all (fun o=>o.dst.isSome))=(N,true))
  (hk: ∀g,WO P G0 K sz ops N k (gQ (hav lo hi ex g f) l) H Q):WO P G0 K sz ops os k f H Q:=by
 simp only[a04]at E
 obtain⟨rfl,E⟩:=E
 obtain⟨S,U,Z⟩:=sgE_ok (f:=f) h
 have:=kL (os:=dY os n) (k:=k) (Q:=Q) ok0 U hp rel0 hh (fun fr H' al e hr=>by obtain⟨g,rfl⟩:=Z fr hr;rw[e E];exact hk g)
 rwa [bS,bU,a13]at this
theorem aU(n:Nat){id:Nat}{hs:List (Nat×Hint)}(lo hi:Nat)(ex:List Nat)(l:List (Nat×Value)){N:List Fp}{p:Prop}(hp:HP hs p)(Z:HS B F H L R)(h:sgE lo hi ex (dF Prod.fst l) (sgL P G0 (W0 P G0 K H) sz ops f hs 0 ops.toList ⟨[],[]⟩ L)=some (l,N,p))(E:(foc n .skip k,ops.toList.all (fun o=>o.dst.isSome))=((c1,k1),true))
  (hk: ∀g,WK P G0 K sz c1 k1 (gQ (hav lo hi ex g f) l) H Q):WK P G0 K sz (.region id ops false) k f H Q:=by
 rw[a04]at E
 obtain⟨S,T,U⟩:=sgE_ok (f:=f) h
 refine ab ?_
 have:=kL (os:=[]) (k:=k) (Q:=Q) ok0 T hp rel0 Z (fun fr H' ai e hr=>by obtain⟨g,rfl⟩:=U fr hr;rw[e E.2];exact iy (am n E.1 (hk g)))
 rwa [a0o]at this
theorem eO(n:Nat){i i':Nat}{N:List Oper}{hs:List (Nat×Hint)}(lo hi:Nat)(ex:List Nat)(l:List (Nat×Value)){U:List Fp}{D T:List (Nat×ID)}{p:Prop}(hp:HP hs p)(hh:HS B F H L R)(h:sdE lo hi ex (dF Prod.fst l) (sdL P G0 (W0 P G0 K {H with log:=[]}) sz ops f hs i (dU os n) ⟨[],[]⟩ L D)=some (l,U,T,p))(E:(dY os n,i+(dU os n).length,(dU os n).all (fun o=>o.dst.isSome))=(N,i',true))
  (hk: ∀g,WF2 P G0 K sz ops T i' N k (gQ (hav lo hi ex g f) l) H Q):WF2 P G0 K sz ops D i os k f H Q:=by
 simp only[a04]at E
 obtain⟨rfl,rfl,E⟩:=E
 obtain⟨S,Z,h2⟩:=sdE_ok (f:=f) h
 have:=jy (os:=dY os n) (k:=k) (Q:=Q) ok0 Z hp rel0 hh (fun fr H' an e hr=>by obtain⟨g,rfl⟩:=h2 fr hr;rw[e E];exact hk g)
 rwa [bS,bU,a13]at this
theorem sdr0(n:Nat){id:Nat}{hs:List (Nat×Hint)}(lo hi:Nat)(ex:List Nat)(l:List (Nat×Value)){U:List Fp}{T:List (Nat×ID)}{p:Prop}(hp:HP hs p)(hh:HS B F H L R)(N:(bh ops&&P.follows .mixedOrders)=true)(h:sdE lo hi ex (dF Prod.fst l) (sdL P G0 (W0 P G0 K {H with log:=[]}) sz ops f hs 0 ops.toList ⟨[],[]⟩ L [])=some (l,U,T,p))(E:(foc n .skip k,ops.toList.all (fun o=>o.dst.isSome))=((c1,k1),true))
  (hk: ∀g,WK P G0 K sz c1 k1 (gQ (hav lo hi ex g f) l) H Q):WK P G0 K sz (.region id ops true) k f H Q:=by
 rw[a04]at E
 obtain⟨S,Z,h2⟩:=sdE_ok (f:=f) h
 refine aL N ?_
 have:=jy (os:=[]) (k:=k) (Q:=Q) ok0 Z hp rel0 hh (fun fr H' al e N=>by obtain⟨g,rfl⟩:=h2 fr N;rw[e E.2];exact gS (am n E.1 (hk g)))
 rwa [a0o]at this
theorem wcD{D:List (Nat×ID)}{i j:Nat}{d:Tmp}{ty:TypeId}{pos:String}{af:Array Edge}{args:Array Operand}{U:Array TypeId}{g:FuncId}{fn:Func}{al:List Value}{T:Value->Heap->Prop}{q:Fp}(W:List Nat)(hh:HS B F H L R)(hq:L[j]?=some q)(hw:q.map Prod.fst=W)(hc:C P G0 K g al {H with log:=[]} T)
  (E:(P.funcs[g]?,dF (cJ f) args.toList,Nat.ble (d+1) sz,(Op.call ⟨.value (.func g),args,U⟩).operands.toList.all (bo G0))=(some fn,al,true,true)) (Z:(fn.body.isSome&& !(fn.name== "runtime.NumGoroutine"))=true) (ao:okD ops i (.x W) D)
  (h: ∀v N,T v N->∃F' q' b_,HS (.of {H with log:=[]} W) F' N (q'::b_) (L.set j []++R)/\∀H3,HS B F' H3 (L.set j q'++b_) R->WF2 P G0 K sz ops ((i,.x W)::D) (i+1) os k (upd f d v) H3 Q):
  WF2 P G0 K sz ops D i (⟨some d,.call ⟨.value (.func g),args,U⟩,ty,pos,af,none⟩::os) k f H Q:=by
 subst hw
 simp only[a04]at E
 refine ba (W:=q.map Prod.fst) (aO E.1 Z E.2.1) E.2.2.2 E.2.2.1 V hc ao ?_
 intro v N hT
 obtain⟨F',q',b_,h1,h2⟩:=h v N hT
 refine⟨HS.didW h1,fun l hl=>h2 _ ?_⟩
 exact HS.lg (HS.backOwn hh.log0 hq V (fun _ Z=>Z) h1) hh hl
theorem HS.bO{W:List Nat}{p q:Fp}{b_:List Fp}{i:Nat}{F':Fz}{E H':Heap}(h:HS B F H L R)(k:HS (.of E W) F' H' (q::b_) (L.set i []++R))(hi:L[i]?=some p:=by rfl)(N:E=H:=by rfl)(T: ∀b,b∈W->b∈p.map Prod.fst:=by exact fun _ h=>h):HS B F' H' (L.set i q++b_) R:=by exact HS.backOwn h hi N T k
theorem zn{e:TypeId}{d:Tmp}{ty:TypeId}{pos:String}{af:Array Edge}{z:List Value}(N:HS B F H L R)(E:(cy P e,Nat.ble (d+1) sz)=(some z,true))(T: ∀b H1,HS B F H1 (L++[[(b,.cells z none false)]]) R->WO P G0 K sz ops os k (upd f d (.pointer (some ⟨b,0,none⟩))) H1 Q):WO P G0 K sz ops (⟨some d,.alloc e,ty,pos,af,none⟩::os) k f H Q:=by simp only[a04]at E;refine bd (rs_new N E.1) V E.2 ?_;rintro _ H1 _ ⟨b,rfl,h1,_⟩;exact T b H1 h1
theorem znD{D:List (Nat×ID)}{i:Nat}{e:TypeId}{d:Tmp}{ty:TypeId}{pos:String}{af:Array Edge}{z:List Value}(N:HS B F H L R)(E:(cy P e,Nat.ble (d+1) sz,okB ops i .a D)=(some z,true,true))(T: ∀b H1,HS B F H1 (L++[[(b,.cells z none false)]]) R->WF2 P G0 K sz ops ((i,.a)::D) (i+1) os k (upd f d (.pointer (some ⟨b,0,none⟩))) H1 Q):WF2 P G0 K sz ops D i (⟨some d,.alloc e,ty,pos,af,none⟩::os) k f H Q:=by simp only[a04]at E;refine fu (id:= .a) (rs_new N.log0 E.1) V E.2.1 (fun _ _ _ _=>did_a V V V) (kb E.2.2) ?_;rintro _ H1 _ ⟨b,rfl,h1,_⟩ l hl;exact T b _ (HS.lg h1 N hl)
def litL(P:Program)(f:Fn)(m:Nat)(t:TypeId)(n:Nat)(E:Array (Nat×Operand)):Option (List Value):=match dV P t with
 |some (s,z)=>bif Nat.beq s m&&Nat.ble (n *s) 16777216 then match fillL (fun i=>some (i *s,s)) (cp n z) (dF (fun p=>(p.1,cJ f p.2)) E.toList) with
   |some cs=>fcM cs some
   |none=>none
  else none
 |none=>none
theorem litL_ok{m:Nat}{t:TypeId}{n:Nat}{E:Array (Nat×Operand)}{cs:List Value}(h:litL P f m t n E=some cs): ∃z,dV P t=some (m,z)/\Nat.ble (n *m) 16777216=true/\Instr.fill (fun i=>some (i *m,m)) ⟨cp n z⟩ (dF (fun p=>(p.1,cJ f p.2)) E.toList)=some ⟨cs⟩:=by
 unfold litL at h;split at h
 ·rename_i s z e;cases N:(Nat.beq s m&&Nat.ble (n *s) 16777216) with
  |false=>rw[N]at h;cases h
  |true=>
   rw[N]at h
   simp only[cond_true]at h
   rw[a09]at N
   have:=a0c N.1
   subst this
   split at h
   ·rename_i U T;rw[fcM_eq,a00]at h;subst h;exact⟨z,e,N.2,nH _ _ _ _ T⟩
   cases h
 cases h
theorem RL.nl{α:Type} [Rp α]:RL F [] ([]:List α):=rfl
theorem RL.cs{α:Type} [Rp α]{x:α}{l:List α}{c r:List Value}(h:Rp.rep F c x)(t:RL F r l):RL F (c++r) (x::l):=⟨c,r,V,h,t⟩
section
variable {α:Type} [Rp α] {d:Tmp} {ty:TypeId} {pos:String} {af:Array Edge} {D:List (Nat×ID)} {i:Nat}
theorem zlo{t:TypeId}{n:Nat}{E:Array (Nat×Operand)}{cells N:List Value}(l:List α)(hh:HS B F H L R)(T:(litL P f (Rp.sz α) t n E,Nat.ble (d+1) sz,(Op.buildSlice t n E).operands.toList.all (bo G0),eB l)=(some cells,true,true,n))(hr:RL F N l)(hc:cells=N)
  (hk: ∀a U p H1,OS F (.slice a l.length U) l p->HS B F H1 (L++[p]) R->WO P G0 K sz ops os k (upd f d (.slice a l.length U)) H1 Q):WO P G0 K sz ops (⟨some d,.buildSlice t n E,ty,pos,af,none⟩::os) k f H Q:=by
 subst hc
 simp only[a04]at T
 obtain⟨z,Z,h2,h3⟩:=litL_ok T.1
 refine bd (rs_lit l hh V Z h2 h3 hr (by rw[←bA];exact T.2.2.2)) T.2.2.1 T.2.1 ?_
 rintro _ H1 p ⟨a,U,rfl,ho,h5,_⟩
 exact hk a U p H1 ho h5
theorem zld{t:TypeId}{n:Nat}{E:Array (Nat×Operand)}{cells N:List Value}(l:List α)(Z:HS B F H L R)(T:(litL P f (Rp.sz α) t n E,Nat.ble (d+1) sz,(Op.buildSlice t n E).operands.toList.all (bo G0),eB l,okB ops i .a D)=(some cells,true,true,n,true))(hr:RL F N l)(hc:cells=N)
  (hk: ∀a U p H1,OS F (.slice a l.length U) l p->HS B F H1 (L++[p]) R->WF2 P G0 K sz ops ((i,.a)::D) (i+1) os k (upd f d (.slice a l.length U)) H1 Q):WF2 P G0 K sz ops D i (⟨some d,.buildSlice t n E,ty,pos,af,none⟩::os) k f H Q:=by
 subst hc
 simp only[a04]at T
 obtain⟨z,h1,h2,h3⟩:=litL_ok T.1
 refine fu (id:= .a) (rs_lit l Z.log0 V h1 h2 h3 hr (by rw[←bA];exact T.2.2.2.1)) T.2.2.1 T.2.1 (fun _ _ _ _=>did_a V V V) (kb T.2.2.2.2) ?_
 rintro _ H1 p ⟨a,U,rfl,ho,h5,_⟩ lg hl
 exact hk a U p _ ho (HS.lg h5 Z hl)
theorem zao{s0 x0:Operand}{st e:TypeId}{v u:Value}{l T:List α}{p:Fp}{ad:Nat}{z:List Value}(q:Nat)(ho:OS F v l p)(hh:HS B F H L R)(hu:Sv F H.get u T)(N:(L[q]?,cJ f s0,cJ f x0,P.underlying st)=(some p,v,u,some (.slice e)))(U:(cZ P e,eN P e,cy P e)=(some (Rp.sz α),some ad,some z))
  (E:(Nat.beq (eB z) (Rp.sz α)&&(Nat.ble ad 4096&&(!Nat.beq (Rp.sz α) 0&&(Nat.ble (d+1) sz&&(Op.call ⟨.builtin .append, #[s0,x0], #[st,st]⟩).operands.toList.all (bo G0)))))=true) (hl:l.length+T.length<=2147483648)
  (hk: ∀a Z p' H1,OS F (.slice a (l++T).length Z) (l++T) p'->HS B F H1 (L.set q p') R->WO P G0 K sz ops os k (upd f d (.slice a (l++T).length Z)) H1 Q):WO P G0 K sz ops (⟨some d,.call ⟨.builtin .append, #[s0,x0], #[st,st]⟩,ty,pos,af,none⟩::os) k f H Q:=by
 simp only[a04]at N U
 simp only[a09,a0G]at E
 refine bd (rs_app ho hh N.1 N.2.1 N.2.2.1 hu N.2.2.2 U.1 U.2.1 U.2.2 E.1 E.2.1 E.2.2.1 hl) E.2.2.2.2 E.2.2.2.1 ?_
 rintro _ H1 p' ⟨a,Z,rfl,h5,h6,_⟩
 exact hk a Z p' H1 h5 h6
theorem zad{s0 x0:Operand}{st e:TypeId}{v u:Value}{l T:List α}{p:Fp}{ad:Nat}{z:List Value}(q:Nat)(ho:OS F v l p)(hh:HS B F H L R)(hu:Sv F H.get u T)(N:(L[q]?,cJ f s0,cJ f x0,P.underlying st)=(some p,v,u,some (.slice e)))(U:(cZ P e,eN P e,cy P e)=(some (Rp.sz α),some ad,some z))
  (E:(Nat.beq (eB z) (Rp.sz α)&&(Nat.ble ad 4096&&(!Nat.beq (Rp.sz α) 0&&(Nat.ble (d+1) sz&&(Op.call ⟨.builtin .append, #[s0,x0], #[st,st]⟩).operands.toList.all (bo G0)))))=true) (hl:l.length+T.length<=2147483648) (an:okD ops i (.x (p.map Prod.fst)) D)
  (hk: ∀a Z p' H1,OS F (.slice a (l++T).length Z) (l++T) p'->HS B F H1 (L.set q p') R->WF2 P G0 K sz ops ((i,.x (p.map Prod.fst))::D) (i+1) os k (upd f d (.slice a (l++T).length Z)) H1 Q):WF2 P G0 K sz ops D i (⟨some d,.call ⟨.builtin .append, #[s0,x0], #[st,st]⟩,ty,pos,af,none⟩::os) k f H Q:=by
 simp only[a04]at N U
 simp only[a09,a0G]at E
 refine fu (id:= .x (p.map Prod.fst)) (rs_app ho hh.log0 N.1 N.2.1 N.2.2.1 hu N.2.2.2 U.1 U.2.1 U.2.2 E.1 E.2.1 E.2.2.1 hl) E.2.2.2.2 E.2.2.2.1 ?_ an ?_
 ·rintro _ _ _ ⟨_,_,rfl,_,_,hwr⟩;exact dC V V (Wr.did hwr)
 rintro _ H1 p' ⟨a,Z,rfl,h5,h6,_⟩ lg hl'
 exact hk a Z p' _ h5 (HS.lg h6 hh hl')
end
end
def JJ(B:Base)(F:Fz)(L R:List Fp)(H:Heap):Prop:= ∃F',Fz.le F F'/\HS B F' H L R
section
variable {P:Program} {G:Nat} {K:bJ} {sz:Nat} {Q:Ex->Fn->Heap->Prop} {f:Fn} {H:Heap} {B:Base} {F:Fz} {L R:List Fp} {c1:Code} {k k1:List Fr}
theorem jl0(hs:HS B F H L R){b:Nat}{cs:List Value}{w:Value}(t:TypeId)(i j:Nat)(E:eX P t=some false)(h:L[j]?=some [(b,.cells cs none false)])(N:cs[i]?=some w): ∀H,JJ B F L R H->LDv P H t (.pointer (some ⟨b,i,none⟩)) w:=
 fun _ ⟨_,_,q⟩=>by have:=ld1 (o:=0) (HS.hc q h) E N;rwa [a1g]at this
theorem jn0(hs:HS B F H L R){b:Nat}{cs l:List Value}(t:TypeId)(i n j:Nat)(E:eX P t=some true)(U:cZ P t=some n)(h:L[j]?=some [(b,.cells cs none false)])(T:Nat.ble (i+n) cs.length=true)(N:dU (dY cs i) n=l): ∀H,JJ B F L R H->LDv P H t (.pointer (some ⟨b,i,none⟩)) (.agg ⟨l⟩):=
 fun _ ⟨_,_,q⟩=>by have:=ldN (o:=0) (HS.hc q h) E U T N;rwa [a1g]at this
theorem jc(hs:HS B F H L R){g:FuncId}{args:List Value}{α:Type}{e:α->Value}{c_:α}(h: ∀E H1,Fz.le F E->HS (.of H1 []) E H1 [] (L++R)->C P G K g args H1 fun v T=> ∃(o:α) (N:Fz),Fz.le E N/\HS (.of H1 []) N T [] (L++R)/\v=e o/\o=c_):
  ∀H,JJ B F L R H->C P G K g args H fun v H'=>v=e c_/\JJ B F L R H':=
 fun H ⟨E,h1,q⟩=>(h E H h1 q.call).mono fun v H' ⟨o,N,h2,q2,e1,e2⟩=>⟨by rw[e1,e2],N,Fz.le_trans h1 h2,by
  have:=q.back V q2;rwa [a0o]at this⟩
end
section
variable {P:Program} {G0:Nat} {K:bJ} {sz:Nat} {Q:Ex->Fn->Heap->Prop} {ops:Array Oper} {os:List Oper} {k k1:List Fr} {c1:Code} {f fr:Fn} {H:Heap} {S:SS} {B:Base} {F:Fz} {L R:List Fp}
theorem sj_row{hs:List (Nat×Hint)}: ∀{a:List Oper} {i:Nat} {S S':SS} {T:List Fp} {p:Prop} {fr:Fn} {H:Heap},JJ B F L R H->a.all (fun o=>o.dst.isSome)=true->sgL P G0 (WJ P G0 K (JJ B F L R)) sz ops f hs i a S L=some (S',T,p)->p->S.Rel f fr->
  (∀N H',JJ B F L R H'->S'.Rel f N->WO P G0 K sz ops os k N H' Q)->WO P G0 K sz ops (a++os) k fr H Q
 | [],i,S,S',T,p,fr,H,hJ,_,h,_,hr,hk=>by simp only[sgL,a00,a04]at h;obtain⟨rfl,_,_⟩:=h;exact hk fr H hJ hr
 |o::a,i,S,S',T,p,fr,H,hJ,hd,h,E,hr,hk=>by
  rw[a0F,a09]at hd;unfold sgL at h;split at h
  ·rename_i q _;split at h
   ·rename_i b cs ho hg hc;rw[a09]at hc;have hq:=nA ho;obtain⟨a4,op,ty,pos,af,gd⟩:=o;simp only at hg hc h hd;subst hg;split at h
    ·rename_i d t x;simp only[Op.operands,a0F,a1D,a17]at hc;split at h
     ·rename_i b' o' U;split at h
      ·rename_i v Z;cases hb:Nat.ble (d+1) sz with
       |false=>rw[hb]at h;cases h
       |true=>
        rw[hb]at h
        simp only[cond_true]at h
        split at h
        ·rename_i S1 q1 e3;split at h
         ·rename_i S2 L2 p2 e4;simp only[a00,a04]at h;obtain⟨rfl,rfl,rfl⟩:=h;obtain⟨rfl,E⟩:=E;have h1:=(kP (m:=S.m) (G:=S.G) hr (c:=[]) (fun _ _ hm=>(a0k hm).elim) e3).1;obtain⟨F',an,hh⟩:=hJ;exact cP (ldR_ok (HS.hc hh hq) (by rw[iq hr hc.2];exact U) Z) (by simp only[Op.operands,a0F,a1D,a17];exact hc.1) hb (sj_row ⟨F',an,hh⟩ hd.2 e4 E h1 hk)
         cases h
        cases h
      cases h
     cases h
    ·cases hd.1
    cases h
   cases h
  split at h
  ·rename_i S1 q h1;split at h
   ·rename_i S2 L2 p2 h2;simp only[a00,a04]at h;obtain⟨rfl,rfl,rfl⟩:=h;obtain⟨hq,ar⟩:=fh E;obtain⟨d,c,G1,v,U,Z,e3,e4,e5,e6⟩:=gG okJ hr h1 hq;exact wo_do U Z e3 (fJ hr e4) e5 hJ fun H' ao=>sj_row ao hd.2 h2 ar e6 hk
   cases h
  cases h
theorem sj(n:Nat){id:Nat}{hs:List (Nat×Hint)}(lo hi:Nat)(ex:List Nat)(l:List (Nat×Value)){p:Prop}(hp:HP hs p)(U:HS B F H L R)(h:sgE lo hi ex (dF Prod.fst l) (sgL P G0 (WJ P G0 K (JJ B F L R)) sz ops f hs 0 ops.toList ⟨[],[]⟩ L)=some (l,L,p))(E:(foc n .skip k,ops.toList.all (fun o=>o.dst.isSome))=((c1,k1),true))
  (Z: ∀g H F',Fz.le F F'->HS B F' H L R->WK P G0 K sz c1 k1 (gQ (hav lo hi ex g f) l) H Q):WK P G0 K sz (.region id ops false) k f H Q:=by
 rw[a04]at E
 obtain⟨S,N,T⟩:=sgE_ok (f:=f) h
 refine ab ?_
 have:=sj_row (os:=[]) (k:=k) (Q:=Q) ⟨F,Fz.le_refl F,U⟩ E.2 N hp rel0 (fun fr H' ⟨F',q1,q2⟩ hr=>by obtain⟨g,rfl⟩:=T fr hr;exact iy (am n E.1 (Z g H' F' q1 q2)))
 rwa [a0o]at this
theorem Hk_(i:Nat){d_:Heap->Prop}{g:FuncId}{args:List Value}{v:Value}{hs:List (Nat×Hint)}{p:Prop}(h: ∀H,d_ H->C P G0 K g args H fun v' H'=>v'=v/\d_ H')(r:HP hs p):HP ((i,.o v)::hs) ((∀H,d_ H->C P G0 K g args H fun v' H'=>v'=v/\d_ H')/\p):=⟨h,r⟩
theorem be(i:Nat){E w0:Bool}{H:Heap}{t:TypeId}{a v:Value}{hs:List (Nat×Hint)}{p:Prop}(h:E=w0->LDv P H t a v)(r:HP hs p):HP ((i,.o v)::hs) ((E=w0->LDv P H t a v)/\p):=⟨h,r⟩
theorem Hc1_(i:Nat){E w0:Bool}{H:Heap}{g:FuncId}{args:List Value}{v:Value}{hs:List (Nat×Hint)}{p:Prop}(h:E=w0->C P G0 K g args H fun v' H'=>v'=v/\H'=H)(r:HP hs p):HP ((i,.o v)::hs) ((E=w0->C P G0 K g args H fun v' H'=>v'=v/\H'=H)/\p):=⟨h,r⟩
theorem Hj1_(i:Nat){E w0:Bool}{d_:Heap->Prop}{t:TypeId}{a v:Value}{hs:List (Nat×Hint)}{p:Prop}(h:E=w0->∀H,d_ H->LDv P H t a v)(r:HP hs p):HP ((i,.o v)::hs) ((E=w0->∀H,d_ H->LDv P H t a v)/\p):=⟨h,r⟩
theorem Hk1_(i:Nat){E w0:Bool}{d_:Heap->Prop}{g:FuncId}{args:List Value}{v:Value}{hs:List (Nat×Hint)}{p:Prop}(h:E=w0->∀H,d_ H->C P G0 K g args H fun v' H'=>v'=v/\d_ H')(r:HP hs p):HP ((i,.o v)::hs) ((E=w0->∀H,d_ H->C P G0 K g args H fun v' H'=>v'=v/\d_ H')/\p):=⟨h,r⟩
theorem jv(i:Nat){E w0 N T:Bool}{H:Heap}{t:TypeId}{a v:Value}{hs:List (Nat×Hint)}{p:Prop}(h:E=w0->N=T->LDv P H t a v)(r:HP hs p):HP ((i,.o v)::hs) ((E=w0->N=T->LDv P H t a v)/\p):=⟨h,r⟩
theorem Hc2_(i:Nat){E w0 N T:Bool}{H:Heap}{g:FuncId}{args:List Value}{v:Value}{hs:List (Nat×Hint)}{p:Prop}(h:E=w0->N=T->C P G0 K g args H fun v' H'=>v'=v/\H'=H)(r:HP hs p):HP ((i,.o v)::hs) ((E=w0->N=T->C P G0 K g args H fun v' H'=>v'=v/\H'=H)/\p):=⟨h,r⟩
end
open Go
structure TabS(f:List UInt8->Option Value)(es:List (Value×Value)):Prop where
 key: ∀e,e∈es->∃k,e.1= .string ⟨⟨k⟩⟩
 at_: ∀k,findTab .string (.string ⟨⟨k⟩⟩) es=f k
section
variable {P:Program} {ρ:Operand->Value} {d:Option Tmp} {ty:TypeId} {pos:String} {af:Array Edge} {gd:Option (Nat×Bool)} {B:Base} {F:Fz} {H:Heap} {L R:List Fp} {f:List UInt8->Option Value} {es:List (Value×Value)}
end
def inS(l:List (List UInt8))(k:List UInt8):Option Value:=if k∈l then some (.bool true) else none
section
variable {P:Program} {ρ:Operand->Value} {d:Option Tmp} {ty:TypeId} {pos:String} {af:Array Edge} {gd:Option (Nat×Bool)} {B:Base} {F:Fz} {H:Heap} {L R:List Fp}
end
section
variable {P:Program} {B:Base} {F F':Fz} {H:Heap} {L R:List Fp} {b:Nat} {l:List (List UInt8)}
end
section
variable {P:Program} {ρ:Operand->Value} {d:Option Tmp} {ty:TypeId} {pos:String} {af:Array Edge} {gd:Option (Nat×Bool)} {B:Base} {F F':Fz} {H:Heap} {L R:List Fp} {b:Nat} {l:List (List UInt8×Int)} {k:List UInt8}
end
open Go
section
variable {P:Program} {ρ:Operand->Value} {d:Option Tmp} {ty:TypeId} {pos:String} {af:Array Edge} {gd:Option (Nat×Bool)} {B:Base} {F:Fz} {H:Heap} {L R:List Fp} {v:Value} {l:List UInt8} {p:Fp}
end
structure GdT where
 b:List UInt8
 a:Option Addr
 k:Nat
 p:Fp
 ok:OS (fun _=>none) (.slice a b.length k) b p
section
variable {B:Base} {F:Fz} {H:Heap} {L R:List Fp}
end
section
variable {B:Base} {F F':Fz} {H:Heap} {L R:List Fp}
theorem HS.flat(h:HS B F H L R){U:List Fp}(hp:U.flatten.Perm L.flatten):HS B F H U R:=by
 have hm: ∀p,p∈U->∀x,x∈p->∃N,N∈L/\x∈N:=fun p ai x hx=>a0S.1 (hp.mem_iff.1 (a0S.2 ⟨p,ai,hx⟩))
 refine⟨h.fz,fun p E b o T=>?_,?_,h.n0,h.log,fun p E b o T=>?_⟩
 ·rcases E with E|E
  ·obtain⟨N,Z,h2⟩:=hm p E _ T;exact h.own N (.inl Z) b o h2
  exact h.own p (.inr E) b o T
 ·have:=h.nd;rw[a0R]at this⊢;exact(((hp.append_right R.flatten).map _).nodup_iff).2 this
 obtain⟨N,Z,h2⟩:=hm p E _ T;exact h.mine N Z b o h2
theorem gv{α:Type}{L:List (List α)}{i:Nat}{p:List α}(q:List α)(hi:L[i]?=some p):((L.set i q).flatten++p).Perm (L.flatten++q):=by obtain⟨A,C,E,N⟩:=iR L i p q hi;rw[N,E];simp only[a0R,a0Q,a0l];refine a0X _ ?_;refine List.Perm.trans (a0X q a1h) ?_;refine List.Perm.trans (a19 q p _) ?_;exact a0X p a1h
theorem HS.open(h:HS B F H L R){i:Nat}{p q r:Fp}(hi:L[i]?=some p)(U:p.Perm (q++r)):HS B F H (L.set i q++[r]) R:=by
 refine h.flat ?_;have E:=gv q hi;have N:((L.set i q).flatten++r++q).Perm (L.flatten++q):=by refine List.Perm.trans ?_ E;rw[a0l];exact a0X _ (a1h.trans U.symm)
 have T:=(a1z q).1 N;simpa[a0R] using T
theorem HS.close(h:HS B F H L R){i j:Nat}{p q r:Fp}(T:i≠j)(hi:L[i]?=some q)(hj:L[j]?=some r)(hp:p.Perm (q++r)):HS B F H ((L.set i p).set j []) R:=by
 refine h.flat ?_;have U:=gv p hi;have N:(L.set i p)[j]?=some r:=by rw[a1W T];exact hj
 have E:=gv [] N;rw[a0o]at E;have Z:(((L.set i p).set j []).flatten++(r++q)).Perm (L.flatten++p):=by rw[←a0l];exact(E.append_right q).trans U
 have h4:(((L.set i p).set j []).flatten++p).Perm (L.flatten++p):=(a0X _ (hp.trans a1h)).trans Z;exact(a1z p).1 h4
end
structure Hd where
 a:Option Addr
 n:Nat
 k:Nat
instance :Inhabited Hd:=⟨⟨none,0,0⟩⟩
def Hd.v(h:Hd):Value:= .slice h.a h.n h.k
instance :Rp Hd where
 sz:=1
 rep _ cs h:=cs=[.slice h.a h.n h.k]
 len:=by rintro F cs x rfl;rfl
 one:=by rintro F cs x rfl;rfl
 mono:=by intro F F' cs x _ h;exact h
theorem vH{F:Fz}{get:Nat->Option AObj}{v:Value}{l:List Hd}{cf:Nat->List Value}{j:Nat}(h:VW F get v l cf j)(T:j<l.length:=by first|(dsimp only;omega)|omega):
  HC get (sB v) (sO v+j *Rp.sz Hd) [.slice (l.getD j default).a (l.getD j default).n (l.getD j default).k]:=by
 obtain⟨N,E⟩:=h.1 default T
 rw[show cf j=_ from N]at E;exact E
def FAM{ι β:Type}(Ch:Fz->ι->β->Fp->Prop)(F:Fz):List ι->List β->Fp->Prop
 | [],[],p=>p=[]
 |h::hs,x::xs,p=> ∃q r,p=q++r/\Ch F h x q/\FAM Ch F hs xs r
 |_,_,_=>False
section
variable {ι β:Type} {Ch:Fz->ι->β->Fp->Prop} {F F':Fz}
theorem FAM.len: ∀{hs:List ι} {xs:List β} {p:Fp},FAM Ch F hs xs p->hs.length=xs.length
 | [],[],_,_=>rfl
 |_::_,_::_,_,⟨_,_,_,_,h⟩=>by rw[a05,a05,h.len]
 | [],_::_,_,h=>h.elim
 |_::_,[],_,h=>h.elim
theorem FAM.mono(E: ∀{h x q},Ch F h x q->Ch F' h x q): ∀{hs:List ι} {xs:List β} {p:Fp},FAM Ch F hs xs p->FAM Ch F' hs xs p
 | [],[],_,h=>h
 |_::_,_::_,_,⟨q,r,e,h1,h⟩=>⟨q,r,e,E h1,h.mono E⟩
 | [],_::_,_,h=>h.elim
 |_::_,[],_,h=>h.elim
theorem FAM.rep{E:ι}{N:β}(k:Ch F E N []): ∀n,FAM Ch F (List.replicate n E) (List.replicate n N) []
 |0=>rfl
 |n+1=>⟨[],[],V,k,FAM.rep k n⟩
theorem FAM.open [Inhabited ι] [Inhabited β](hm: ∀{G G':Fz},G.le G'->∀{h x q},Ch G h x q->Ch G' h x q): ∀{hs:List ι} {xs:List β} {p:Fp} (i:Nat),FAM Ch F hs xs p->i<xs.length->
  ∃q r,p.Perm (q++r)/\Ch F (hs.getD i default) (xs.getD i default) r/\∀F',F.le F'->∀N U E,Ch F' N U E->∃T,T.Perm (q++E)/\FAM Ch F' (hs.set i N) (xs.set i U) T
 | [],[],_,i,_,hi=>by simp at hi
 |h::hs,x::xs,p,0,⟨q,r,e,h1,h2⟩,_=>by refine⟨r,q,by rw[e];exact a1h,h1,fun F' Z N U E hc=>⟨E++r,a1h,E,r,V,hc,h2.mono (hm Z)⟩⟩
 |h::hs,x::xs,p,i+1,⟨q,r,e,h1,h2⟩,hi=>by
  obtain⟨q1,r1,g1,g2,g3⟩:=FAM.open hm i h2 (by simpa using hi);refine⟨q++q1,r1,?_,by simpa using g2,fun F' Z N U E hc=>?_⟩
  ·rw[e,a0l];exact a0X q g1
  obtain⟨T,g4,g5⟩:=g3 F' Z N U E hc;exact⟨q++T,by rw[a0l];exact a0X q g4,q,T,V,hm Z h1,by simpa using g5⟩
 | [],_::_,_,_,h,_=>h.elim
 |_::_,[],_,_,h,_=>h.elim
theorem FAM.at [Inhabited ι] [Inhabited β]: ∀{hs:List ι} {xs:List β} {p:Fp} (i:Nat),FAM Ch F hs xs p->i<xs.length->∃q,(∀x,x∈q->x∈p)/\Ch F (hs.getD i default) (xs.getD i default) q
 | [],[],_,i,_,hi=>by simp at hi
 |_::_,_::_,_,0,⟨q,r,e,h1,h2⟩,_=>⟨q,fun x E=>by rw[e];exact a07.2 (.inl E),h1⟩
 |_::hs,_::xs,_,i+1,⟨q,r,e,h1,h2⟩,hi=>by obtain⟨U,N,T⟩:=FAM.at i h2 (by simpa using hi);exact⟨U,fun x E=>by rw[e];exact a07.2 (.inr (N x E)),by simpa using T⟩
 | [],_::_,_,_,h,_=>h.elim
 |_::_,[],_,_,h,_=>h.elim
end
theorem eQ{β:Type}{d:β}: ∀(l:List β) (i:Nat),l.set i (l.getD i d)=l
 | [],_=>rfl
 |_::_,0=>rfl
 |x::l,i+1=>by have:=eQ (d:=d) l i;simp only[a2t,a26];rw[this]
section
variable {α:Type} [Rp α] {F F':Fz}
theorem OS.froz{v:Value}{l:List α}{p:Fp}(h:OS F v l p)(U:F.le F')(Z: ∀b o,(b,o)∈p->F' b=some o):SR F' v l:=by
 rcases h with⟨E,N,_⟩|⟨b,off,k,cs,aa,E,N,T⟩
 ·exact .inl ⟨E,N⟩
 exact .inr ⟨b,off,k,_,E,Z b _ (by rw[N];simp),T.mono U⟩
theorem SR.n{h:Hd}{l:List α}(k:SR F h.v l):h.n=l.length:=by obtain⟨a,E,e⟩:=Sv.shape k;unfold Hd.v at e;injection e
theorem RL.conv{β:Type} [Rp β]: ∀{l:List α} {m:List β} {cs:List Value},l.length=m.length->(∀(i:Nat) x y,l[i]?=some x->m[i]?=some y->∀c,Rp.rep F c x->Rp.rep F' c y)->RL F cs l->RL F' cs m
 | [],[],_,_,_,h=>h
 |x::l,y::m,cs,hl,hc,⟨c,r,e,h1,h2⟩=>⟨c,r,e,hc 0 x y V V c h1,RL.conv (by simpa using hl) (fun i a b E N=>hc (i+1) a b (by simpa using E) (by simpa using N)) h2⟩
theorem SR.conv{β:Type} [Rp β]{v:Value}{l:List α}{m:List β}(N:Rp.sz α=Rp.sz β)(h:SR F v l)(E:l.length=m.length)(hF:F.le F')(hc: ∀(i:Nat) x y,l[i]?=some x->m[i]?=some y->∀c,Rp.rep F c x->Rp.rep F' c y):SR F' v m:=by
 rcases h with⟨rfl,rfl⟩|⟨b,off,k,o,U,Z,cs,T,ro,e,h3,h4,h5,h6⟩
 ·cases m with
  |nil=>exact .inl ⟨V,V⟩
  |cons _ _=>simp at E
 refine .inr ⟨b,off,k,o,by rw[←E];exact U,hF _ _ Z,cs,T,ro,e,by rw[←N];exact h3,by rw[←E];exact h4,?_,by rw[←N];exact h6⟩;rw[←E,←N];exact RL.conv E hc h5
theorem SR.nin{B:Base}{H:Heap}{L R:List Fp}{v:Value}{l:List α}{i j:Nat}{p:Fp}(h:SR F v l)(s:HS B F H L R)(hi:L[i]?=some p)(Z:j<l.length):sB v∉p.map Prod.fst:=by
 rcases h with⟨_,rfl⟩|⟨b,off,k,o,rfl,T,_⟩
 ·simp at Z
 intro hm;obtain⟨⟨E,o'⟩,U,e⟩:=a0u.1 hm;have N:E=b:=e;subst N;have:=(s.own p (.inl (a0r hi)) E o' U).2.2;rw[T]at this;cases this
class Ri(α:Type) [Rp α]:Prop where
 ind: ∀{F F':Fz} {cs:List Value} {x:α},Rp.rep F cs x->Rp.rep F' cs x
instance :Ri Int:=⟨fun h=>h⟩
instance :Ri Bool:=⟨fun h=>h⟩
instance :Ri Str:=⟨fun h=>h⟩
instance :Ri U64:=⟨fun h=>h⟩
instance :Ri UInt8:=⟨fun h=>h⟩
instance :Ri Hd:=⟨fun h=>h⟩
theorem OS.ind [Ri α]{v:Value}{l:List α}{p:Fp}(h:OS F v l p):OS F' v l p:=by
 rcases h with h|⟨b,off,k,cs,opn,h1,h2,cs',opn',ro',e,h3,h4,h5,h6⟩
 ·exact .inl h
 exact .inr ⟨b,off,k,cs,opn,h1,h2,cs',opn',ro',e,h3,h4,RL.conv V (fun i x y N E c hc=>by rw[N]at E;cases E;exact Ri.ind hc) h5,h6⟩
end
class HasHd(ι:Type) where
 hd:ι->Hd
instance :HasHd Hd:=⟨fun h=>h⟩
def OH{ι α:Type} [HasHd ι] [Rp α](F:Fz)(h:ι)(l:List α)(p:Fp):Prop:=OS F (HasHd.hd h).v l p
abbrev SF{ι α:Type} [HasHd ι] [Rp α](F:Fz)(hs:List ι)(ls:List (List α))(p:Fp):Prop:=FAM (OH (ι:=ι) (α:=α)) F hs ls p
section
variable {ι α:Type} [HasHd ι] [Rp α] {F F':Fz} {B:Base} {H:Heap} {L R:List Fp} {hs:List ι} {ls:List (List α)} {p:Fp}
theorem SF.mono(E:F.le F')(h:SF F hs ls p):SF F' hs ls p:=FAM.mono (Ch:=OH (ι:=ι) (α:=α)) (fun k=>OS.mono (α:=α) E k) h
theorem SF.rep(n:Nat):SF F (List.replicate n (default:Hd)) (List.replicate n ([]:List α)) []:=FAM.rep (Ch:=OH (ι:=Hd) (α:=α)) (show OS F (Hd.v default) ([]:List α) [] from OS.nil) n
def SB(F:Fz)(hs:List ι)(ls:List (List α))(i:Nat)(p1:Fp):Prop:= ∀F',F.le F'->∀E l' T,OH F' E l' T->∃N,N.Perm (p1++T)/\SF F' (hs.set i E) (ls.set i l') N
theorem OS.nlen{a:Option Addr}{n k:Nat}{l:List α}{p:Fp}(h:OS F (.slice a n k) l p):n=l.length:=by obtain⟨E,N,e⟩:=h.shape;injection e
theorem SF.shutN{p1 T:Fp}{i:Nat}{l':List α}(N:ι)(w:SB F hs ls i p1)(hF:F.le F')(s:HS B F' H L R){q m:Nat}(U:q≠m)(hq:L[q]?=some p1)(hm:L[m]?=some T)
  (h:OS F' (HasHd.hd N).v l' T): ∃E,HS B F' H ((L.set q E).set m []) R/\SF F' (hs.set i N) (ls.set i l') E:=by
 obtain⟨E,Z,g2⟩:=w F' hF N l' T h
 exact⟨E,s.close U hq hm Z,g2⟩
end
section
variable {ι α:Type} [HasHd ι] [Inhabited ι] [Rp α] {F F':Fz} {B:Base} {H:Heap} {L R:List Fp} {hs:List ι} {ls:List (List α)} {p:Fp}
theorem SF.open(h:SF F hs ls p)(s:HS B F H L R){q i:Nat}(hq:L[q]?=some p)(hi:i<ls.length):
  ∃p1 E,HS B F H (L.set q p1++[E]) R/\OS F (.slice (HasHd.hd (hs.getD i default)).a (HasHd.hd (hs.getD i default)).n (HasHd.hd (hs.getD i default)).k) (ls.getD i []) E/\SB F hs ls i p1:=by
 obtain⟨p1,E,N,T,U⟩:=FAM.open (Ch:=OH (ι:=ι) (α:=α)) (fun Z _ _ _ k=>OS.mono (α:=α) Z k) i h hi
 exact⟨p1,E,s.open hq N,T,U⟩
theorem SF.shut{p1 T:Fp}{i:Nat}{l':List α}(w:SB F hs ls i p1)(U:F.le F')(s:HS B F' H L R){q m:Nat}(E:q≠m)(hq:L[q]?=some p1)(Z:L[m]?=some T)
  (h:OS F' (.slice (HasHd.hd (hs.getD i default)).a (HasHd.hd (hs.getD i default)).n (HasHd.hd (hs.getD i default)).k) l' T): ∃N,HS B F' H ((L.set q N).set m []) R/\SF F' hs (ls.set i l') N:=by
 have:=SF.shutN (hs.getD i default) w U s E hq Z h
 rw[eQ]at this;exact this
theorem SF.shut0{p1 T:Fp}{i:Nat}(w:SB F hs ls i p1)(U:F.le F')(s:HS B F' H L R){q m:Nat}(E:q≠m)(hq:L[q]?=some p1)(Z:L[m]?=some T)
  (h:OS F' (.slice (HasHd.hd (hs.getD i default)).a (HasHd.hd (hs.getD i default)).n (HasHd.hd (hs.getD i default)).k) (ls.getD i []) T): ∃N,HS B F' H ((L.set q N).set m []) R/\SF F' hs ls N:=by
 have:=SF.shut w U s E hq Z h
 rw[eQ]at this;exact this
theorem SF.freeze(h:SF F hs ls p)(s:HS B F H L R){q:Nat}(hq:L[q]?=some p): ∃F',F.le F'/\HS B F' H (L.set q []) R/\(∀i,i<ls.length->SR F' (HasHd.hd (hs.getD i default)).v (ls.getD i [])):=by obtain⟨F',E,U,Z⟩:=s.freeze hq;refine⟨F',E,U,fun i hi=>?_⟩;obtain⟨r,N,T⟩:=FAM.at (Ch:=OH (ι:=ι) (α:=α)) i h hi;exact OS.froz (α:=α) T E fun b o hb=>Z b o (N _ hb)
end
section
variable {α:Type} [Rp α] {F F':Fz} {B:Base} {H:Heap} {L R:List Fp}
theorem SR.rows{v:Value}{hs:List Hd}{ls:List (List α)}(h:SR F v hs)(hl:hs.length=ls.length)(k: ∀i,i<ls.length->SR F (HasHd.hd (hs.getD i default)).v (ls.getD i [])):SR F v ls:=by
 refine SR.conv (α:=Hd) (β:=List α) V h hl F.le_refl fun i x y hx T c hc=>?_
 have hi:=(a0w.1 T).1;have k1:=k i hi;have U:hs.getD i default=x:=by rw[a02,hx];rfl
 have Z:ls.getD i []=y:=by rw[a02,T];rfl
 rw[U,Z]at k1;have N:=SR.n (h:=x) k1;have E:c=[.slice x.a x.n x.k]:=hc;refine⟨x.a,x.k,by rw[←N];exact E,?_⟩;rw[←N];exact k1
theorem HS.thawX{F1 F2:Fz}{H':Heap}{b_:List Fp}{i:Nat}{p:Fp}(h:HS B F H L R)(hi:L[i]?=some p)(hF:F.le F1)(hp: ∀b o,(b,o)∈p->F1 b=some o)(U:F1.le F2)(k:HS B F2 H' (L.set i []++b_) R):HS B F H' (L++b_) R:=by
 obtain⟨A,C,e1,e2⟩:=fk L i p hi;have bb:p∈L:=a0r hi;have an: ∀b,F2 b=none->F b=none:=fun b N=>by
  cases hq:F b with
  |none=>rfl
  |some z=>rw[U _ _ (hF _ _ hq)]at N;cases N
 refine⟨fun b o N=>k.fz b o (U _ _ (hF _ _ N)),fun x E b o N=>?_,?_,k.n0,k.log,fun x E b o N=>?_⟩
 ·by_cases Z:x=p
  ·subst Z;obtain⟨g1,g2⟩:=k.fz b o (U _ _ (hp b o N));exact⟨g1,g2,(h.own x (.inl bb) b o N).2.2⟩
  have hk:x∈L.set i []++b_\/x∈R:=by
   rcases E with E|E
   ·rcases a07.1 E with E|E
    ·refine .inl (a07.2 (.inl ?_));rw[e2];rw[e1]at E;rcases a07.1 E with E|E
     ·exact a07.2 (.inl E)
     rcases a0v.1 E with E|E
     ·exact absurd E Z
     exact a07.2 (.inr (a0f _ E))
    exact .inl (a07.2 (.inr E))
   exact .inr E
  obtain⟨g1,g2,g3⟩:=k.own x hk b o N;exact⟨g1,g2,an b g3⟩
 ·have kn:=k.nd;have hn:=h.nd;rw[e2]at kn;rw[e1]at hn⊢;have ao: ∀a,a∈p.map Prod.fst->∀c,c∈b_.flatten.map Prod.fst->a≠c:=by rintro a T c hc rfl;obtain⟨⟨b,o⟩,N,rfl⟩:=a0u.1 T;obtain⟨⟨b',o'⟩,a0,e⟩:=a0u.1 hc;obtain⟨x,E,a8⟩:=a0S.1 a0;have e':b'=b:=e;subst e';have:=(k.own x (.inl (a07.2 (.inr E))) b' o' a8).2.2;rw[U _ _ (hp b' o N)]at this;cases this
  simp only[a0l,a0Z,a0R,a0Q,a12,a1p,a07,a18]at kn hn⊢;obtain⟨a1,⟨a2,⟨a3,a4,a5⟩,a6⟩,a7⟩:=kn;obtain⟨b1,⟨b2,⟨b3,b4,b5⟩,b6⟩,b7⟩:=hn;refine⟨a1,⟨b2,⟨a2,⟨a3,a4,a5⟩,a6⟩,fun a T c hc=>?_⟩,fun a T c hc=>?_⟩
  ·rcases hc with hc|hc|hc
   ·exact b6 a T c (.inl hc)
   ·exact ao a T c hc
   exact b6 a T c (.inr hc)
  rcases hc with hc|hc|hc|hc
  ·exact b7 a T c (.inl hc)
  ·exact a7 a T c (.inl hc)
  ·exact a7 a T c (.inr (.inl hc))
  exact b7 a T c (.inr (.inr hc))
 rcases a07.1 E with E|E
 ·exact h.mine x E b o N
 exact k.mine x (a07.2 (.inr E)) b o N
theorem HS.thawL{F2:Fz}{H':Heap}{U:List Fp}{i i':Nat}{p:Fp}(h:HS B F H L R)(hi:L[i]?=some p)(hF:F.le F2)(hp: ∀b o,(b,o)∈p->F2 b=some o)(ay:U[i']?=some [])(k:HS B F2 H' U R):HS B F H' (U.set i' p) R:=by
 obtain⟨A,C,Z,e2⟩:=iR U i' [] p ay;have aa:p∈L:=a0r hi;have aq: ∀b,F2 b=none->F b=none:=fun b N=>by
  cases hq:F b with
  |none=>rfl
  |some z=>rw[hF _ _ hq]at N;cases N
 have ag: ∀x,x∈U.set i' p\/x∈R->x=p\/(x∈U\/x∈R):=by
  intro x E;rcases E with E|E
  ·rw[e2]at E;rcases a07.1 E with E|E
   ·exact .inr (.inl (by rw[Z];exact a07.2 (.inl E)))
   rcases a0v.1 E with E|E
   ·exact .inl E
   exact .inr (.inl (by rw[Z];exact a07.2 (.inr (a0f _ E))))
  exact .inr (.inr E)
 refine⟨fun b o N=>k.fz b o (hF _ _ N),fun x E b o N=>?_,?_,k.n0,k.log,fun x E b o N=>?_⟩
 ·rcases ag x E with rfl|E
  ·obtain⟨g1,g2⟩:=k.fz b o (hp b o N);exact⟨g1,g2,(h.own x (.inl aa) b o N).2.2⟩
  obtain⟨g1,g2,g3⟩:=k.own x E b o N;exact⟨g1,g2,aq b g3⟩
 ·have kn:=k.nd;have hn:=h.nodup_of aa;have ar: ∀x,x∈U\/x∈R->∀a,a∈p.map Prod.fst->a∉x.map Prod.fst:=by intro x E a T hc;obtain⟨⟨b,o⟩,N,rfl⟩:=a0u.1 T;obtain⟨⟨b',o'⟩,ax,e⟩:=a0u.1 hc;have e':b'=b:=e;subst e';have:=(k.own x E b' o' ax).2.2;rw[hp b' o N]at this;cases this
  have ad: ∀(c_:List Fp),(∀x∈c_,x∈U\/x∈R)->∀a,a∈p.map Prod.fst->∀c,c∈c_.flatten.map Prod.fst->a≠c:=by rintro c_ hX a T c hc rfl;obtain⟨y,hy,e⟩:=a0u.1 hc;obtain⟨x,E,a0⟩:=a0S.1 hy;exact ar x (hX x E) a T (a0u.2 ⟨y,a0,e⟩)
  have hA:=ad A (fun x E=> .inl (by rw[Z];exact a07.2 (.inl E)));have hC:=ad C (fun x E=> .inl (by rw[Z];exact a07.2 (.inr (a0f _ E))));have hR:=ad R (fun x E=> .inr E);rw[Z]at kn;rw[e2];simp only[a0l,a0Z,a0R,a0Q,a12,a1p,a07,a18]at kn⊢;obtain⟨a1,⟨a2,a3,a4⟩,a5⟩:=kn;refine⟨a1,⟨hn,⟨a2,a3,a4⟩,fun a T c hc=>?_⟩,fun a T c hc=>?_⟩
  ·rcases hc with hc|hc
   ·exact hC a T c hc
   exact hR a T c hc
  rcases hc with hc|hc
  ·exact fun e=>hA c hc a T e.symm
  exact a5 a T c hc
 rcases ag x (.inl E) with rfl|hx'
 ·exact h.mine x aa b o N
 rw[e2]at E;rcases a07.1 E with E|E
 ·exact k.mine x (by rw[Z];exact a07.2 (.inl E)) b o N
 rcases a0v.1 E with rfl|E
 ·exact h.mine x aa b o N
 exact k.mine x (by rw[Z];exact a07.2 (.inr (a0f _ E))) b o N
end
section
variable {α:Type} [Rp α] {P:Program} {ρ:Operand->Value} {d:Option Tmp} {ty:TypeId} {pos:String} {af:Array Edge} {gd:Option (Nat×Bool)} {B:Base} {F:Fz} {H:Heap} {L R:List Fp} {v:Value} {l:List α} {p:Fp}
def At(α:Type) [Rp α](v:Value)(n i:Nat)(a:Option Addr):Prop:=n<=i\/a=some ⟨sB v,sO v+i *Rp.sz α,none⟩
theorem rs_cutX{x:Operand}{lo:Option Operand}{t e:TypeId}{i q:Nat}(h:OS F v l p)(hs:HS B F H L R)(hq:L[q]?=some p)(hx:ρ x=v)(ht:P.underlying t=some (.slice e))(hz:cZ P e=some (Rp.sz α))
  (h2:cd 0 (lo.map ρ)=some i) (Z:i<=l.length):
  ∃r:Rs,AP P ρ ⟨d,.slice t x lo none none,ty,pos,af,gd⟩ H (.val r.v,r.H)/\(∃a k,r.v= .slice a (l.drop i).length k/\r.H=H/\OS F (.slice a (l.drop i).length k) (l.drop i) p/\At α v l.length i a):=by
 have U: ∀w,bt P t v (lo.map ρ) none none H=some w->AP P ρ ⟨d,.slice t x lo none none,ty,pos,af,gd⟩ H (.val w,H):=by intro w hw;refine⟨?_⟩;show ovl (bt P t (ρ x) (lo.map ρ) (Option.map ρ none) (Option.map ρ none) H) H=_;rw[hx,a27,hw];rfl
 have h1:cd l.length (none:Option Value)=some l.length:=rfl
 have et:(l.take l.length).drop i=l.drop i:=by rw[a0T]
 rcases h with⟨rfl,rfl,rfl⟩|⟨b,off,k,cs,a4,rfl,rfl,g2⟩
 ·have ap:i=0:=by simpa using Z
  subst ap;refine⟨⟨.slice none 0 0,H,[]⟩,U _ ?_,none,0,V,V,OS.nil,.inl (a0d _)⟩;unfold bt;have N:=lD (n:=0) (k:=0) (hi:=(none:Option Value)) V h2 (a0d 0) (a0d 0);simp only[ht,N,hz,Option.isSome_some,cond_true]
 have hb:=hs.get hq (a08.2 V)
 have T:=Sl_cut (F:=F) g2 Z (a0d _)
 rw[et]at T
 obtain⟨a3,a2,a5,e1,g1,g3,g4,g5⟩:=id g2
 injection e1 with e1 e2 e3
 subst e1 e2 e3
 have N:=lD (n:=l.length) (k:=k) (hi:=(none:Option Value)) h1 h2 Z g3
 have E:(l.drop i).length=l.length-i:=a0H
 rcases g5 with rfl|rfl
 ·cases hk:Nat.beq k i with
  |true=>
   have aq:=a0c hk
   have e0:l.drop i=[]:=a0y (by rw[E];omega)
   refine⟨⟨.slice (some ⟨b,off,none⟩) (l.length-i) (k-i),H,[]⟩,U _ ?_,some ⟨b,off,none⟩,k-i,by rw[E],V,?_,.inl M⟩
   ·unfold bt;simp only[ht,N,hz,hb,hk,cond_true]
   rw[e0,aq,a1S]
   exact .inr ⟨b,off,0,cs,none,V,V,Sl_at0 (k:=k) (l:=l) g2⟩
  |false=>
   refine⟨⟨.slice (some ⟨b,off+i *Rp.sz α,none⟩) (l.length-i) (k-i),H,[]⟩,U _ ?_,_,k-i,by rw[E],V,.inr ⟨b,_,k-i,cs,none,V,V,T⟩,.inr V⟩
   unfold bt
   simp only[ht,N,hz,hb,hk,cond_false]
 refine⟨⟨.slice (some ⟨b,off+i *Rp.sz α,none⟩) (l.length-i) (k-i),H,[]⟩,U _ ?_,_,k-i,by rw[E],V,.inr ⟨b,_,k-i,cs,some (Rp.sz α),V,V,T⟩,.inr V⟩
 unfold bt
 simp only[ht,N,hz,hb,a15,cond_true]
def cpL(l:List α)(i:Nat)(E:List α):List α:=l.take i++(E.take (l.length-i)++l.drop (i+min E.length (l.length-i)))
theorem rs_cp{d0 s0:Operand}{t e:TypeId}{i q k1:Nat}{a1:Option Addr}{E:List α}{u:Value}(h:OS F v l p)(hs:HS B F H L R)(hq:L[q]?=some p)(hd:ρ d0= .slice a1 (l.drop i).length k1)(ha:At α v l.length i a1)(hi:i<=l.length)
  (h2:OS F u E p) (hx:ρ s0=u) (ht:P.underlying t=some (.slice e)) (hz:cZ P e=some (Rp.sz α)):
  ∃r:Rs,AP P ρ ⟨d,.call ⟨.builtin .copy, #[d0,s0], #[t,t]⟩,ty,pos,af,gd⟩ H (.val r.v,r.H)/\(r.v= .int .i64 ((min E.length (l.length-i):Nat):Int)/\OS F v (cpL l i E) r.p/\HS B F r.H (L.set q r.p) R/\Wr H r.H (p.map Prod.fst)):=by
 have a7:(l.drop i).length=l.length-i:=a0H
 have hm:lenA u=some E.length:=(h2.sv hs hq).first.1
 have a0: ∀w H1,oj P #[t,t] (.slice a1 (l.length-i) k1) u H=some (w,H1)->AP P ρ ⟨d,.call ⟨.builtin .copy, #[d0,s0], #[t,t]⟩,ty,pos,af,gd⟩ H (.val w,H1):=by intro w H1 hw;refine⟨?_⟩;show ovh (oj P #[t,t] (ρ d0) (ρ s0) H)=_;rw[hd,hx,a7,hw];rfl
 have a9:L.set q p=L:=by obtain⟨A,C,e1,e2⟩:=fk L q p hq;rw[e2 p,←e1]
 cases hn:Nat.beq (min E.length (l.length-i)) 0 with
 |true=>
  have T:=a0c hn
  refine⟨⟨.int .i64 ((min E.length (l.length-i):Nat):Int),H,p⟩,a0 _ _ ?_,V,?_,by rw[a9];exact hs,fun b hb=> .inl hb⟩
  ·unfold oj;simp only[a2f,a0W,ht,hm,hz];rw[show Nat.min E.length (l.length-i)=min E.length (l.length-i) from V,hn,T];rfl
  have e:cpL l i E=l:=by unfold cpL;rw[T,a2w];have:E.take (l.length-i)=[]:=a0y (by rw[a0p,Nat.min_comm];exact T);rw[this,a18,a13]
  rw[e];exact h
 |false=>
  have T:min E.length (l.length-i)≠0:=fun e=>by rw[e]at hn;cases hn
  rcases ha with ha|ha
  ·omega
  subst ha
  rcases h with⟨rfl,rfl,rfl⟩|⟨b,off,k,cs,U,rfl,rfl,c9,cv,dn,e1,g1,g3,g4,g5⟩
  ·simp at T
  injection e1 with e1 e2 e3
  subst e1 e2 e3
  replace g1:=g1 V
  have hb:=hs.get hq (b:=b) (o:= .cells cs U false) (a08.2 V)
  let n:=min E.length (l.length-i)
  obtain⟨N,a8,aq⟩: ∃N,fl H (Rp.sz α) n u=some N/\RL F N (E.take n):=by
   rcases h2 with⟨rfl,rfl,h3⟩|⟨b2,ar,k2,dd,c0,rfl,e2,g6⟩
   ·cases h3
   simp only[a2r,a04,AObj.cells.injEq,and_true]at e2;obtain⟨rfl,rfl,rfl⟩:=e2;have an:(E.take n).length=n:=by rw[a0p];omega
   have h3:Sv F H.get (.slice (some ⟨b,ar,none⟩) (E.take n).length k2) (E.take n):=by obtain⟨c1,c2,c3,c4,c5,c6,c7,c8⟩:=g6;refine .inr ⟨b,ar,k2,_,V,hb,c1,c2,c3,c4,c5,by rw[an];omega,?_,c8⟩;have h4:=c7.take n;rw[a2z,a1y (a0C _ M)]at h4;rw[an];exact h4
   obtain⟨_,N,h4,h5⟩:=h3.first;rw[an]at h4;exact⟨N,h4,h5⟩
  have Z:=aq.length
  have b0:(E.take n).length=n:=by rw[a0p];omega
  rw[b0]at Z
  have aA:(i+n) *Rp.sz α<=l.length *Rp.sz α:=a0C _ M
  have dk:l.length *Rp.sz α<=k *Rp.sz α:=a0C _ g3
  have ai:off+i *Rp.sz α+N.length<=cs.length:=by rw[Z];rw[a16]at aA;omega
  have b1:=iE (b:=b) (o:=off+i *Rp.sz α) hb ai aq.one
  have al:(cpL l i E).length=l.length:=by unfold cpL;simp only[a01,a0p,a0H];omega
  have hw:=hs.wr (H1:=H.put b (.cells (bc cs (off+i *Rp.sz α) N) U false)) (q:=[(b,.cells (bc cs (off+i *Rp.sz α) N) U false)]) hq fun k=>⟨F,F.le_refl,by simpa using k.put (i:=0) V⟩
  obtain⟨F',dj,dl,b4⟩:=hw
  refine⟨⟨.int .i64 ((n:Nat):Int),_,[(b,.cells (bc cs (off+i *Rp.sz α) N) U false)]⟩,a0 _ _ ?_,V,.inr ⟨b,off,k,_,U,by rw[al],V,_,_,_,V,fun _=>by rw[bX _ _ _ ai];exact g1,by rw[al];exact g3,?_,g5⟩,hs.put hq,b4⟩
  ·unfold oj;simp only[a2f,a0W,ht,hm,hz];rw[show Nat.min E.length (l.length-i)=min E.length (l.length-i) from V,hn];simp only[cond_false];rw[show fl H (Rp.sz α) (min E.length (l.length-i)) u=some N from a8];simp only;rw[show(⟨sB (Value.slice (some ⟨b,off,none⟩) l.length k),sO (Value.slice (some ⟨b,off,none⟩) l.length k)+i *Rp.sz α,none⟩:Addr)=⟨b,off+i *Rp.sz α,none⟩ from V,b1];rfl
  rw[al]
  have hX:((cs.drop off).take (l.length *Rp.sz α)).length=l.length *Rp.sz α:=g4.length
  have ay:i *Rp.sz α+N.length<=((cs.drop off).take (l.length *Rp.sz α)).length:=by rw[hX,Z];rw[a16]at aA;omega
  have b6:((bc cs (off+i *Rp.sz α) N).drop off).take (l.length *Rp.sz α)=bc ((cs.drop off).take (l.length *Rp.sz α)) (i *Rp.sz α) N:=by
   apply a1o;intro q;rw[bp _ _ _ _ ay,a0z,a0L,bp _ _ _ _ ai];by_cases c1:q<l.length *Rp.sz α
   ·rw[if_pos c1];by_cases c2:i *Rp.sz α<=q/\q<i *Rp.sz α+N.length
    ·rw[if_pos M,if_pos c2];congr 1;omega
    rw[if_neg M,if_neg c2,a0z,if_pos c1,a0L]
   rw[if_neg c1,if_neg M,a0z,if_neg c1]
  rw[b6,kJ _ _ _ ay]
  unfold cpL
  have e3:E.take (l.length-i)=E.take n:=by
   rcases Nat.le_total E.length (l.length-i) with hc|hc
   ·rw[a0i hc,a0i M]
   congr 1;omega
  rw[e3,a0l]
  refine(g4.take i).append (aq.append ?_)
  have:=g4.drop (i+n)
  rw[Z,←a16];exact this
end
def tb(a:Int)(i:Nat):Bool:=a.toNat.testBit i
abbrev iC(a:Int):Prop:=0<=a/\a<18446744073709551616
theorem fM(op:BinOp)(a b:Int):iC (aD op .u64 a b):=by
 have h: ∀n:Int,iC (IntKind.u64.wrap n):=fun n=>by rw[fX];constructor<;>omega
 unfold aD bits;cases op<;>first|exact h _|(constructor<;>decide)
theorem lB{a:Int}(h:iC a):(bv a).toNat=a.toNat:=by
 have:=bv_toNat a;have E:a%18446744073709551616=a:=M
 rw[E]at this;omega
theorem wrap_nat(n:Nat)(h:n<18446744073709551616):(IntKind.u64.wrap (n:Int)).toNat=n:=by rw[fX];omega
theorem tb_or{a b:Int}(E:iC a)(N:iC b)(i:Nat):tb (aD .or .u64 a b) i=(tb a i||tb b i):=by have e:aD .or .u64 a b=IntKind.u64.wrap ((bv a|||bv b).toNat:Int):=rfl;unfold tb;rw[e,wrap_nat _ (bv a|||bv b).isLt,BitVec.toNat_or,lB E,lB N,Nat.testBit_or]
theorem kG{a b:Int}(N:iC a)(T:iC b)(i:Nat):tb (aD .andNot .u64 a b) i=(tb a i&& !tb b i):=by
 have e:aD .andNot .u64 a b=IntKind.u64.wrap ((bv a&&& ~~~(bv b)).toNat:Int):=rfl;unfold tb;rw[e,wrap_nat _ (bv a&&& ~~~(bv b)).isLt,BitVec.toNat_and,Nat.testBit_and,lB N];cases E:a.toNat.testBit i with
 |false=>rfl
 |true=>
  have hi:i<64:=by
   rcases a0g i 64 with h|h
   ·exact h
   rw[Nat.testBit_lt_two_pow (a0V (show a.toNat<2^64 by omega) (a2m M h))]at E;cases E
  rw[a1L,a1L,←BitVec.getLsbD,BitVec.getLsbD_not,BitVec.getLsbD,lB T]
  simp[hi]
theorem tb_and1{a:Int}(N:iC a):aD .and .u64 a 1=1↔tb a 0=true:=by
 have e:aD .and .u64 a 1=IntKind.u64.wrap ((bv a&&&bv 1).toNat:Int):=rfl;have E:(bv a&&&bv 1).toNat=a.toNat%2:=by rw[BitVec.toNat_and,lB N,show(bv 1).toNat=1 from by decide,Nat.and_one_is_mod]
 rw[e,E,fX];unfold tb;rw[Nat.testBit_zero];simp;omega
theorem shl_one{k:Nat}(N:k<64):IntKind.u64.wrap (1 *2^(Nat.min k 64))=((2^k:Nat):Int):=by
 rw[show Nat.min k 64=k from a1y M,fX,Int.one_mul];have:(2^k:Nat)<2^64:=a1X M N;have e:((2:Int)^k)=((2^k:Nat):Int):=by simp
 have E:(2:Nat)^64=18446744073709551616:=by decide
 rw[E]at this;rw[e];generalize 2^k=q at this⊢;omega
theorem tb_shl{k:Nat}(E:k<64)(i:Nat):tb (IntKind.u64.wrap (1 *2^(Nat.min k 64))) i=decide (k=i):=by unfold tb;rw[shl_one E,a0E,Nat.testBit_two_pow]
theorem shl_rng(x:Int):iC (IntKind.u64.wrap x):=by rw[fX];constructor<;>omega
theorem shr_nat{a:Int}(N:iC a){k:Nat}(E:k<=64):Int.fdiv a (2^(Nat.min k 64))=((a.toNat>>>k:Nat):Int):=by
 rw[show Nat.min k 64=k from a1y E,a1Z];have e:((2:Int)^k)=((2^k:Nat):Int):=by simp
 have ea:a=(a.toNat:Int):=M
 rw[e,a1A _ (a1E _)];conv=>lhs;rw[ea]
 simp
theorem shr_rng{a:Int}(E:iC a){k:Nat}(N:k<=64):iC (Int.fdiv a (2^(Nat.min k 64))):=by
 rw[shr_nat E N];have:a.toNat>>>k<=a.toNat:=by rw[a1Z];exact Nat.div_le_self _ _
 generalize a.toNat>>>k=q at this⊢;constructor<;>omega
theorem tb_shr{a:Int}(E:iC a){k:Nat}(N:k<=64)(i:Nat):tb (Int.fdiv a (2^(Nat.min k 64))) i=tb a (k+i):=by unfold tb;rw[shr_nat E N,a0E,Nat.testBit_shiftRight]
theorem tb_big{a:Int}(E:iC a){i:Nat}(hi:64<=i):tb a i=false:=
 Nat.testBit_lt_two_pow (a0V (show a.toNat<2^64 by omega) (a2m M hi))
theorem ne0_tb{a:Int}(E:iC a)(h:a≠0): ∃i,tb a i=true:=by obtain⟨i,hi⟩:=Nat.exists_testBit_of_ne_zero (show a.toNat≠0 by omega);exact⟨i,hi⟩
theorem eq0_tb{a:Int}(E:iC a)(h:a=0)(i:Nat):tb a i=false:=by subst h;exact Nat.zero_testBit i
def aH(s:List U64)(n:Nat):Bool:=tb (s.getD (n/64) default).n (n%64)
theorem nS{s:List U64}{n:Nat}(h:64 *s.length<=n):aH s n=false:=by unfold aH;rw[cb M];exact Nat.zero_testBit _
theorem bit_set{s:List U64}{j:Nat}{v:Int}(E:j<s.length)(i:Nat):aH (s.set j ⟨v⟩) i=if i/64=j then tb v (i%64) else aH s i:=by
 unfold aH;simp only[a02,a1T];by_cases h:j=i/64
 ·rw[if_pos h,if_pos h.symm,if_pos M];rfl
 rw[if_neg h,if_neg (fun e=>h e.symm)]
theorem bit_rep(n i:Nat):aH (List.replicate n (⟨0⟩:U64)) i=false:=by unfold aH;rw[a02,a1d];split<;>exact Nat.zero_testBit _
theorem add_ok{s:List U64}{n:Int}(h:0<=n/\n<64 *(s.length:Int))(E:iC (s.getD (Int.tdiv n 64).toNat default).n)(i:Nat):
  aH (s.set (Int.tdiv n 64).toNat ⟨aD .or .u64 (s.getD (Int.tdiv n 64).toNat default).n (IntKind.u64.wrap (1 *2^(Nat.min (Int.tmod n 64).toNat 64)))⟩) i=(aH s i||decide (i=n.toNat)):=by
 have N:(Int.tdiv n 64).toNat=n.toNat/64:=by rw[a1e h.1];omega
 have T:(Int.tmod n 64).toNat=n.toNat%64:=by rw[a1V h.1];omega
 rw[N]at E⊢
 rw[T,bit_set M,tb_or E (shl_rng _),tb_shl M]
 by_cases hi:i/64=n.toNat/64
 ·rw[if_pos hi];have U:tb (s.getD (n.toNat/64) default).n (i%64)=aH s i:=by unfold aH;rw[hi]
  rw[U];congr 1;rw[decide_eq_decide];omega
 rw[if_neg hi,decide_eq_false M,a1U]
theorem rem_ok{s:List U64}{n:Int}(h:0<=n/\n<64 *(s.length:Int))(E:iC (s.getD (Int.tdiv n 64).toNat default).n)(i:Nat):
  aH (s.set (Int.tdiv n 64).toNat ⟨aD .andNot .u64 (s.getD (Int.tdiv n 64).toNat default).n (IntKind.u64.wrap (1 *2^(Nat.min (Int.tmod n 64).toNat 64)))⟩) i=(aH s i&& !decide (i=n.toNat)):=by
 have N:(Int.tdiv n 64).toNat=n.toNat/64:=by rw[a1e h.1];omega
 have T:(Int.tmod n 64).toNat=n.toNat%64:=by rw[a1V h.1];omega
 rw[N]at E⊢
 rw[T,bit_set M,kG E (shl_rng _),tb_shl M]
 by_cases hi:i/64=n.toNat/64
 ·rw[if_pos hi];have U:tb (s.getD (n.toNat/64) default).n (i%64)=aH s i:=by unfold aH;rw[hi]
  rw[U];congr 2;rw[decide_eq_decide];omega
 rw[if_neg hi,decide_eq_false M,a1N,a17]
theorem n64{s:List U64}{n:Int}(h:0<=n/\n<64 *(s.length:Int)):0<=Int.tdiv n 64/\Int.tdiv n 64<(s.length:Int)/\0<=Int.tmod n 64/\Int.tmod n 64<64:=by rw[a1e h.1,a1V h.1];omega
def uniB(s t:List U64)(k:Nat)(w:List U64):Prop:=w.length=s.length/\∀i,aH w i=(aH s i||(decide (i<64 *k)&&aH t i))
theorem uniB_zero{s t:List U64}:uniB s t 0 s:=⟨V,fun i=>by simp⟩
theorem kF{s t w:List U64}{k:Nat}(h:uniB s t k w)(i:Nat):tb (w.getD k default).n i=tb (s.getD k default).n i\/64<=i:=by
 rcases a0g i 64 with hi|hi
 ·left;have:=h.2 (64 *k+i);unfold aH at this;rw[show(64 *k+i)/64=k by omega,show(64 *k+i)%64=i by omega,decide_eq_false M,a1Y,a1U]at this;exact this
 exact .inr hi
theorem uniB_same{s t w:List U64}{k:Nat}(h:uniB s t k w)(hr:iC (t.getD k default).n)(hw:iC (w.getD k default).n)(Z:aD .andNot .u64 (t.getD k default).n (w.getD k default).n=0):uniB s t (k+1) w:=by
 refine⟨h.1,fun i=>?_⟩;rw[h.2 i];by_cases hi:i<64 *k
 ·rw[decide_eq_true hi,decide_eq_true (show i<64 *(k+1) by omega)]
 by_cases N:i<64 *(k+1)
 ·rw[decide_eq_false hi,decide_eq_true N,a1Y,a1L,a1U];have E:=eq0_tb (fM .andNot (t.getD k default).n (w.getD k default).n) Z (i%64);rw[kG hr hw]at E;have T:aH t i=tb (t.getD k default).n (i%64):=by unfold aH;rw[show i/64=k by omega]
  have U:aH s i=tb (w.getD k default).n (i%64):=by
   rcases kF h (i%64) with e|e
   ·rw[e];unfold aH;rw[show i/64=k by omega]
   omega
  rw[T,U];revert E;cases tb (t.getD k default).n (i%64)<;>cases tb (w.getD k default).n (i%64)<;>simp
 rw[decide_eq_false hi,decide_eq_false N]
theorem uniB_or{s t w:List U64}{k:Nat}(h:uniB s t k w)(T:k<s.length)(U:iC (t.getD k default).n)(Z:iC (w.getD k default).n):uniB s t (k+1) (w.set k ⟨aD .or .u64 (w.getD k default).n (t.getD k default).n⟩):=by
 refine⟨by rw[a0h];exact h.1,fun i=>?_⟩;rw[bit_set (by rw[h.1];exact T)];by_cases hi:i/64=k
 ·rw[if_pos hi,tb_or Z U];rw[decide_eq_true (show i<64 *(k+1) by omega),a1L];have E:aH t i=tb (t.getD k default).n (i%64):=by unfold aH;rw[hi]
  have N:aH s i=tb (w.getD k default).n (i%64):=by
   rcases kF h (i%64) with e|e
   ·rw[e];unfold aH;rw[hi]
   omega
  rw[E,N]
 rw[if_neg hi,h.2 i];congr 2;rw[decide_eq_decide];omega
theorem uniB_new{s t w:List U64}{k:Nat}(h:uniB s t k w)(N:iC (t.getD k default).n)(Z:iC (w.getD k default).n)(T:aD .andNot .u64 (t.getD k default).n (w.getD k default).n≠0): ∃i,aH t i=true/\aH s i=false:=by
 obtain⟨q,E⟩:=ne0_tb (fM .andNot (t.getD k default).n (w.getD k default).n) T;rw[kG N Z,a09,a0G]at E;have U:q<64:=by
  rcases a0g q 64 with h1|h1
  ·exact h1
  rw[tb_big N h1]at E;exact absurd E.1 e_
 refine⟨64 *k+q,?_,?_⟩
 ·unfold aH;rw[show(64 *k+q)/64=k by omega,show(64 *k+q)%64=q by omega];exact E.1
 rcases kF h q with e|e
 ·unfold aH;rw[show(64 *k+q)/64=k by omega,show(64 *k+q)%64=q by omega,←e];exact E.2
 omega
theorem uniB_all{s t w:List U64}{k:Nat}(h:uniB s t k w)(E:s.length<=k)(N:t.length=s.length)(i:Nat):aH w i=(aH s i||aH t i):=by
 rw[h.2 i];by_cases hi:i<64 *k
 ·rw[decide_eq_true hi,a1L]
 rw[nS (s:=t) M,a1O]
def ms(s:List U64)(m:Nat):List Int:=List.map (fun i:Nat=>(i:Int)) ((List.range m).filter (aH s))
def jU(s:List U64):List Int:=ms s (64 *s.length)
theorem lb{s:List U64}{m:Nat}:ms s (m+1)=ms s m++if aH s m=true then [(m:Int)] else []:=by unfold ms;rw[List.range_succ,List.filter_append,a12];congr 1;rw[a1C];split<;>rfl
theorem lstK_skip{s:List U64}{m:Nat}: ∀(d:Nat),(∀i,m<=i->i<m+d->aH s i=false)->ms s m=ms s (m+d)
 |0,_=>rfl
 |d+1,h=>by rw[show m+(d+1)=(m+d)+1 by omega,lb,if_neg (by rw[h (m+d) M M];decide),a0o];exact lstK_skip d fun i E N=>h i E M
theorem lstK_len{s:List U64}{m:Nat}:(ms s m).length<=m:=by unfold ms;rw[a1u];have:=a1a (aH s) (List.range m);rwa [List.length_range]at this
theorem lst_mem{s:List U64}{x:Int}:x∈jU s↔0<=x/\aH s x.toNat=true:=by
 unfold jU ms;rw[a0u];constructor
 ·rintro⟨i,hi,rfl⟩;rw[a24]at hi;exact⟨by omega,by rw[a0E];exact hi.2⟩
 rintro⟨N,E⟩;refine⟨x.toNat,a24.2 ⟨a2d.2 ?_,E⟩,by omega⟩;rcases a0g x.toNat (64 *s.length) with h2|h2
 ·exact h2
 rw[nS h2]at E;cases E
theorem lst_asc{s:List U64}{m:Nat}:(ms s m).Pairwise (· < ·):=by
 unfold ms;rw[List.pairwise_map];refine(List.Pairwise.sublist List.filter_sublist (List.pairwise_lt_range (n:=m))).imp fun h=>?_
 omega
theorem list_stop{s:List U64}{k b:Nat}(N:iC (s.getD k default).n)(E:b<=64)(T:Int.fdiv (s.getD k default).n (2^(Nat.min b 64))=0):ms s (64 *k+b)=ms s (64 *(k+1)):=by
 rw[show 64 *(k+1)=64 *k+b+(64-b) by omega];refine lstK_skip _ fun i U Z=>?_
 have:=eq0_tb (shr_rng N E) T (i-64 *k-b);rw[tb_shr N E]at this;unfold aH;rw[show i/64=k by omega,show i%64=b+(i-64 *k-b) by omega];exact this
theorem list_lt{s:List U64}{k b:Nat}(T:iC (s.getD k default).n)(N:b<=64)(E:Int.fdiv (s.getD k default).n (2^(Nat.min b 64))≠0):b<64:=by
 rcases a0g b 64 with h|h
 ·exact h
 exfalso;apply E;rw[shr_nat T N,a1Z,Nat.div_eq_of_lt]
 ·rfl
 have:b=64:=M
 subst this;omega
theorem j8{s:List U64}{k b:Nat}(E:iC (s.getD k default).n)(N:b<64):(aD .and .u64 (Int.fdiv (s.getD k default).n (2^(Nat.min b 64))) 1=1)↔aH s (64 *k+b)=true:=by rw[tb_and1 (shr_rng E M),tb_shr E M,a2w];unfold aH;rw[show(64 *k+b)/64=k by omega,show(64 *k+b)%64=b by omega]
open Go.RowKit Go.WideShapes Go.ChangeShapes
section
variable {c_:Type} {enc:TypeId×Value->c_} {P:Program} {w:World} {μ:Emb} {H:Heap}
theorem cell_size{a:Addr}{v:Value}(h:w.cell? a=some v):0<w.heap.size:=by
 unfold World.cell? at h;split at h
 ·rename_i E;have:=(a0K.1 E).1;omega
 cases h
end
open Go.RowKit Go.WideShapes Go.ChangeShapes
section
variable {c_:Type} {enc:TypeId×Value->c_} {P:Program} {w:World} {μ:Emb} {H:Heap}
end
open Go.ChangeShapes
section
variable {H:Type} {enc:TypeId×Value->H}
end
structure Eqs(s s':St):Prop where
 t:cS s.tmps=cS s'.tmps
 n:s.size=s'.size
 h:s.heap=s'.heap
section
variable {P:Program} {G:Nat} {cf:cr} {ops:Array Oper}
end
structure PtrT where
 b:Nat
 deriving Inhabited
instance :Rp PtrT where
 sz:=1
 rep F cs x:=cs=[.pointer (some ⟨x.b,0,none⟩)]
 len:=by rintro F cs x rfl;rfl
 one:=by rintro F cs x rfl;rfl
 mono:=by intro F F' cs x _ h;exact h
section
variable {B:Base} {F F':Fz} {H:Heap} {L R:List Fp}
end
section
variable {P:Program} {G:Nat} {K:bJ} {sz:Nat} {Q:Ex->Fn->Heap->Prop} {ops:Array Oper} {D:List (Nat×ID)} {i:Nat} {os:List Oper} {k:List Fr} {f:Fn} {H:Heap}
end
section
variable {ι β:Type} {Ch:Fz->ι->β->Fp->Prop} {F:Fz}
end
open Go
structure Lv(α:Type)(n:Nat) where
 r:Fz->List Value->α->Prop
 len: ∀{F:Fz} {cs:List Value} {x:α},r F cs x->cs.length=n
 one: ∀{F:Fz} {cs:List Value} {x:α},r F cs x->mU Value.oneCell' cs=true
 mono: ∀{F F':Fz} {cs:List Value} {x:α},F.le F'->r F cs x->r F' cs x
open Go
section
variable {α:Type} [Rp α] {P:Program} {ρ:Operand->Value} {d:Option Tmp} {ty:TypeId} {pos:String} {af:Array Edge} {gd:Option (Nat×Bool)} {B:Base} {F:Fz} {H:Heap} {L R:List Fp} {l:List α}
end
end Go.R
noncomputable section
set_option linter.unusedVariables false
namespace Go.R
open Go
structure U32 where
 n:Int
 deriving DecidableEq,Inhabited
instance :Rp U32 where
 sz:=1
 rep _ cs s:=cs=[.int .u32 s.n]/\0<=s.n/\s.n<4294967296
 len:=by rintro F cs x ⟨rfl,_⟩;rfl
 one:=by rintro F cs x ⟨rfl,_⟩;rfl
 mono:=by intro F F' cs x _ h;exact h
section
variable {F:Fz} {get:Nat->Option AObj} {v:Value} {cf:Nat->List Value} {j:Nat}
theorem vU3{l:List U32}(h:VW F get v l cf j)(T:j<l.length:=by first|(dsimp only;omega)|omega):HC get (sB v) (sO v+j *Rp.sz U32) [.int .u32 (l.getD j default).n]:=by obtain⟨⟨N,_⟩,E⟩:=h.1 default T;rw[N]at E;exact E
theorem fU3{l:List U32}(h:VW F get v l cf j):0<=(l.getD j default).n/\(l.getD j default).n<4294967296:=by
 rcases a0g j l.length with hj|hj
 ·exact(h.1 default hj).1.2
 rw[cb hj];exact⟨a1q _,by decide⟩
end
theorem ft(n:Int):0<=IntKind.u32.wrap n/\IntKind.u32.wrap n<4294967296:=by
 have h:IntKind.u32.wrap n=n%4294967296:=by unfold IntKind.wrap;simp[IntKind.bits,IntKind.signed]
 rw[h];exact⟨Int.emod_nonneg _ e_,Int.emod_lt_of_pos _ e_⟩
theorem ex_eq{α:Type}{P:α->Prop}(t:α)(h:P t): ∃w,w=t/\P w:=⟨t,V,h⟩
class RpI(α:Type) [Rp α]:Prop where
 low: ∀(F F':Fz) (cs:List Value) (x:α),Rp.rep F cs x->Rp.rep F' cs x
instance :RpI Int:=⟨fun _ _ _ _ h=>h⟩
theorem RL.lowI{α:Type} [Rp α] [RpI α]{F F':Fz}: ∀{l:List α} {cs:List Value},RL F cs l->RL F' cs l
 | [],_,h=>h
 |_::_,_,⟨c,r,e,h1,h2⟩=>⟨c,r,e,RpI.low F F' _ _ h1,RL.lowI h2⟩
theorem OS.lowI{α:Type} [Rp α] [RpI α]{F F':Fz}{v:Value}{l:List α}{p:Fp}(h:OS F v l p):OS F' v l p:=by
 rcases h with h|⟨b,off,k,cs,opn,h1,h2,cs',opn',ro,h3,h4,h5,h6,h7⟩
 ·exact .inl h
 exact .inr ⟨b,off,k,cs,opn,h1,h2,cs',opn',ro,h3,h4,h5,h6.lowI,h7⟩
section
variable {B:Base} {F:Fz} {H:Heap} {L R:List Fp}
theorem flat_two{α:Type}{L:List (List α)}{q i:Nat}{x p:List α}(T:q≠i)(hq:L[q]?=some x)(hi:L[i]?=some p):(((L.set q (x++p)).set i []).flatten).Perm L.flatten:=by
 have U:=gv (x++p) hq;have N:(L.set q (x++p))[i]?=some p:=by rw[a1W T];exact hi
 have E:=gv ([]:List α) N;rw[a0o]at E;have Z:=(E.append_right x).trans U;have h4:((((L.set q (x++p)).set i []).flatten++p)++x).Perm ((L.flatten++p)++x):=Z.trans (by rw[a0l];exact a0X _ a1h);exact(a1z p).1 ((a1z x).1 h4)
theorem HS.join2(h:HS B F H L R){q i:Nat}{x p:Fp}(E:q≠i)(N:L[q]?=some x)(hi:L[i]?=some p):HS B F H ((L.set q (x++p)).set i []) R:=h.flat (flat_two E N hi)
theorem HS.cut2(h:HS B F H L R){q:Nat}{x p:Fp}(E:L[q]?=some (x++p)):HS B F H (L.set q x++[p]) R:=h.open E (List.Perm.refl _)
end
end Go.R
end
namespace Go.R
abbrev iI(n:Int):Value:= .int .i64 n
abbrev pT(b o:Nat):Value:= .pointer (some ⟨b,o,none⟩)
abbrev fP(b:Nat)(l:List Value):Fp:=[(b,.cells l none false)]
abbrev sL(a:Option Addr)(n k:Nat):Value:= .slice a n k
abbrev aG(l:List Value):Value:= .agg ⟨l⟩
abbrev tX(b:List UInt8):Value:= .string ⟨⟨b⟩⟩
theorem fT{a b c:Fz}(h:a.le b)(k:b.le c):a.le c:=Fz.le_trans h k
theorem fR{a:Fz}:a.le a:=Fz.le_refl a
theorem wR{P:Program}{G:Nat}{K:bJ}{sz:Nat}{Q:Ex->Fn->Heap->Prop}{f:Fn}{H:Heap}{c1:Code}{k k1:List Fr}(n:Nat){id:Nat}{ops:Array Oper}(hs:List (Nat×Hint))(lo hi:Nat)(ex:List Nat)(l:List (Nat×Value)){p:Prop}(T:p)(E:foc n .skip k=(c1,k1))(N: ∀g,WK P G K sz c1 k1 (gQ (hav lo hi ex g f) l) H Q)(h:gg P G (W0 P G K H) sz ops f 0 ops.toList hs lo hi ex (dF Prod.fst l)=some (l,p):=by kernel_rfl):WK P G K sz (.region id ops false) k f H Q:=wr n hs lo hi ex l T h E N
theorem wRD{P:Program}{G:Nat}{K:bJ}{sz:Nat}{Q:Ex->Fn->Heap->Prop}{f:Fn}{H:Heap}{c1:Code}{k k1:List Fr}(n:Nat){id:Nat}{ops:Array Oper}(hs:List (Nat×Hint))(lo hi:Nat)(ex:List Nat)(l:List (Nat×Value)){p:Prop}(T:p)(U:(bh ops&&P.follows .mixedOrders)=true)(E:foc n .skip k=(c1,k1))(N: ∀g,WK P G K sz c1 k1 (gQ (hav lo hi ex g f) l) H Q)(h:gg P G (W0 P G K {H with log:=[]}) sz ops f 0 ops.toList hs lo hi ex (dF Prod.fst l)=some (l,p):=by kernel_rfl):WK P G K sz (.region id ops true) k f H Q:=wrD n hs lo hi ex l T U h E N
theorem wRo{P:Program}{G:Nat}{K:bJ}{sz:Nat}{Q:Ex->Fn->Heap->Prop}{f:Fn}{H:Heap}{k:List Fr}(n i:Nat){ops:Array Oper}{os E:List Oper}(hs:List (Nat×Hint))(lo hi:Nat)(ex:List Nat)(l:List (Nat×Value)){p:Prop}(U:p)(N:dY os n=E)(T: ∀g,WO P G K sz ops E k (gQ (hav lo hi ex g f) l) H Q)(h:gg P G (W0 P G K H) sz ops f i (dU os n) hs lo hi ex (dF Prod.fst l)=some (l,p):=by kernel_rfl):WO P G K sz ops os k f H Q:=wro n i hs lo hi ex l U h N T
theorem wT{P:Program}{G:Nat}{K:bJ}{sz:Nat}{Q:Ex->Fn->Heap->Prop}{f:Fn}{H:Heap}{c1:Code}{k k1:List Fr}(n:Nat){id:Nat}{ops:Array Oper}(hs:List (Nat×Hint))(lo hi:Nat)(ex:List Nat)(l:List (Nat×Value))(E:foc n .skip k=(c1,k1))(N: ∀g,WK P G K sz c1 k1 (gQ (hav lo hi ex g f) l) H Q)(h:gg P G (W0 P G K H) sz ops f 0 ops.toList hs lo hi ex (dF Prod.fst l)=some (l,True):=by kernel_rfl):WK P G K sz (.region id ops false) k f H Q:=wR n hs lo hi ex l trivial E N h
theorem wU{P:Program}{G:Nat}{K:bJ}{sz:Nat}{Q:Ex->Fn->Heap->Prop}{f:Fn}{H:Heap}{c1:Code}{k k1:List Fr}(n:Nat){id:Nat}{ops:Array Oper}(hs:List (Nat×Hint))(lo hi:Nat)(ex:List Nat)(l:List (Nat×Value)){p:Prop}(T:p)(E:foc n .skip k=(c1,k1))(N: ∀g,WK P G K sz c1 k1 (gQ (hav lo hi ex g f) l) H Q)(h:gg P G (W0 P G K H) sz ops f 0 ops.toList hs lo hi ex (dF Prod.fst l)=some (l,p/\True):=by kernel_rfl):WK P G K sz (.region id ops false) k f H Q:=wR n hs lo hi ex l ⟨T,trivial⟩ E N h
theorem wTo{P:Program}{G:Nat}{K:bJ}{sz:Nat}{Q:Ex->Fn->Heap->Prop}{f:Fn}{H:Heap}{k:List Fr}(n i:Nat){ops:Array Oper}{os E:List Oper}(hs:List (Nat×Hint))(lo hi:Nat)(ex:List Nat)(l:List (Nat×Value))(N:dY os n=E)(T: ∀g,WO P G K sz ops E k (gQ (hav lo hi ex g f) l) H Q)(h:gg P G (W0 P G K H) sz ops f i (dU os n) hs lo hi ex (dF Prod.fst l)=some (l,True):=by kernel_rfl):WO P G K sz ops os k f H Q:=wRo n i hs lo hi ex l trivial N T h
theorem wUo{P:Program}{G:Nat}{K:bJ}{sz:Nat}{Q:Ex->Fn->Heap->Prop}{f:Fn}{H:Heap}{k:List Fr}(n i:Nat){ops:Array Oper}{os E:List Oper}(hs:List (Nat×Hint))(lo hi:Nat)(ex:List Nat)(l:List (Nat×Value)){p:Prop}(U:p)(N:dY os n=E)(T: ∀g,WO P G K sz ops E k (gQ (hav lo hi ex g f) l) H Q)(h:gg P G (W0 P G K H) sz ops f i (dU os n) hs lo hi ex (dF Prod.fst l)=some (l,p/\True):=by kernel_rfl):WO P G K sz ops os k f H Q:=wRo n i hs lo hi ex l ⟨U,trivial⟩ N T h
theorem g_{B:Base}{F:Fz}{H:Heap}{L R:List Fp}(h:HS B F H L R){p:Fp}(e:L[0]?=some p):HS (.of H (p.map Prod.fst)) F H [p] (L.set 0 []++R):=HS.callOwn h e
theorem h_{B:Base}{F:Fz}{H:Heap}{L R:List Fp}(h:HS B F H L R){b:Nat}{cs:List Value}(e:L[0]?=some [(b,.cells cs none false)]):HC H.get b 0 cs:=HS.hc h e
theorem i_{B:Base}{F:Fz}{H:Heap}{L R:List Fp}(h:HS B F H L R){b:Nat}{cs:List Value}(e:L[1]?=some [(b,.cells cs none false)]):HC H.get b 0 cs:=HS.hc h e
theorem j_{B:Base}{F:Fz}{H:Heap}{L R:List Fp}(h:HS B F H L R){b:Nat}{cs:List Value}(e:L[2]?=some [(b,.cells cs none false)]):HC H.get b 0 cs:=HS.hc h e
theorem k_{F:Fz}:∀{l:List Str},RL F (l.map fun s=>.string ⟨⟨s.b⟩⟩) l
|[]=>RL.nl
|_::_=>RL.cs rfl k_
theorem l_{p:Prop}(h:p:=by simp;omega):p:=h
theorem m_{p:Prop}(h:p:=by rfl):p:=h
theorem n_{p:Prop}(h:p:=by first|omega|(simp only[a01,a05,a0b];omega)):p:=h
theorem o_{p:Prop}(h:p:=by simp):p:=h
theorem p_{p:Prop}(h:p:=by rw[a0p];omega):p:=h
theorem f_{f:Fn}{l:List (Nat×Value)}(h:aB f l:=by(repeat refine agC rfl ?_);exact agN):aB f l:=h
theorem q_{o:Array Oper}{i:Nat}{e:ID}{D:List (Nat×ID)}(h:okD o i e D:=by first|exact kb rfl|(repeat' first|exact trivial|refine⟨.inl rfl,?_⟩|refine⟨.inr trivial,?_⟩)):okD o i e D:=h
theorem r_{p:Prop}(h:p:=by first|assumption|omega|(simp at *;omega)):p:=h
theorem s_{p:Prop}(h:p:=by(simp only[a01,a05,a0b,a0p,a0H];omega)):p:=h
theorem t_{p:Prop}(h:p:=by simp only[a01,a0p,a0H,a05,a0b];omega):p:=h
theorem u_{p:Prop}(h:p:=by(simp<;>omega)):p:=h
theorem K_{p:Prop}(h:p:=by kernel_rfl):p:=h
abbrev S_{α:Type}(a:Option Addr)(l:List α)(k:Nat):Value:=sL a l.length k
abbrev Sr{α:Type} [Rp α](F:Fz)(a:Option Addr)(l:List α)(k:Nat):Prop:=SR F (sL a l.length k) l
abbrev OZ{α:Type} [Rp α](F:Fz)(a:Option Addr)(l:List α)(k:Nat)(p:Fp):Prop:=OS F (sL a l.length k) l p
abbrev Hb(H:Heap):=HS (Base.of H [])
abbrev N_:Value:=sL none 0 0
instance:Coe Int Value:=⟨iI⟩
instance:Coe Bool Value:=⟨.bool⟩
end Go.R
