/-
Symbolic runs by computation, data, the laid table.
-/
import Derived.Test.YtknafdcgpaejlaaDoorZFRC
import Derived.Laws.Bits128
import Derived.OpenShut
import Derived.ReadAgain
import Derived.Test.YtknafdcgpaejlaaDoorZFRB
import Derived.Deep.Slices
import Derived.JoinedCond
import Derived.LaidLaws
import Derived.KernelRfl
noncomputable section
namespace Go.R
section
variable {P:Program} {f:Fn} {H:Heap} {rs:List ResultVar} {l:List Value}
theorem rN:cb P f H []=some []:=rfl
theorem rT{t:Tmp}{v:Value}(z:f t=v)(h:cb P f H rs=some l):cb P f H (.tmp t::rs)=some (v::l):=by unfold cb;rw[h,z]
theorem rC{a:Tmp}{t:TypeId}{p:Addr}{v:Value}(z:f a= .pointer (some p))(A:H.loadV P t p=some v)(h:cb P f H rs=some l):cb P f H (.cell a t::rs)=some (v::l):=by unfold cb;rw[z];simp only[A,h]
theorem ldVN{t:TypeId}{b n:Nat}{cs:List Value}(E:gf P t=some true)(hs:dp P t=some n)(hc:HC H.get b 0 cs)(N:cs.length=n):H.loadV P t ⟨b,0,none⟩=some (.agg ⟨cs⟩):=by obtain⟨all,T,U,A,z⟩:=hc;unfold Heap.loadV;rw[E];simp only[hs];unfold Heap.loadN;rw[a15]at z;subst N;simp only[A,ca,cn,bS,a15,z,a0Z,cond_true]
end
section
variable {α:Type} [Rp α] {P:Program} {ρ:Operand->Value} {d:Option Tmp} {ty:TypeId} {pos:String} {af:Array Edge} {gd:Option (Nat×Bool)} {B:Base} {F:Fz} {H:Heap} {L R:List Fp} {v:Value} {l:List α} {p:Fp}
theorem ap_boolNe{t yt:TypeId}{x y:Operand}{a b:Bool}(A:ρ x= .bool a)(E:ρ y= .bool b)(z: ∀a b:Bool,aq P (dL .neq t x y a b)=some (.value (.bool (a !=b)))):AP P ρ ⟨d,.binOp .neq t x y yt,ty,pos,af,gd⟩ H (.val (.bool (a !=b)),H):=by
 refine⟨?_⟩;show aBin P ρ _ .neq t (ρ x) y H=_;rw[A];show bw P ρ _ H=_;unfold bw;have N:((Op.binOp .neq t x y yt).operands.toList.all fun x=>gE (ρ x))=true:=by simp[Op.operands,A,E,gE,noA0]
 simp only[N,cond_true];have T:aq P (execOp ρ ⟨d,.binOp .neq t x y yt,ty,pos,af,gd⟩)=some (.value (.bool (a !=b))):=by rw[←z a b];unfold execOp dL;simp only[A,E]
 rw[T];rfl
theorem OS.len'{F:Fz}{a:Option Addr}{n k:Nat}{l:List α}{p:Fp}(h:OS F (.slice a n k) l p):l.length=n:=by obtain⟨z,A,e⟩:=h.shape;injection e with _ e _;exact e.symm
theorem OS.norm{F:Fz}{a:Option Addr}{n k:Nat}{l:List α}{p:Fp}(h:OS F (.slice a n k) l p):OS F (.slice a l.length k) l p:=by rw[h.len'];exact h
theorem ap_ixG{x i:Operand}{t:TypeId}{cs:Array Value}{w r:Value}(z:ρ x= .agg cs)(hi:ρ i=w)(h:aq P (Instr.index t (.agg cs) w)=some r):AP P ρ ⟨d,.index t x i,ty,pos,af,gd⟩ H (.val r,H):=by refine⟨?_⟩;show j5 P t (ρ x) (ρ i) H=_;rw[z,hi];show lift P (Instr.index t (.agg cs) w) H=_;unfold lift;rw[h]
end
section
variable {α:Type} [Rp α] {P:Program} {ρ:Operand->Value} {d:Option Tmp} {ty:TypeId} {pos:String} {af:Array Edge} {gd:Option (Nat×Bool)} {B:Base} {F:Fz} {H:Heap} {L R:List Fp} {v:Value} {l:List α} {p:Fp} {t e:TypeId} {x:Operand} {i j q:Nat}
theorem rs_cutd{lo:Option Operand}(h:SR F v l)(hs:HS B F H L R)(N:ρ x=v)(E:P.underlying t=some (.slice e))(T:dp P e=some (Rp.sz α))(A:bY 0 (lo.map ρ)=some i)(z:i<=l.length):
  ∃r:Rs,AP P ρ ⟨d,.slice t x lo none none,ty,pos,af,gd⟩ H (.val r.v,r.H)/\(∃a k,r.v= .slice a (l.drop i).length k/\r.H=H/\SR F (.slice a (l.drop i).length k) (l.drop i)):=by
 have:=rs_cut (d:=d) (ty:=ty) (pos:=pos) (af:=af) (gd:=gd) (hi:=none) h hs N E T optN0 A z (a0a _)
 rwa [a0i (a0a _)]at this
theorem lv{hi:Option Operand}(h:SR F v l)(hs:HS B F H L R)(N:ρ x=v)(E:P.underlying t=some (.slice e))(T:dp P e=some (Rp.sz α))(z:bY l.length (hi.map ρ)=some j)(A:j<=l.length):
  ∃r:Rs,AP P ρ ⟨d,.slice t x none hi none,ty,pos,af,gd⟩ H (.val r.v,r.H)/\(∃a k,r.v= .slice a (l.take j).length k/\r.H=H/\SR F (.slice a (l.take j).length k) (l.take j)):=by
 have:=rs_cut (d:=d) (ty:=ty) (pos:=pos) (af:=af) (gd:=gd) (lo:=none) h hs N E T z optN0 (a0D _) A
 rwa [a15]at this
end
end Go.R
end
noncomputable section
namespace Go.R
theorem w64_in(n:Int):in64 (IntKind.i64.wrap n):=by rw[IntKind.wrap_i64];constructor<;>omega
theorem u64_eq(n:Int):IntKind.u64.wrap n=n%18446744073709551616:=rfl
abbrev bv(n:Int):BitVec 64:=BitVec.ofInt 64 n
theorem bv_toNat(a:Int):((bv a).toNat:Int)=a%18446744073709551616:=by rw[bv,BitVec.toNat_ofInt];omega
end Go.R
end
noncomputable section
namespace Go.R
def decD(d:Nat):UInt8:=UInt8.ofNat (48+d)
def dec(n:Nat):List UInt8:=if n<10 then [decD n] else dec (n/10)++[decD (n%10)]
def isDig(c:UInt8):Bool:=decide (48<=c.toNat)&&decide (c.toNat<=57)
def valA(n:Nat)(c:UInt8):Nat:=10*n+(c.toNat-48)
def val(l:List UInt8):Nat:=l.foldl valA 0
def okNum(t:List UInt8):Bool:=decide (1<=t.length)&&decide (t.length<=19)&&t.all isDig&&(t.headD 0 !=48||t.length==1)
def posS(s:List UInt8)(z:Nat):Option Nat:=if okNum s=true/\val s<=z then some (val s) else none
def parseS(s:List UInt8):Option Int:=
 if s.headD 0=45 then(match posS s.tail 9223372036854775808 with
  |some 0=>none
  |some n=>some (-(n:Int))
  |none=>none)
 else(match posS s 9223372036854775807 with
  |some n=>some (n:Int)
  |none=>none)
def textS(n:Int):List UInt8:=if n<0 then 45::dec n.natAbs else dec n.toNat
end Go.R
end
noncomputable section
namespace Go.R
open Go.RowKit Go.WideShapes Go.ChangeShapes
structure Em(w:World)(μ:Emb)(H:Heap):Prop where
 rel:WRel μ H w
 ro: ∀b o,H.get b=some o->o.rw=false
 wf:WF H
 dom: ∀b,H.next<=b->μ b=none
 log:H.log=[]
section
variable {w:World} {μ:Emb} {H:Heap}
theorem Em.lt(h:Em w μ H){b:Nat}{o:AObj}(z:H.get b=some o):b<H.next:=by
 rcases a0k b H.next with h1|h1
 ·exact h1
 rw[h.wf b h1]at z;cases z
theorem Em.add(h:Em w μ H){c sh:Nat}{cs:List Value}(hc:c<w.heap.size)(E: ∀(i:Nat) v,cs[i]?=some v->∃v',w.cell? ⟨c,sh+i,none⟩=some v'/\VRel μ v v'):
  Em w (μ.set H.next ⟨c,sh,none,0⟩) (H.push (.cells cs none true)):=by
 have N:=Emb.set_ext (μ:=μ) (b:=H.next) ⟨c,sh,none,0⟩ (h.dom _ (a0a _))
 have T: ∀b o,(H.push (.cells cs none true)).get b=some o->(b=H.next/\o= .cells cs none true)\/(b≠H.next/\H.get b=some o):=by
  intro b o z;by_cases e:b=H.next
  ·subst e;rw[Heap.get_push_same]at z;exact .inl ⟨rfl,(Option.some.inj z).symm⟩
  rw[Heap.get_push_ne _ _ (Ne.symm e)]at z;exact .inr ⟨e,z⟩
 have U: ∀b o,(H.push (.cells cs none true)).get b=some o->o.rw=false:=by
  intro b o z;rcases T b o z with⟨_,rfl⟩|⟨_,V⟩
  ·rfl
  exact h.ro b o V
 refine⟨⟨fun b l o z ho=>?_,fun b1 b2 l1 l2 o1 o2 _ _ _ h3 _ Z _=>?_⟩,U,fun b z=>?_,fun b z=>?_,h.log⟩
 ·rcases T b o ho with⟨rfl,rfl⟩|⟨ad,ag⟩
  ·rw[Emb.set_same]at z;obtain rfl:=Option.some.inj z;refine⟨rfl,rfl,hc,fun i v hv=>?_⟩;obtain⟨v',V,h2⟩:=E i v hv;exact⟨v',V,h2.mono N⟩
  rcases Emb.set_inv z with⟨e,_⟩|⟨_,A⟩
  ·exact absurd e ad
  exact(h.rel.obj b l o A ag).keep N (a0a _) (fun _=>rfl)
 ·rw[U b1 o1 h3]at Z;cases Z
 ·have A:H.next+1<=b:=z;rw[Heap.get_push_ne _ _ (by omega)];exact h.wf b (by omega)
 have A:H.next+1<=b:=z
 unfold Emb.set
 rw[if_neg (by omega)];exact h.dom b (by omega)
theorem Em.hs(h:Em w μ H):HS (.of H []) H.get H [] []:=
 ⟨fun b o z=>⟨z,h.lt z⟩,fun p A=>by simp at A,by simp,a0a _,fun b z=> .inl z,fun p A=>by simp at A⟩
end
structure EmLe(μ:Emb)(H:Heap)(μ':Emb)(H':Heap):Prop where
 emb: ∀b l,μ b=some l->μ' b=some l
 heap:Fz.le H.get H'.get
theorem EmLe.refl(μ:Emb)(H:Heap):EmLe μ H μ H:=⟨fun _ _ h=>h,fun _ _ h=>h⟩
theorem EmLe.add{w:World}{μ:Emb}{H:Heap}(h:Em w μ H)(l:Loc)(o:AObj):EmLe μ H (μ.set H.next l) (H.push o):=
 ⟨Emb.set_ext l (h.dom _ (a0a _)),fun b x z=>by rw[Heap.get_push_ne _ _ (Nat.ne_of_gt (h.lt z))];exact z⟩
section
variable {X:Type} {enc:TypeId×Value->X} {P:Program} {w:World} {μ:Emb} {H:Heap}
theorem wf_in64{n:Int}(h:(Lit.int .i64 n).wf=true):in64 n:=by simp[Lit.wf,IntKind.min,IntKind.max,IntKind.signed,IntKind.bits]at h;exact⟨by omega,by omega⟩
theorem RL_ints{F:Fz}: ∀(l:List Int),(∀n∈l,in64 n)->RL F (l.map fun n=>Value.int .i64 n) l
 | [],_=>rfl
 |n::l,h=>⟨[.int .i64 n],l.map fun n=>Value.int .i64 n,rfl,⟨rfl,h n (by simp)⟩,RL_ints l fun m z=>h m (by simp[z])⟩
theorem em_ints{base:Nat}{t e:TypeId}{v:Value}{d:DataW X}{ps:List MemPlace}(h:Em w μ H)(U:P.underlying t=some (.slice e))(he:P.underlying e=some (.int .i64))(hc:P.cellsOf e=1)(ad:Value.okWide P w .any base t v)
  (hd:DataW.Trod enc P w 0 (fun _=>true) true t v d ps):
  ∃μ' H' a k,∃l:List Int,Em w μ' H'/\EmLe μ H μ' H'/\VRel μ' (.slice a l.length k) v/\SR H'.get (.slice a l.length k) l/\(l.length<=maxLen)/\(∃aw,d= .slice (Go.ChangeShapes.lits .i64 l) aw\/d= .nil/\l=[]):=by
 obtain⟨a,len,N,rfl⟩:=okWide_slice U ad
 obtain⟨fuel,hf⟩:=hd
 rcases Go.ChangeShapes.open_ints U he hc hf with⟨T,E⟩|⟨a',len',a4,z,T,_,a0,be,ar,E,ai,a3⟩
 ·simp[Value.cells]at T;obtain⟨rfl,rfl,rfl⟩:=T;simp only[a03]at E;exact⟨μ,H,none,0,[],h,.refl _ _,.atom _ rfl,.nil,a0D _,[],.inr ⟨E.1,rfl⟩⟩
 simp[Value.cells]at T
 obtain⟨rfl,rfl,rfl⟩:=T
 have a1:a'.spot=none/\a'.block<w.heap.size:=by
  have Z:Cell.ok P w .any base t (.slice (some a') len N):=by have:=ad;unfold Value.okWide at this;rw[U]at this;simp only at this;unfold Cell.okWide at this;rw[U]at this;exact this
  unfold Cell.ok at Z;rw[U]at Z;obtain⟨_,_,_,a2,bk,cells,hs,_⟩:=Z;refine⟨a2,?_⟩;unfold World.shape? at hs;split at hs
  ·rename_i ay;exact(a0E.1 ay).1
  cases hs
 obtain⟨c,off,sp⟩:=a'
 obtain⟨rfl,ax⟩:=a1
 simp only[if_true]at ar
 have ao: ∀n∈z.take len,in64 n:=fun n hn=>wf_in64 (a3 n (a1s hn))
 have hl:(z.take len).length=len:=by rw[a0j];omega
 have hA:=h.add (c:=c) (sh:=off) (cs:=(z.take len).map fun n=>Value.int .i64 n) ax (fun i v V=>by
  rw[a1h]at V;cases A:(z.take len)[i]? with
  |none=>rw[A]at V;cases V
  |some n=>
   rw[A]at V
   obtain rfl:=Option.some.inj V
   have hi:=(a0v.1 A).1
   have an:=ai i (by rw[hl]at hi;omega)
   have hn:z.getD i 0=n:=by
    rw[a0x]at A;split at A
    ·rw[a01,A];rfl
    cases A
   refine⟨_,?_,.atom _ rfl⟩
   rw[hn]at an
   rw[←an]
   congr 1
   unfold Addr.add
   split
   ·rename_i h0;subst h0;rfl
   rfl)
 refine⟨_,_,some ⟨H.next,0,none⟩,N,z.take len,hA,.add h _ _,?_,?_,by rw[hl];omega,z.drop len|>Go.ChangeShapes.lits .i64,.inl ?_⟩
 ·rw[hl];have:=VRel.sliceC (μ:=μ.set H.next ⟨c,off,none,0⟩) H.next 0 len N ⟨c,off,none,0⟩ (Emb.set_same _ _ _) rfl;simpa using this
 ·refine .inr ⟨H.next,0,N,_,rfl,Heap.get_push_same _ _,_,none,true,rfl,fun E=>(by cases E),(by rw[hl];exact a0),?_,.inl rfl⟩;have e1:((z.take len).map fun n=>Value.int .i64 n).length=(z.take len).length*Rp.sz Int:=by rw[a1B];show _=_*1;omega
  rw[a15,←e1,a1e];exact RL_ints _ ao
 simp only[a03]at E
 exact E.1
end
section
variable {X:Type} {enc:TypeId×Value->X} {P:Program}
theorem hN{w w':World}{base:Nat}{z:Nat->Bool}{held:Bool}: ∀{E:List TypeId} {N:List Value} {ds:List (DataW X)} {ps:List MemPlace},DataW.TrodAll enc P w base z held E N ds ps->(∀p∈ps,w.sameAt w' p)->DataW.TrodAll enc P w' base z held E N ds ps
 | [],[],[],_,h,_=>h
 |_::_,_::_,_::_,_,⟨p,q,⟨n,h1⟩,h2,e⟩,hs=>⟨p,q,⟨n,DataW.trod_carry n _ _ _ h1 fun x A=>hs x (by rw[e];exact List.mem_append_left _ A)⟩,hN h2 fun x A=>hs x (by rw[e];exact List.mem_append_right _ A),e⟩
theorem post_law{f:Func}{s:ChangeSpec}{E Z N V:Bool}{W W':World}{args:Array Value}{ds gs:List (DataW X)}{A:List MemPlace}{tb:TypeId}
  (K:Kids P (· <P.types.size)) (al: ∀t e,t<P.types.size->P.underlying t=some (.slice e)->0<P.cellsOf e) (ar: ∀t∈f.params.toList,t<P.types.size)
  (hW:DataW.Whole enc P f.params.toList s.vars E W args.toList ds gs A) (U:s.vars=[]) (z:f.resultTypes= #[tb]) (ag:P.underlying tb=some .bool)
  (T:s.fn X (ds++gs)={results:=[.lit (.bool true)],args:=ds}) (hb:Below W.heap.size W W'):s.post enc P f E Z N V W args (.bool true) W':=by
 have a0: ∀p∈A,p.block<W.heap.size:=fun p hp=>by simpa using hW.lt p hp
 have ax:=hW
 obtain⟨p,q,hA,hV,rfl,a8,a9⟩:=hW
 have hq:q=[]/\gs=[]:=by
  rw[U]at hV;cases gs with
  |nil=>exact⟨hV,rfl⟩
  |cons _ _=>exact absurd hV id
 obtain⟨rfl,rfl⟩:=hq
 refine lB (pa:=p) (pv:=[]) ax (fun b sp hd=>?_) (fun sp a1=>?_) (fun sp _=>?_) rfl hb ?_
 ·rw[T,z];exact trodAll_cons_mk (shut_bool ag true) rfl
 ·rw[T];refine DataW.TrodAll.respare K al ar (hN hA fun x hx=>hb.same (a0 x (by simpa using hx))) fun x hx=>a1 x (by simpa using hx)
 ·rw[U,T];rfl
 rw[z]
 intro j t r h1 h2
 exact ok_one (f:=f) z rfl (okWide_bool_mk ag true) j t r (by rw[z];exact h1) (by rw[z];exact h2)
end
end Go.R
end
noncomputable section
namespace Go.R
open Go
section
variable {P:Program} {d:Nat} {t:TypeId}
theorem eqI{k:IntKind}{a b:Int}(z:P.underlying t=some (.int k)):aq P (Op.equalIn (d+1) t (.int k a) (.int k b))=some (a==b):=by simp[Op.equalIn,underlying,z]
theorem eqB{a b:Bool}(z:P.underlying t=some .bool):aq P (Op.equalIn (d+1) t (.bool a) (.bool b))=some (a==b):=by simp[Op.equalIn,underlying,z]
structure EqF(P:Program)(d:Nat)(xs ys:Array Value)(f:Field)(b:Bool):Prop where
 named:f.name≠ "_"
 ok: ∃u v,aq P (part f.type xs f.offset)=some u/\aq P (part f.type ys f.offset)=some v/\aq P (Op.equalIn d f.type u v)=some b
inductive EqFs(P:Program)(d:Nat)(xs ys:Array Value):List Field->List Bool->Prop
 |nil:EqFs P d xs ys [] []
 |cons {f b fs bs}:EqF P d xs ys f b->EqFs P d xs ys fs bs->EqFs P d xs ys (f::fs) (b::bs)
def eqLoop(d:Nat)(xs ys:Array Value)(fs:List Field):Sem (Option Bool×Unit):=
 forIn fs ((none:Option Bool),()) fun f (_:Option Bool×Unit)=>
  if f.name≠ "_" then do
   if !(←Op.equalIn d f.type (←part f.type xs f.offset) (←part f.type ys f.offset)) then pure (ForInStep.done (some false,()))
   else pure (ForInStep.yield (none,()))
  else pure (ForInStep.yield (none,()))
theorem eq_loop{xs ys:Array Value}{fs:List Field}{bs:List Bool}(h:EqFs P d xs ys fs bs):
  aq P (eqLoop d xs ys fs)=some (if bs.all id=true then none else some false,()):=by
 induction h with
 |nil=>simp[eqLoop]
 | @cons f b fs bs hf _ ih=>
  obtain⟨N,u,v,z,A,E⟩:=hf
  unfold eqLoop at ih⊢
  rw[List.forIn_cons,if_pos N]
  simp only[aJ,z,A,E,a0q]
  cases b
  ·simp
  simp only[a1y,a0K,if_false,bQ,a0q,ih]
  simp
theorem eq_struct{fs:Array Field}{xs ys:Array Value}{bs:List Bool}(z:P.underlying t=some (.struct fs))(hs:P.stoodInHeld t=false)
  (h:EqFs P d xs ys fs.toList bs):aq P (Op.equalIn (d+1) t (.agg xs) (.agg ys))=some (bs.all id):=by
 simp only[Op.equalIn,underlying,aJ,eb,a0q,z,bQ,hs,a0K,if_false]
 rw[←Array.forIn_toList]
 have:=eq_loop h
 unfold eqLoop at this
 rw[this]
 cases bs.all id<;>rfl
end
section
variable {P:Program} {ρ:Operand->Value} {d:Option Tmp} {ty:TypeId} {pos:String} {af:Array Edge} {gd:Option (Nat×Bool)} {H:Heap}
theorem gO{cs:List Value}(h:cs.all noA0=true):gE (.agg ⟨cs⟩)=true:=h
theorem ap_agEq{t yt:TypeId}{x y:Operand}{xs ys:List Value}{fs:Array Field}{bs:List Bool}(z:ρ x= .agg ⟨xs⟩)(N:ρ y= .agg ⟨ys⟩)
  (A:xs.all noA0=true) (E:ys.all noA0=true)
  (hu:P.underlying t=some (.struct fs)) (hs:P.stoodInHeld t=false) (hg:P.eqGuardType P.depth t=false)
  (h:EqFs P 9999 ⟨xs⟩ ⟨ys⟩ fs.toList bs):AP P ρ ⟨d,.binOp .eql t x y yt,ty,pos,af,gd⟩ H (.val (.bool (bs.all id)),H):=by
 refine⟨?_⟩
 show aBin P ρ _ .eql t (ρ x) y H=_
 rw[z]
 show bw P ρ _ H=_
 unfold bw
 have V:((Op.binOp .eql t x y yt).operands.toList.all fun x=>gE (ρ x))=true:=by simp[Op.operands,z,N,gO A,gO E]
 simp only[V,cond_true]
 have Z:aq P (execOp ρ ⟨d,.binOp .eql t x y yt,ty,pos,af,gd⟩)=some (.value (Value.bool (bs.all id))):=by
  unfold execOp;simp only[z,N,aJ];have T:aq P (eqGuard .eql t x y (.agg ⟨xs⟩) (.agg ⟨ys⟩))=some ():=by simp[eqGuard,hg]
  have U:aq P (binOp .eql t (.agg ⟨xs⟩) (.agg ⟨ys⟩))=some (Value.bool (bs.all id)):=by show aq P (Op.equal t (.agg ⟨xs⟩) (.agg ⟨ys⟩)>>=fun b=>(Pure.pure (Value.bool b):Sem Value))=_;rw[aJ,show Op.equal t (.agg ⟨xs⟩) (.agg ⟨ys⟩)=Op.equalIn (9999+1) t (.agg ⟨xs⟩) (.agg ⟨ys⟩) from rfl,eq_struct hu hs h];rfl
  simp only[T,U,a0q];rfl
 rw[Z];rfl
end
end Go.R
end
noncomputable section
namespace Go.R
open Go.RowKit
def tcell(n:Nat):AObj:= .cells [.slice (some ⟨1,0,none⟩) n n] none true
open Classical in
def KT(z ex n:Nat)(cells:List Value):bM:=fun f args H=>match args with
 | []=>bif (Nat.ble f z&&Nat.beq f ex) then(if H.get 0=some (tcell n)/\H.get 1=some (.cells cells none true) then some (.bool true) else none) else none
 |_=>none
theorem kt_ok{P:Program}{U ex n fuel:Nat}{cells:List Value}(h:saysTrue (call P 1 noneKnown fuel ex [] (tabHeap n cells))=true)(N:cells.all noA0=true)(al:cells≠ [])(a6:0<n:=by decide):KnownOK P 1 (KT U ex n cells):=by
 intro f args H v z;unfold KT at z;split at z
 ·cases V:(Nat.ble f U&&Nat.beq f ex) with
  |false=>rw[V]at z;cases z
  |true=>
   rw[V]at z
   simp only[cond_true]at z
   split at z
   ·rename_i hT;obtain rfl:=Option.some.inj z;obtain rfl:=a09 (Bool.and_eq_true_iff.1 V).2;refine⟨rfl,rfl,fun μ A w hc hG hw=>?_⟩;obtain rfl:A= #[]:=by cases A;simp_all
    obtain⟨l0,ag,hc0,ar⟩:=hG 0 (Nat.zero_lt_succ _);obtain⟨_,_,_,h4⟩:=hw.obj 0 l0 _ ag hT.1;obtain⟨v',T,hr⟩:=h4 0 _ rfl;obtain⟨E,ai,ao⟩:=hr.slice_inv;obtain⟨an,_,_,h5⟩:=hw.obj 1 E _ ai hT.2;have e1:v'= .slice (some ⟨E.c,E.sh+0,none⟩) n n:=by
     rcases ao with⟨_,e⟩|⟨e,o',k',hx,_⟩|⟨hz,_,_⟩
     rotate_right
     ·omega
     ·exact e
     rw[an]at hx;cases hx
    subst e1;rw[hc0,ar]at T;refine iV none_ok h N (c:=E.c) (o:=E.sh+0) T al fun i v hv=>?_
    obtain⟨a7,Z,h7⟩:=h5 i v hv;rw[h7.eq0 (a0y.1 N v (a0l hv))]at Z;simpa using Z
   cases z
 cases z
theorem Em.tab{w:World}{n c o:Nat}{cells:List Value}(al:cells.all noA0=true)(ao:cells≠ [])
  (h0:w.cell? ⟨0,0,none⟩=some (.slice (some ⟨c,o,none⟩) n n)) (h1: ∀i v,cells[i]?=some v->w.cell? ⟨c,o+i,none⟩=some v):
  ∃μ,Em w μ (tabHeap n cells)/\GRel μ 1:=by
 have T: ∀{a:Addr} {v:Value},w.cell? a=some v->a.block<w.heap.size:=by
  intro a v A;unfold World.cell? at A;split at A
  ·rename_i an;exact(a0E.1 an).1
  cases A
 let μ:Emb:=fun b=>if b=1 then some ⟨c,o,none,0⟩ else if b=0 then some ⟨0,0,none,0⟩ else none
 have U: ∀b x,(tabHeap n cells).get b=some x->x.rw=false:=by
  intro b x z;rw[ct]at z;split at z
  ·injection z with z;subst z;rfl
  split at z
  ·injection z with z;subst z;rfl
  cases z
 refine⟨μ,⟨⟨fun b l x N z=>?_,fun b1 b2 l1 l2 o1 o2 _ _ _ h3 _ h5 _=>?_⟩,U,fun b N=>?_,fun b N=>?_,rfl⟩,fun g hg=>?_⟩
 ·rw[ct]at z;by_cases Z:b=1
  ·subst Z;rw[if_pos rfl]at z;injection z with z;subst z;have E:l=⟨c,o,none,0⟩:=(Option.some.inj N).symm;subst E;refine⟨rfl,rfl,?_,fun i v A=>⟨v,h1 i v A,.atom v (a0y.1 al v (a0l A))⟩⟩;cases cells with
   |nil=>exact absurd rfl ao
   |cons v r=>exact T (h1 0 v rfl)
  rw[if_neg Z]at z;by_cases V:b=0
  ·subst V;rw[if_pos rfl]at z;injection z with z;subst z;have E:l=⟨0,0,none,0⟩:=(Option.some.inj N).symm;subst E;refine⟨rfl,rfl,T h0,fun i v A=>?_⟩;cases i with
   |zero=>
    simp only[a0X,a00]at A;subst A
    exact⟨_,h0,.sliceC 1 0 n n ⟨c,o,none,0⟩ rfl rfl⟩
   |succ i=>simp at A
  rw[if_neg V]at z;cases z
 ·rw[U b1 o1 h3]at h5;cases h5
 ·have E:2<=b:=N;rw[ct,if_neg (by omega),if_neg (by omega)]
 ·have E:2<=b:=N;show(if b=1 then _ else if b=0 then _ else none)=none;rw[if_neg (by omega),if_neg (by omega)]
 have:g=0:=by omega
 subst this
 exact⟨⟨0,0,none,0⟩,rfl,rfl,rfl⟩
theorem walk_of_EmG{P:Program}{G:Nat}{K:bM}{w:World}{μ:Emb}{H:Heap}(U:KnownOK P G K)(h:Em w μ H)(T:GRel μ G){f:FuncId}{args:List Value}{z:Array Value}(V:LRel μ args z.toList)(hc:C P G K f args H fun v _=>v= .bool true):
  Calls P f z w fun e w'=>e= .returned (.bool true)/\Below w.heap.size w w':=by
 obtain⟨n,v,H',N,rfl⟩:=hc.out
 obtain⟨_,A⟩:=call_ok U n f args H (.bool true) H' N h.wf
 refine(A μ w z V T h.rel (fun b Z _=>h.dom b Z)).mono ?_
 rintro e w' ⟨μ',v',rfl,hr,hp⟩
 rw[hr.eq2 rfl]
 exact⟨rfl,hp.os,hp.tape,hp.out,hp.grow,fun k hk=>hp.keep k hk fun b l x _ hx E=>by rw[h.ro b x hx]at E;cases E⟩
structure TB(n:Nat)(cells:List Value)(F:Fz):Prop where
 at0:F 0=some (tcell n)
 at1:F 1=some (.cells cells none true)
section
variable {n:Nat} {cells:List Value} {F F':Fz}
theorem TB.mono(h:TB n cells F)(z:Fz.le F F'):TB n cells F':=⟨z _ _ h.at0,z _ _ h.at1⟩
theorem TB.start:TB n cells (tabHeap n cells).get:=⟨by rw[ct,if_neg (by omega),if_pos rfl];rfl,by rw[ct,if_pos rfl]⟩
theorem TB.known{z ex:Nat}{H:Heap}(h:TB n cells H.get)(A:Nat.ble ex z=true):KT z ex n cells ex [] H=some (.bool true):=by show(bif (Nat.ble ex z&&Nat.beq ex ex) then _ else _)=_;rw[A,a0Z,a1M,cond_true,if_pos ⟨h.at0,h.at1⟩]
theorem TB.heap{B:Base}{H:Heap}{L R:List Fp}(h:TB n cells F)(hs:HS B F H L R):TB n cells H.get:=⟨(hs.fz _ _ h.at0).1,(hs.fz _ _ h.at1).1⟩
theorem TB.hc{get:Nat->Option AObj}(h:TB n cells get):HC get 0 0 [.slice (some ⟨1,0,none⟩) n n]:=⟨_,none,true,h.at0,rfl⟩
theorem TB.sr{α:Type} [Rp α]{l:List α}(h:TB n cells F)(E:l.length=n)(z:RL F cells l):SR F (.slice (some ⟨1,0,none⟩) l.length n) l:=by refine .inr ⟨1,0,n,_,rfl,h.at1,_,none,true,rfl,fun N=>(by cases N),Nat.le_of_eq E,?_,.inl rfl⟩;have A:cells.length=l.length*Rp.sz α:=z.length;rw[a15,←A,a1e];exact z
end
end Go.R
end
noncomputable section
set_option linter.unusedVariables false
set_option linter.unusedSimpArgs false
namespace Go.R
inductive Hint where
 |p
 |w
 |e (n:Int)
 |o (v:Value)
abbrev Ch:=List (Nat×Bool)
def bq:Bool->Bool->Bool
 |true,b=>b
 |false,b=> !b
theorem bq_eq{a b:Bool}(h:bq a b=true):a=b:=by cases a<;>cases b<;>first|rfl|cases h
def gl:List (Nat×Bool)->Nat->Option Bool
 | [],_=>none
 |(s,g)::G,t=>bif Nat.beq s t then some g else gl G t
def act(G:List (Nat×Bool)):Ch->Bool
 | []=>true
 |(s,w)::c=>(match gl G s with|some g=>bq g w|none=>false)&&act G c
def memC(s:Nat)(w:Bool):Ch->Bool
 | []=>false
 |(s',w')::c=>(Nat.beq s' s&&bq w' w)||memC s w c
def subC:Ch->Ch->Bool
 | [],_=>true
 |(s,w)::a,c=>memC s w c&&subC a c
def lk:List (Nat×Ch×Value)->Nat->Option (Ch×Value)
 | [],_=>none
 |(s,x)::m,t=>bif Nat.beq s t then some x else lk m t
structure SS where
 m:List (Nat×Ch×Value)
 G:List (Nat×Bool)
def SS.rd(S:SS)(f:Fn):Operand->Value
 | .tmp t=>match lk S.m t with
  |some x=>x.2
  |none=>f t
 | .const v=>v
 | .global g=> .pointer (some ⟨g,0,none⟩)
 | .func i=> .func (.func i) #[] #[]
def SS.can(S:SS)(c:Ch):Operand->Bool
 | .tmp t=>match lk S.m t with
  |some x=>subC x.1 c
  |none=>true
 |_=>true
def impl(G:List (Nat×Bool)):Ch->Prop->Prop
 | [],p=>p
 |(s,w)::c,p=>match gl G s with
  |some g=>g=w->impl G c p
  |none=>True
def jn(G:List (Nat×Bool))(s:Nat)(g:Bool):List (Nat×Bool):=match gl G s with
 |some _=>G
 |none=>(s,g)::G
def fB:Option Prop->Prop
 |none=>True
 |some p=>p
def andO(q:Option Prop)(p:Prop):Prop:=match q with
 |none=>p
 |some q=>q/\p
def rng(k:IntKind)(n:Int):Prop:=match k with
 | .i64=> -9223372036854775808<=n/\n<9223372036854775808
 | .u64=>0<=n/\n<18446744073709551616
 | .u8=>0<=n/\n<256
 |k=>k.wrap n=n
theorem rng_wrap{k:IntKind}{n:Int}(h:rng k n):k.wrap n=n:=by
 cases k with
 |i64=>exact lb h
 |u64=>exact w_u64 h
 |u8=>exact w_u8 h
 |_=>exact h
def kq:IntKind->IntKind->Bool
 | .i64,.i64=>true
 | .u64,.u64=>true
 | .u8,.u8=>true
 | .i32,.i32=>true
 | .u32,.u32=>true
 |_,_=>false
theorem kq_eq{k z:IntKind}(h:kq k z=true):z=k:=by cases k<;>cases z<;>first|rfl|cases h
abbrev VP:=Option (Value×Option Prop)
def ari(h:Hint)(k:IntKind)(n:Int):VP:=match h with
 | .w=>some (.int k (k.wrap n),none)
 | .e m=>some (.int k m,some (n=m/\rng k m))
 |_=>some (.int k n,some (rng k n))
def bi(h:Hint)(k:IntKind)(n:Int):VP:=match h with
 | .e m=>some (.int k m,some (n=m))
 |_=>some (.int k n,none)
def withP(p:Prop):VP->VP
 |some (v,none)=>some (v,some p)
 |some (v,some q)=>some (v,some (p/\q))
 |none=>none
def pint(h:Hint)(op:BinOp)(k:IntKind)(x y:Int):VP:=match op with
 | .add=>ari h k (x+y)
 | .sub=>ari h k (x-y)
 | .mul=>ari h k (x*y)
 | .quo=>withP (y≠0) (ari h k (x.tdiv y))
 | .rem=>withP (y≠0) (bi h k (x.tmod y))
 | .and=>bi h k (aS .and k x y)
 | .or=>bi h k (aS .or k x y)
 | .xor=>bi h k (aS .xor k x y)
 | .andNot=>bi h k (aS .andNot k x y)
 | .eql=>some (.bool (x==y),none)
 | .neq=>some (.bool (x !=y),none)
 | .lss=>some (.bool (decide (x<y)),none)
 | .leq=>some (.bool (decide (x<=y)),none)
 | .gtr=>some (.bool (decide (y<x)),none)
 | .geq=>some (.bool (decide (y<=x)),none)
 |_=>none
def AGB(P:Program)(op:BinOp)(t:TypeId)(a b v:Value):Prop:= ∀(ρ:Operand->Value) (x y:Operand) (yt:TypeId) (d:Option Tmp) (ty:TypeId) (pos:String) (af:Array Edge) (gd:Option (Nat×Bool)) (H:Heap),ρ x=a->ρ y=b->AP P ρ ⟨d,.binOp op t x y yt,ty,pos,af,gd⟩ H (.val v,H)
def isBT(P:Program)(t:TypeId):Bool:=match P.underlying t with
 |some .bool=> !P.eqGuardType P.depth t
 |_=>false
def pbin(P:Program)(h:Hint)(op:BinOp)(t:TypeId)(a b:Value):VP:=match a,b with
 | .int k x,.int k' y=>match op with
  | .shl=>withP (0<=y) (bi h k (k.wrap (x*2^(Nat.min y.toNat k.bits))))
  | .shr=>withP (0<=y) (bi h k (x.fdiv (2^(Nat.min y.toNat k.bits))))
  |op=>bif kq k k' then pint h op k x y else none
 | .string x,.string y=>match op with
  | .eql=>some (.bool (x.data.toList==y.data.toList),none)
  | .neq=>some (.bool (x.data.toList !=y.data.toList),none)
  | .lss=>some (.bool (Op.bytesLess x.data.toList y.data.toList),none)
  | .leq=>some (.bool (Op.bytesLess x.data.toList y.data.toList||x.data.toList==y.data.toList),none)
  | .add=>some (.string ⟨⟨x.data.toList++y.data.toList⟩⟩,some (x.data.toList.length+y.data.toList.length<=1099511627776))
  |_=>none
 | .bool x,.bool y=>bif isBT P t then match op with
  | .eql=>some (.bool (x==y),none)
  | .neq=>some (.bool (x !=y),none)
  |_=>none else none
 | .agg x,.agg y=>match h with
  | .o v=>some (v,some (AGB P op t (.agg x) (.agg y) v))
  |_=>none
 | .pointer a,.pointer b=>match nilEq P t (.pointer a) (.pointer b),op with
  |some r,.eql=>some (.bool r,none)
  |some r,.neq=>some (.bool (!r),none)
  |_,_=>none
 | .slice a n k,.slice b n' k'=>match nilEq P t (.slice a n k) (.slice b n' k'),op with
  |some r,.eql=>some (.bool r,none)
  |some r,.neq=>some (.bool (!r),none)
  |_,_=>none
 |_,_=>none
def pun(h:Hint)(op:UnOp)(v:Value):VP:=match op,v with
 | .not,.bool b=>some (.bool (!b),none)
 | .neg,.int k n=>ari h k (0-n)
 | .xor,.int k n=>bi h k (bits .xor k (if k.signed then-1 else k.max) n)
 |_,_=>none
def pconv(P:Program)(H:Heap)(h:Hint)(s t:TypeId)(v:Value):VP:=match v with
 | .int _ n=>match P.underlying s,P.underlying t with
  |some _,some (.int k')=>ari h k' n
  |_,_=>none
 | .slice a n k=>match h with
  | .o v=>some (v,some (fF P s t a n H=some v))
  |_=>none
 |_=>none
def ppick(g:Bool)(a b:Value):Option Value:=match a,b with
 | .bool x,.bool y=>some (.bool (bif g then x else y))
 | .int k x,.int k' y=>bif kq k k' then some (.int k (bif g then x else y)) else none
 | .string x,.string y=>some (.string ⟨⟨bif g then x.data.toList else y.data.toList⟩⟩)
 |_,_=>none
def LDv(P:Program)(H:Heap)(t:TypeId)(a w:Value):Prop:=dU P t a H=some (.val w,H)
def IX(v:Value)(j:Int):Prop:= ∃b o n k,v= .slice (some ⟨b,o,none⟩) n k/\0<=j/\j<n/\n<=k
def pidx(P:Program)(t:TypeId)(a i:Value):VP:=match a,i with
 | .string s,.int _ j=>match P.underlying t with
  |some .string=>some (.int .u8 ((s.data.toList.getD j.toNat 0).toNat:Int),some (0<=j/\j<s.data.toList.length))
  |_=>none
 | .agg x,w=>match aq P (Instr.index t (.agg x) w) with
  |some r=>some (r,none)
  |none=>none
 |_,_=>none
def pidxA(P:Program)(t:TypeId)(a i:Value):VP:=match a,i with
 | .slice x n k,.int _ j=>match P.underlying t with
  |some (.slice e)=>match dp P e with
   |some z=>some (.pointer (some ⟨sB (.slice x n k),sO (.slice x n k)+j.toNat*z,none⟩),some (IX (.slice x n k) j))
   |none=>none
  |_=>none
 | .pointer (some ⟨b,o,none⟩),.int _ j=>match P.underlying t with
  |some (.array n e)=>match dp P e with
   |some z=>some (.pointer (some ⟨b,o+j.toNat*z,none⟩),some (0<=j/\j<n))
   |none=>none
  |_=>none
 |_,_=>none
def pslice(P:Program)(H:Heap)(h:Hint)(t:TypeId)(x:Value)(lo hi:Option Value):VP:=match x with
 | .string s=>match P.underlying t with
  |some .string=>match lo,hi with
   |none,none=>some (.string s,none)
   |some (.int _ i),none=>some (.string ⟨⟨s.data.toList.drop i.toNat⟩⟩,some (0<=i/\i<=s.data.toList.length))
   |none,some (.int _ j)=>some (.string ⟨⟨s.data.toList.take j.toNat⟩⟩,some (0<=j/\j<=s.data.toList.length))
   |some (.int _ i),some (.int _ j)=>some (.string ⟨⟨(s.data.toList.drop i.toNat).take (j.toNat-i.toNat)⟩⟩,some (0<=i/\i<=j/\j<=s.data.toList.length))
   |_,_=>none
  |_=>none
 |x=>match h with
  | .o v=>some (v,some (bx P t x lo hi none H=some v))
  |_=>none
def plen(P:Program)(t:TypeId)(x:Value):VP:=match x with
 | .string s=>match P.underlying t with
  |some .string=>some (.int .i64 (s.data.toList.length:Int),none)
  |_=>none
 | .slice _ n _=>match P.underlying t with
  |some (.slice _)=>some (.int .i64 (n:Int),none)
  |_=>none
 |_=>none
def pmm(w:Bool)(a b:Value):VP:=match a,b with
 | .int k x,.int _ y=>some (.int k (bif w then(if y<x then y else x) else(if y>x then y else x)),none)
 |_,_=>none
def pcall(P:Program)(G0:Nat)(K:bM)(H:Heap)(h:Hint)(ρ:Operand->Value)(c:Call):VP:=match c.callee with
 | .builtin .len=>match c.argTypes.toList,c.args.toList with
  | [t],[x]=>plen P t (ρ x)
  |_,_=>none
 | .builtin .min=>match c.args.toList with
  | [x,y]=>pmm true (ρ x) (ρ y)
  |_=>none
 | .builtin .max=>match c.args.toList with
  | [x,y]=>pmm false (ρ x) (ρ y)
  |_=>none
 | .value f=>match ff P (ρ f) (eO ρ c.args.toList),h with
  |some (.enter g args),.o v=>some (v,some (C P G0 K g args H fun v' H'=>v'=v/\H'=H))
  |_,_=>none
 |_=>none
def optV{α:Type}(r:Option α):Option (α×Option Prop):=match r with
 |some v=>some (v,none)
 |none=>none
def pop(P:Program)(G0:Nat)(K:bM)(H:Heap)(h:Hint)(ρ:Operand->Value)(op:Op):VP:=match op with
 | .move x=>some (ρ x,none)
 | .assign x=>some (ρ x,none)
 | .binOp op t x y _=>pbin P h op t (ρ x) (ρ y)
 | .unOp op _ x=>pun h op (ρ x)
 | .convert s t x=>pconv P H h s t (ρ x)
 | .load t a=>match h with
  | .o v=>some (v,some (LDv P H t (ρ a) v))
  |_=>none
 | .index t x i=>pidx P t (ρ x) (ρ i)
 | .indexAddr t x i=>pidxA P t (ρ x) (ρ i)
 | .field t x f=>optV (gD P t (ρ x) f)
 | .fieldAddr s x f=>optV (hL P s (ρ x) f)
 | .extract x i=>optV (fZ (ρ x) i)
 | .build t parts=>match dm P t with
  |some _=>optV (aq P (Instr.build t (parts.map fun p=>(p.1,ρ p.2))))
  |none=>none
 | .slice t x lo hi none=>pslice P H h t (ρ x) (lo.map ρ) (hi.map ρ)
 | .call c=>pcall P G0 K H h ρ c
 | .nilCheck x=>match ρ x with
  | .pointer (some a)=>some (.pointer (some a),none)
  | .func (.func f) a c=>some (.func (.func f) a c,none)
  |_=>none
 | .makeFunc fn first cap=>some (.func fn (first.map ρ) (cap.map ρ),none)
 |_=>none
def lL(ops:Array Oper)(f:Fn)(S:SS):Option (Nat×Bool)->Option (Ch×List (Nat×Bool))
 |none=>some ([],S.G)
 |some (j,w)=>match (ops[j]?).bind (·.dst) with
  |some d=>match lk S.m d with
   |some (c,.bool g)=>some ((d,w)::c,jn S.G d g)
   |some _=>none
   |none=>match f d with
    | .bool g=>some ([(d,w)],jn S.G d g)
    |_=>none
  |none=>none
def putS(q:Option Prop)(c:Ch)(G:List (Nat×Bool))(m:List (Nat×Ch×Value))(d:Nat)(v:Value):Option (SS×Option Prop):=
 match gl G d with
 |some _=>none
 |none=>some (⟨(d,c,v)::m,G⟩,match q with
  |none=>none
  |some p=>some (impl G c p))
def stepS(P:Program)(G0:Nat)(K:bM)(H:Heap)(sz:Nat)(ops:Array Oper)(f:Fn)(S:SS)(h:Hint)(o:Oper):Option (SS×Option Prop):=
 match o.dst with
 |none=>none
 |some d=>
  bif Nat.ble (d+1) sz&&o.op.operands.toList.all (bC G0) then
   match lL ops f S o.guard with
   |none=>none
   |some (c,G1)=>
    match o.op with
    | .pick (.tmp s) a b=>
     match lk S.m s with
     |some (cc,.bool g)=>
      bif subC cc c&&(S.can ((s,true)::c) a&&S.can ((s,false)::c) b) then
       match ppick g (S.rd f a) (S.rd f b) with
       |some v=>putS none c (jn G1 s g) S.m d v
       |none=>none
      else none
     |_=>none
    |op=>
     bif op.operands.toList.all (S.can c) then
      match pop P G0 K H h (S.rd f) op with
      |some (v,q)=>putS q c G1 S.m d v
      |none=>none
     else none
  else none
def hintAt:List (Nat×Hint)->Nat->Hint
 | [],_=> .p
 |(i,h)::l,j=>bif Nat.beq i j then h else hintAt l j
def rgL(P:Program)(G0:Nat)(K:bM)(H:Heap)(sz:Nat)(ops:Array Oper)(f:Fn)(hs:List (Nat×Hint)):Nat->List Oper->SS->Option (SS×Prop)
 |_,[],S=>some (S,True)
 |i,o::os,S=>match stepS P G0 K H sz ops f S (hintAt hs i) o with
  |none=>none
  |some (S1,q)=>match rgL P G0 K H sz ops f hs (i+1) os S1 with
   |none=>none
   |some (S2,p)=>some (S2,andO q p)
def fins(m:List (Nat×Ch×Value)):List Nat->Option (List (Nat×Value))
 | []=>some []
 |d::ds=>match lk m d,fins m ds with
  |some ([],v),some l=>some ((d,v)::l)
  |_,_=>none
def gk(P:Program)(G0:Nat)(K:bM)(H:Heap)(sz:Nat)(ops:Array Oper)(f:Fn)(i:Nat)(os:List Oper)(hs:List (Nat×Hint))(lo hi:Nat)(ex:List Nat)(z:List Nat):Option (List (Nat×Value)×Prop):=
 match rgL P G0 K H sz ops f hs i os ⟨[],[]⟩ with
 |none=>none
 |some (S,p)=>bif S.m.all (fun e=>inR lo hi ex e.1) then
   match fins S.m z with
   |some l=>some (l,p)
   |none=>none
  else none
end Go.R
end
noncomputable section
namespace Go.R
section
variable {P:Program} {G0:Nat} {K:bM} {H:Heap} {ρ:Operand->Value} {d:Option Tmp} {ty:TypeId} {pos:String} {af:Array Edge} {gd:Option (Nat×Bool)} {v:Value} {q:Option Prop} {hi:Hint}
theorem kV{k:IntKind}{n:Int}(h:ari hi k n=some (v,q))(z:fB q):v= .int k (k.wrap n):=by
 unfold ari at h;split at h
 ·simp only[a00,a03]at h;exact h.1.symm
 ·simp only[a00,a03]at h;obtain⟨rfl,rfl⟩:=h;obtain⟨rfl,A⟩:=z;rw[rng_wrap A]
 simp only[a00,a03]at h;obtain⟨rfl,rfl⟩:=h;rw[rng_wrap z]
theorem bi_ok{k:IntKind}{n:Int}(h:bi hi k n=some (v,q))(A:fB q):v= .int k n:=by
 unfold bi at h;split at h
 ·simp only[a00,a03]at h;obtain⟨rfl,rfl⟩:=h;have z:n=_:=A;rw[z]
 simp only[a00,a03]at h;exact h.1.symm
theorem i4{p:Prop}{r:VP}(h:withP p r=some (v,q))(z:fB q):p/\∃A,r=some (v,A)/\fB A:=by
 match r,h with
 |some (v',none),h=>
  simp only[withP,a00,a03]at h
  obtain⟨rfl,rfl⟩:=h
  exact⟨z,none,rfl,trivial⟩
 |some (v',some p'),h=>
  simp only[withP,a00,a03]at h
  obtain⟨rfl,rfl⟩:=h
  exact⟨z.1,some p',rfl,z.2⟩
 |none,h=>simp[withP]at h
theorem beq0{b:Int}(z:b≠0):(b==0)=false:=by simpa using z
variable {x y:Operand} {t yt:TypeId}
theorem pint_ok{op:BinOp}{k:IntKind}{a b:Int}(V:ρ x= .int k a)(Z:ρ y= .int k b)(h:pint hi op k a b=some (v,q))(A:fB q):
  AP P ρ ⟨d,.binOp op t x y yt,ty,pos,af,gd⟩ H (.val v,H):=by
 have z: ∀{v':Value},jO op=false->kF op k a b=some v'->AP P ρ ⟨d,.binOp op t x y yt,ty,pos,af,gd⟩ H (.val v',H):=by intro v' hs U;exact iP V Z (by rw[hs,ei];exact U)
 cases op with
 |add=>rw[kV (n:=a+b) h A];exact z rfl rfl
 |sub=>rw[kV (n:=a-b) h A];exact z rfl rfl
 |mul=>rw[kV (n:=a*b) h A];exact z rfl rfl
 |quo=>
  obtain⟨E,q',N,T⟩:=i4 (p:=b≠0) (r:=ari hi k (a.tdiv b)) h A
  rw[kV N T]
  exact z rfl (by show(bif b==0 then none else some (Value.int k (k.wrap (a.tdiv b))))=_;rw[beq0 E];rfl)
 |rem=>
  obtain⟨E,q',N,T⟩:=i4 (p:=b≠0) (r:=bi hi k (a.tmod b)) h A
  rw[bi_ok N T]
  exact z rfl (by show(bif b==0 then none else some (Value.int k (a.tmod b)))=_;rw[beq0 E];rfl)
 |and=>rw[bi_ok (n:=aS .and k a b) h A];exact z rfl rfl
 |or=>rw[bi_ok (n:=aS .or k a b) h A];exact z rfl rfl
 |xor=>rw[bi_ok (n:=aS .xor k a b) h A];exact z rfl rfl
 |andNot=>rw[bi_ok (n:=aS .andNot k a b) h A];exact z rfl rfl
 |shl=>cases h
 |shr=>cases h
 |_=>
  simp only[pint,a00,a03]at h
  obtain⟨rfl,_⟩:=h
  exact z rfl rfl
theorem bool_run{a b:Bool}(h:isBT P t=true):aq P (dL .eql t x y a b)=some (.value (.bool (a==b)))/\aq P (dL .neq t x y a b)=some (.value (.bool (a !=b))):=by
 unfold isBT at h;split at h
 ·rename_i N;have T:P.eqGuardType P.depth t=false:=by simpa using h
  have A:aq P (eqGuard .eql t x y (.bool a) (.bool b))=some ():=by simp[eqGuard]
  have E:aq P (eqGuard .neq t x y (.bool a) (.bool b))=some ():=by simp[eqGuard]
  have z:aq P (Op.equal t (.bool a) (.bool b))=some (a==b):=eqB (d:=9999) N;constructor
  ·unfold dL;simp only[aJ,A,a0q];have:aq P (binOp .eql t (.bool a) (.bool b))=some (Value.bool (a==b)):=by show aq P (Op.equal t (.bool a) (.bool b)>>=fun b=>(Pure.pure (Value.bool b):Sem Value))=_;rw[aJ,z];rfl
   rw[this];rfl
  unfold dL;simp only[aJ,E,a0q];have:aq P (binOp .neq t (.bool a) (.bool b))=some (Value.bool (a !=b)):=by show aq P (Op.equal t (.bool a) (.bool b)>>=fun b=>(Pure.pure (Value.bool (!b)):Sem Value))=_;rw[aJ,z];rfl
  rw[this];rfl
 cases h
theorem pbin_ok{op:BinOp}{a b:Value}(z:ρ x=a)(A:ρ y=b)(h:pbin P hi op t a b=some (v,q))(hq:fB q):
  AP P ρ ⟨d,.binOp op t x y yt,ty,pos,af,gd⟩ H (.val v,H):=by
 have N: ∀(a b:Value) (r:Bool),ρ x=a->ρ y=b->(∃p,a= .pointer p)\/(∃p n k,a= .slice p n k)->nilEq P t a b=some r->(op= .eql->v= .bool r)->(op= .neq->v= .bool (!r))->(op= .eql\/op= .neq)->
   AP P ρ ⟨d,.binOp op t x y yt,ty,pos,af,gd⟩ H (.val v,H):=by
  intro a b r z A ha E U V Z
  refine⟨?_⟩
  show aBin P ρ _ op t (ρ x) y H=_
  have:aBin P ρ ⟨d,.binOp op t x y yt,ty,pos,af,gd⟩ op t (ρ x) y H=nilBin op (nilEq P t a b) H:=by rw[z];rcases ha with⟨p,rfl⟩|⟨p,n,k,rfl⟩<;>(rw[←A];rfl)
  rw[this,E]
  rcases Z with rfl|rfl
  ·rw[U rfl];rfl
  rw[V rfl];rfl
 unfold pbin at h
 split at h
 ·--integers
  split at h
  ·obtain⟨U,q',V,Z⟩:=i4 h hq;rw[bi_ok V Z];exact ap_shl z A U
  ·obtain⟨U,q',V,Z⟩:=i4 h hq;rw[bi_ok V Z];exact ap_shr z A U
  rename_i k a k' b _ _ _;cases hk:kq k k' with
  |false=>rw[hk]at h;cases h
  |true=>
   rw[hk]at h
   have:=kq_eq hk;subst this
   exact pint_ok z A h hq
 ·split at h<;>simp only[a00,a03,reduceCtorEq]at h
  ·obtain⟨rfl,_⟩:=h;exact ap_eqS z A
  ·obtain⟨rfl,_⟩:=h;exact ap_neS z A
  ·obtain⟨rfl,_⟩:=h;exact ap_ltS z A
  ·obtain⟨rfl,_⟩:=h;exact ap_leS z A
  obtain⟨rfl,rfl⟩:=h;exact ap_addS z A hq
 ·cases T:isBT P t with
  |false=>rw[T]at h;cases h
  |true=>
   rw[T]at h
   simp only[cond_true]at h
   split at h<;>simp only[a00,a03,reduceCtorEq]at h
   ·obtain⟨rfl,_⟩:=h;exact ap_boolEq z A (fun a b=>(bool_run T).1)
   obtain⟨rfl,_⟩:=h;exact ap_boolNe z A (fun a b=>(bool_run T).2)
 ·split at h<;>simp only[a00,a03,reduceCtorEq]at h;obtain⟨rfl,rfl⟩:=h;exact hq ρ x y yt d ty pos af gd H z A
 ·split at h<;>simp only[a00,a03,reduceCtorEq]at h
  ·rename_i E;obtain⟨rfl,_⟩:=h;exact N _ _ _ z A (.inl ⟨_,rfl⟩) E (fun _=>rfl) (fun e=>by cases e) (.inl rfl)
  rename_i E;obtain⟨rfl,_⟩:=h;exact N _ _ _ z A (.inl ⟨_,rfl⟩) E (fun e=>by cases e) (fun _=>rfl) (.inr rfl)
 ·split at h<;>simp only[a00,a03,reduceCtorEq]at h
  ·rename_i E;obtain⟨rfl,_⟩:=h;exact N _ _ _ z A (.inr ⟨_,_,_,rfl⟩) E (fun _=>rfl) (fun e=>by cases e) (.inl rfl)
  rename_i E;obtain⟨rfl,_⟩:=h;exact N _ _ _ z A (.inr ⟨_,_,_,rfl⟩) E (fun e=>by cases e) (fun _=>rfl) (.inr rfl)
 cases h
theorem pun_ok{op:UnOp}{a:Value}(z:ρ x=a)(h:pun hi op a=some (v,q))(A:fB q):AP P ρ ⟨d,.unOp op t x,ty,pos,af,gd⟩ H (.val v,H):=by
 unfold pun at h;split at h
 ·simp only[a00,a03]at h;obtain⟨rfl,_⟩:=h;exact ap_not z
 ·rw[kV h A];exact ap_neg z
 ·rw[bi_ok h A];exact ap_cpl z
 cases h
theorem pconv_ok{s:TypeId}{a:Value}(E:ρ x=a)(h:pconv P H hi s t a=some (v,q))(z:fB q):AP P ρ ⟨d,.convert s t x,ty,pos,af,gd⟩ H (.val v,H):=by
 unfold pconv at h;split at h
 ·split at h
  ·rename_i N T;rw[kV h z];exact ap_conv E N T
  cases h
 ·split at h
  ·simp only[a00,a03]at h;obtain⟨rfl,rfl⟩:=h;refine⟨?_⟩;show fe P ρ _ s t (ρ x) H=_;rw[E];show ovl (fF P s t _ _ H) H=_;have A:fF P s t _ _ H=_:=z;rw[A];rfl
  cases h
 cases h
theorem ppick_ok{g:Bool}{a b v:Value}(h:ppick g a b=some v):v=bif g then a else b:=by
 unfold ppick at h;split at h
 ·simp only[a00]at h;subst h;cases g<;>rfl
 ·rename_i k x A y;cases z:kq k A with
  |false=>rw[z]at h;cases h
  |true=>
   rw[z]at h
   have:=kq_eq z;subst this
   simp only[cond_true,a00]at h;subst h;cases g<;>rfl
 ·simp only[a00]at h;subst h;cases g<;>rfl
 cases h
theorem pidx_ok{i:Operand}{a b:Value}(E:ρ x=a)(z:ρ i=b)(h:pidx P t a b=some (v,q))(N:fB q):AP P ρ ⟨d,.index t x i,ty,pos,af,gd⟩ H (.val v,H):=by
 unfold pidx at h;split at h
 ·rename_i s _ j;split at h
  ·rename_i A;simp only[a00,a03]at h;obtain⟨rfl,rfl⟩:=h;obtain⟨T,U⟩:=N;obtain⟨⟨s⟩⟩:=s;have V:j<(s.length:Int):=U;exact ap_idxS (s:=s) E z A T (aH (by omega))
  cases h
 ·split at h
  ·rename_i A;simp only[a00,a03]at h;obtain⟨rfl,rfl⟩:=h;exact ap_ixG E z A
  cases h
 cases h
theorem pidxA_ok{i:Operand}{a b:Value}(V:ρ x=a)(A:ρ i=b)(h:pidxA P t a b=some (v,q))(U:fB q):AP P ρ ⟨d,.indexAddr t x i,ty,pos,af,gd⟩ H (.val v,H):=by
 unfold pidxA at h;split at h
 ·split at h
  ·rename_i E;split at h
   ·rename_i N;simp only[a00,a03]at h;obtain⟨rfl,rfl⟩:=h;obtain⟨b,o,n,k,e,T,Z,q3⟩:=U;cases e
    exact iQ V A E N T Z q3
   cases h
  cases h
 ·split at h
  ·rename_i E;split at h
   ·rename_i N;simp only[a00,a03]at h;obtain⟨rfl,rfl⟩:=h;obtain⟨T,Z⟩:=U;refine⟨?_⟩;rename_i kk j n e z _;obtain⟨m,rfl⟩:=a16 T;show ovl (cT P t (ρ x) (ρ i)) H=_;rw[V,A];unfold cT;rw[E];have h3:Nat.ble (m+1) n=true:=a0w (by omega);show ovl (match dp P e with|some sz=>bif Nat.ble (m+1) n then some (.pointer (some ⟨_,_+m*sz,none⟩)) else none|none=>none) H=_;rw[N];simp only[h3,cond_true];rfl
   cases h
  cases h
 cases h
theorem sl_str{lo hi:Option Operand}{s:ByteArray}{i j:Nat}(U:ρ x= .string s)(T:P.underlying t=some .string)(A:bY s.data.toList.length (hi.map ρ)=some j)(E:bY 0 (lo.map ρ)=some i)(z:i<=j)(N:j<=s.data.toList.length):
  AP P ρ ⟨d,.slice t x lo hi none,ty,pos,af,gd⟩ H (.val (.string ⟨⟨(s.data.toList.drop i).take (j-i)⟩⟩),H):=by
 obtain⟨⟨s⟩⟩:=s
 exact ap_slS U T A E z N
theorem pslice_ok{lo z:Option Operand}{a:Value}(N:ρ x=a)(h:pslice P H hi t a (lo.map ρ) (z.map ρ)=some (v,q))(V:fB q):AP P ρ ⟨d,.slice t x lo z none,ty,pos,af,gd⟩ H (.val v,H):=by
 unfold pslice at h;split at h
 ·rename_i s;split at h
  ·rename_i U;split at h
   ·rename_i A E;simp only[a00,a03]at h;obtain⟨rfl,rfl⟩:=h;have:=sl_str (d:=d) (ty:=ty) (pos:=pos) (af:=af) (gd:=gd) (H:=H) (lo:=lo) (hi:=z) (i:=0) (j:=s.data.toList.length) N U (by rw[E];rfl) (by rw[A];rfl) (a0D _) (a0a _);rw[a15,Nat.sub_zero,a1e]at this;exact this
   ·rename_i k i A E;simp only[a00,a03]at h;obtain⟨rfl,rfl⟩:=h;obtain⟨T,q2⟩:=V;have:=sl_str (d:=d) (ty:=ty) (pos:=pos) (af:=af) (gd:=gd) (H:=H) (lo:=lo) (hi:=z) (i:=i.toNat) (j:=s.data.toList.length) N U (by rw[E];rfl) (by rw[A];exact optN T) (by omega) (a0a _);rw[a0i (by rw[a0n];omega)]at this;exact this
   ·rename_i k j A E;simp only[a00,a03]at h;obtain⟨rfl,rfl⟩:=h;obtain⟨T,q2⟩:=V;have:=sl_str (d:=d) (ty:=ty) (pos:=pos) (af:=af) (gd:=gd) (H:=H) (lo:=lo) (hi:=z) (i:=0) (j:=j.toNat) N U (by rw[E];exact optN T) (by rw[A];rfl) (a0D _) (by omega);simpa using this
   ·rename_i k i k' j A E;simp only[a00,a03]at h;obtain⟨rfl,rfl⟩:=h;obtain⟨T,q2,q3⟩:=V;exact sl_str (lo:=lo) (hi:=z) (i:=i.toNat) (j:=j.toNat) N U (by rw[E];exact optN (by omega)) (by rw[A];exact optN T) (by omega) (by omega)
   cases h
  cases h
 split at h
 ·simp only[a00,a03]at h;obtain⟨rfl,rfl⟩:=h;refine⟨?_⟩;show ovl (bx P t (ρ x) (lo.map ρ) (z.map ρ) (Option.map ρ none) H) H=_;have Z:bx P t _ (lo.map ρ) (z.map ρ) none H=_:=V;rw[N,a1X,Z];rfl
 cases h
theorem plen_ok{a:Value}(A:ρ x=a)(h:plen P t a=some (v,q)):AP P ρ ⟨d,.call ⟨.builtin .len, #[x], #[t]⟩,ty,pos,af,gd⟩ H (.val v,H):=by
 unfold plen at h;split at h
 ·rename_i s;split at h
  ·rename_i z;simp only[a00,a03]at h;obtain⟨rfl,rfl⟩:=h;obtain⟨⟨s⟩⟩:=s;exact ap_lenS (s:=s) A z
  cases h
 ·split at h
  ·rename_i z;simp only[a00,a03]at h;obtain⟨rfl,rfl⟩:=h;refine⟨?_⟩;show ovl (aLen P t (ρ x) H) H=_;rw[A];unfold aLen;rw[z];rfl
  cases h
 cases h
inductive PRes(P:Program)(G0:Nat)(K:bM)(ρ:Operand->Value)(o:Oper)(H:Heap)(v:Value):Prop where
 |val (h:AP P ρ o H (.val v,H))
 |call (g:FuncId) (args:List Value) (h:AP P ρ o H (.enter g args,H)) (hk:eH o.op=true) (hc:C P G0 K g args H fun v' H'=>v'=v/\H'=H)
theorem kA{ρ ρ':Operand->Value}: ∀{l:List Operand},(∀x,x∈l->ρ x=ρ' x)->eO ρ l=eO ρ' l
 | [],_=>rfl
 |x::l,h=>by show ρ x::eO ρ l=ρ' x::eO ρ' l;rw[h x (by simp),kA fun y z=>h y (by simp[z])]
theorem pmm_ok{w:Bool}{y:Operand}{A:Array TypeId}{a b:Value}(E:ρ x=a)(N:ρ y=b)(h:pmm w a b=some (v,q)):AP P ρ ⟨d,.call ⟨.builtin (bif w then .min else .max), #[x,y],A⟩,ty,pos,af,gd⟩ H (.val v,H):=by
 unfold pmm at h;split at h
 ·rename_i k n Z m;simp only[a00,a03]at h;obtain⟨rfl,rfl⟩:=h;have V:([ρ x,ρ y].all fun z=>gE z)=true:=by simp[E,N,gE,noA0]
  cases w with
  |true=>
   refine⟨?_⟩
   show bw P ρ ⟨d,.call ⟨.builtin .min, #[x,y],A⟩,ty,pos,af,gd⟩ H=_
   unfold bw
   have U:((Op.call ⟨.builtin .min, #[x,y],A⟩).operands.toList.all fun x=>gE (ρ x))=true:=by simp[Op.operands,Call.operands,E,N,gE,noA0]
   simp only[U,cond_true]
   have T:aq P (execOp ρ ⟨d,.call ⟨.builtin .min, #[x,y],A⟩,ty,pos,af,gd⟩)=some (.value (.int k (if m<n then m else n))):=by unfold execOp;simp[resolve,invoke,builtin,Builtin.min_,Builtin.min2,E,N]
   rw[T];rfl
  |false=>
   refine⟨?_⟩
   show bw P ρ ⟨d,.call ⟨.builtin .max, #[x,y],A⟩,ty,pos,af,gd⟩ H=_
   unfold bw
   have U:((Op.call ⟨.builtin .max, #[x,y],A⟩).operands.toList.all fun x=>gE (ρ x))=true:=by simp[Op.operands,Call.operands,E,N,gE,noA0]
   simp only[U,cond_true]
   have T:aq P (execOp ρ ⟨d,.call ⟨.builtin .max, #[x,y],A⟩,ty,pos,af,gd⟩)=some (.value (.int k (if m>n then m else n))):=by unfold execOp;simp[resolve,invoke,builtin,Builtin.max_,Builtin.max2,E,N]
   rw[T];rfl
 cases h
theorem pcall_ok{ρ ρ':Operand->Value}{c:Call}(z: ∀x,x∈(Op.call c).operands.toList->ρ x=ρ' x)(h:pcall P G0 K H hi ρ' c=some (v,q))(U:fB q):
  PRes P G0 K ρ ⟨d,.call c,ty,pos,af,gd⟩ H v:=by
 obtain⟨E,args,A⟩:=c
 cases E with
 |builtin b=>
  cases b with
  |len=>
   obtain⟨A⟩:=A
   obtain⟨args⟩:=args
   simp only[pcall]at h
   split at h
   ·exact .val (plen_ok (z _ (by simp[Op.operands,Call.operands])) h)
   cases h
  |min=>
   obtain⟨args⟩:=args
   simp only[pcall]at h
   split at h
   ·exact .val (pmm_ok (w:=true) (z _ (by simp[Op.operands,Call.operands])) (z _ (by simp[Op.operands,Call.operands])) h)
   cases h
  |max=>
   obtain⟨args⟩:=args
   simp only[pcall]at h
   split at h
   ·exact .val (pmm_ok (w:=false) (z _ (by simp[Op.operands,Call.operands])) (z _ (by simp[Op.operands,Call.operands])) h)
   cases h
  |_=>cases h
 |value f=>
  simp only[pcall]at h
  split at h
  ·rename_i T;simp only[a00,a03]at h;obtain⟨rfl,rfl⟩:=h;refine .call _ _ ⟨?_⟩ rfl U;show eY (ff P (ρ f) (eO ρ args.toList)) H=_;rw[z f (by simp[Op.operands,Call.operands]),kA (ρ':=ρ') (fun x N=>z x (by simp[Op.operands,Call.operands]at N⊢;exact .inr N)),T];rfl
  cases h
 |invoke r m=>cases h
theorem pop_ok{ρ ρ':Operand->Value}{op:Op}(A: ∀x,x∈op.operands.toList->ρ x=ρ' x)(h:pop P G0 K H hi ρ' op=some (v,q))(N:fB q):
  PRes P G0 K ρ ⟨d,op,ty,pos,af,gd⟩ H v:=by
 cases op with
 |move x=>
  simp only[pop,a00,a03]at h;obtain⟨rfl,rfl⟩:=h
  exact .val (ap_move (A x (by simp[Op.operands])))
 |assign x=>
  simp only[pop,a00,a03]at h;obtain⟨rfl,rfl⟩:=h
  exact .val (j3 (A x (by simp[Op.operands])))
 |binOp op t x y yt=>exact .val (pbin_ok (A x (by simp[Op.operands])) (A y (by simp[Op.operands])) h N)
 |unOp op t x=>exact .val (pun_ok (A x (by simp[Op.operands])) h N)
 |convert s t x=>exact .val (pconv_ok (A x (by simp[Op.operands])) h N)
 |load t a=>
  simp only[pop]at h
  split at h
  ·simp only[a00,a03]at h;obtain⟨rfl,rfl⟩:=h;refine .val ⟨?_⟩;show dU P t (ρ a) H=_;rw[A a (by simp[Op.operands])];exact N
  cases h
 |index t x i=>exact .val (pidx_ok (A x (by simp[Op.operands])) (A i (by simp[Op.operands])) h N)
 |indexAddr t x i=>exact .val (pidxA_ok (A x (by simp[Op.operands])) (A i (by simp[Op.operands])) h N)
 |field t x f=>
  simp only[pop,optV]at h
  split at h
  ·rename_i T;simp only[a00,a03]at h;obtain⟨rfl,rfl⟩:=h;exact .val (ap_fv (A x (by simp[Op.operands])) T)
  cases h
 |fieldAddr s x f=>
  simp only[pop,optV]at h
  split at h
  ·rename_i T;simp only[a00,a03]at h;obtain⟨rfl,rfl⟩:=h;refine .val ⟨?_⟩;show ovl (hL P s (ρ x) f) H=_;rw[A x (by simp[Op.operands]),T];rfl
  cases h
 |extract x i=>
  simp only[pop,optV]at h
  split at h
  ·rename_i T;simp only[a00,a03]at h;obtain⟨rfl,rfl⟩:=h;exact .val (ap_ex (A x (by simp[Op.operands])) T)
  cases h
 |build t parts=>
  simp only[pop,optV]at h
  split at h
  ·rename_i z hz;split at h
   ·rename_i T;simp only[a00,a03]at h;obtain⟨rfl,rfl⟩:=h;refine .val (ap_bld ?_ hz T);apply a28;intro p hp;rw[A p.2 (by simp only[Op.operands,a0s];exact⟨p,by simpa using hp,rfl⟩)]
   cases h
  cases h
 |slice t x lo hi2 mx=>
  cases mx with
  |some _=>simp only[pop]at h;cases h
  |none=>
   simp only[pop]at h
   have U:lo.map ρ=lo.map ρ':=by
    cases lo with
    |none=>rfl
    |some o=>simp only[a1V];rw[A o (by simp[Op.operands])]
   have V:hi2.map ρ=hi2.map ρ':=by
    cases hi2 with
    |none=>rfl
    |some o=>simp only[a1V];rw[A o (by simp[Op.operands])]
   rw[←U,←V]at h
   exact .val (pslice_ok (A x (by simp[Op.operands])) h N)
 |call c=>exact pcall_ok A h N
 |nilCheck x=>
  simp only[pop]at h
  have E:=A x (by simp[Op.operands])
  split at h
  ·rename_i a Z;simp only[a00,a03]at h;obtain⟨rfl,rfl⟩:=h;refine .val ⟨?_⟩;show opNil (ρ x) H=_;rw[E,Z];rfl
  ·rename_i f a c Z;simp only[a00,a03]at h;obtain⟨rfl,rfl⟩:=h;refine .val ⟨?_⟩;show opNil (ρ x) H=_;rw[E,Z];rfl
  cases h
 |makeFunc fn first cap=>
  simp only[pop,a00,a03]at h;obtain⟨rfl,rfl⟩:=h
  refine .val ⟨?_⟩
  show some (AN.val (.func fn (first.map ρ) (cap.map ρ)),H)=_
  have U:first.map ρ=first.map ρ':=a28 fun x E=>A x (by simp[Op.operands]at E⊢;first|exact .inl E|exact .inr E)
  have V:cap.map ρ=cap.map ρ':=a28 fun x E=>A x (by simp[Op.operands]at E⊢;first|exact .inl E|exact .inr E)
  rw[U,V]
 |_=>cases h
end
end Go.R
end
noncomputable section
namespace Go.R
structure SS.Rel(S:SS)(f fr:Fn):Prop where
 sl: ∀t c v,lk S.m t=some (c,v)->fr t=(bif act S.G c then v else undef)
 no: ∀t,lk S.m t=none->fr t=f t
 gs: ∀s g,gl S.G s=some g->(∃c,lk S.m s=some (c,.bool g))\/(lk S.m s=none/\f s= .bool g)
 ks: ∀t c v,lk S.m t=some (c,v)->∀s w,(s,w)∈c->∃g,gl S.G s=some g
theorem gl_add{G:List (Nat×Bool)}{d s:Nat}{g r:Bool}(h:gl G s=some r):gl (jn G d g) s=some r:=by
 unfold jn;split
 ·exact h
 rename_i A;show(bif Nat.beq d s then some g else gl G s)=_;cases z:Nat.beq d s with
 |true=>have:=a09 z;subst this;rw[A]at h;cases h
 |false=>exact h
theorem jQ{G:List (Nat×Bool)}{d:Nat}{g:Bool}(h: ∀r,gl G d=some r->r=g):gl (jn G d g) d=some g:=by
 unfold jn;split
 ·rename_i r z;rw[z,h r z]
 show(bif Nat.beq d d then some g else gl G d)=_;rw[a0Z];rfl
theorem gl_add_inv{G:List (Nat×Bool)}{d s:Nat}{g r:Bool}(h:gl (jn G d g) s=some r):gl G s=some r\/(s=d/\r=g):=by
 unfold jn at h;split at h
 ·exact .inl h
 have z:(bif Nat.beq d s then some g else gl G s)=some r:=h;cases A:Nat.beq d s with
 |true=>rw[A]at z;exact .inr ⟨(a09 A).symm,(Option.some.inj z).symm⟩
 |false=>rw[A]at z;exact .inl z
theorem lW{G:List (Nat×Bool)}{d:Nat}{g:Bool}: ∀{c:Ch},(∀s w,(s,w)∈c->∃r,gl G s=some r)->act (jn G d g) c=act G c
 | [],_=>rfl
 |(s,w)::c,h=>by
  obtain⟨r,z⟩:=h s w (by simp);show((match gl (jn G d g) s with|some g=>bq g w|none=>false)&&act (jn G d g) c)=((match gl G s with|some g=>bq g w|none=>false)&&act G c)
  rw[gl_add z,z,lW fun s w A=>h s w (by simp[A])]
theorem act_mem{G:List (Nat×Bool)}: ∀{c:Ch} {s:Nat} {w:Bool},act G c=true->memC s w c=true->gl G s=some w
 |(s',w')::c,s,w,h,z=>by
  simp only[act,a0e]at h;simp only[memC,a0G,a0e]at z;rcases z with⟨T,U⟩|z
  ·have E:=a09 T;have N:=bq_eq U;subst E N;have A:=h.1;split at A
   ·rename_i g V;rw[V,bq_eq A]
   cases A
  exact act_mem h.2 z
 | [],s,w,_,z=>by cases z
theorem act_sub{G:List (Nat×Bool)}: ∀{a c:Ch},act G c=true->subC a c=true->act G a=true
 | [],_,_,_=>rfl
 |(s,w)::a,c,h,hs=>by simp only[subC,a0e]at hs;have z:=act_mem h hs.1;simp only[act,z,act_sub h hs.2,a1M];cases w<;>rfl
theorem impl_act{G:List (Nat×Bool)}{p:Prop}: ∀{c:Ch},act G c=true->impl G c p->p
 | [],_,h=>h
 |(s,w)::c,ha,h=>by
  simp only[act,a0e]at ha;obtain⟨z,A⟩:=ha;unfold impl at h;split at z
  ·rename_i g E;rw[E]at h;exact impl_act A (h (bq_eq z))
  cases z
section
variable {P:Program} {G0:Nat} {K:bM} {sz:Nat} {Q:Ex->Fn->Heap->Prop} {ops:Array Oper} {os:List Oper} {k:List Fr} {f fr:Fn} {H:Heap} {S S':SS}
theorem SS.Rel.add(h:S.Rel f fr){d:Nat}{g:Bool}(E:(∃c,lk S.m d=some (c,.bool g))\/(lk S.m d=none/\f d= .bool g)):SS.Rel ⟨S.m,jn S.G d g⟩ f fr:=by
 refine⟨fun t c v z=>?_,h.no,fun s r A=>?_,fun t c v z s w N=>?_⟩
 ·rw[h.sl t c v z];show _=bif act (jn S.G d g) c then v else undef
  rw[lW (h.ks t c v z)]
 ·rcases gl_add_inv A with h1|⟨rfl,rfl⟩
  ·exact h.gs s r h1
  exact E
 obtain⟨r,A⟩:=h.ks t c v z s w N;exact⟨r,gl_add A⟩
theorem SS.Rel.same(h:S.Rel f fr){d:Nat}{g:Bool}(T:(∃c,lk S.m d=some (c,.bool g))\/(lk S.m d=none/\f d= .bool g)): ∀r,gl S.G d=some r->r=g:=by
 intro r U;rcases h.gs d r U with⟨c,A⟩|⟨A,N⟩<;>rcases T with⟨V,z⟩|⟨z,E⟩
 ·rw[A]at z;simp only[a00,a03,Value.bool.injEq]at z;exact z.2
 ·rw[A]at z;cases z
 ·rw[A]at z;cases z
 rw[N]at E;simpa using E
structure GOK(ops:Array Oper)(f fr:Fn)(S:SS)(g:Option (Nat×Bool))(c:Ch)(G1:List (Nat×Bool)):Prop where
 rel:SS.Rel ⟨S.m,G1⟩ f fr
 ks: ∀s w,(s,w)∈c->∃g,gl G1 s=some g
 on:act G1 c=true->match g with
  |none=>True
  |some (j,w)=>cm ops fr j=some w
 off:act G1 c=false->match g with
  |none=>False
  |some (j,w)=>cm ops fr j=none\/cm ops fr j=some (!w)
theorem lK(U:S.Rel f fr){g:Option (Nat×Bool)}{c:Ch}{G1:List (Nat×Bool)}(h:lL ops f S g=some (c,G1)):GOK ops f fr S g c G1:=by
 unfold lL at h;split at h
 ·simp only[a00,a03]at h;obtain⟨rfl,rfl⟩:=h;exact⟨U,fun s w E=>by simp at E,fun _=>trivial,fun h=>by cases h⟩
 rename_i j w;split at h
 ·rename_i d hd;have key: ∀(z:Ch) (γ:Bool),((∃c,lk S.m d=some (c,.bool γ))\/(lk S.m d=none/\f d= .bool γ))->(∀s w,(s,w)∈z->∃g,gl S.G s=some g)->(fr d=bif act S.G z then .bool γ else undef)->GOK ops f fr S (some (j,w)) ((d,w)::z) (jn S.G d γ):=by
   intro z γ Z ad A;have hG:=jQ (G:=S.G) (d:=d) (g:=γ) (U.same Z);have ha:act (jn S.G d γ) ((d,w)::z)=(bq γ w&&act S.G z):=by show((match gl (jn S.G d γ) d with|some g=>bq g w|none=>false)&&act (jn S.G d γ) z)=_;rw[hG,lW ad]
   have hy: ∀v,fr d=v->cm ops fr j=match v with| .bool b=>some b|_=>none:=by intro v hv;unfold cm;rw[hd];show(match fr d with| .bool b=>some b|_=>none)=_;rw[hv]
   refine⟨U.add Z,fun s w' E=>?_,fun V=>?_,fun N=>?_⟩
   ·rcases a0m.1 E with e|E
    ·injection e with e1 e2;subst e1;exact⟨γ,hG⟩
    obtain⟨r,ar⟩:=ad s w' E;exact⟨r,gl_add ar⟩
   ·rw[ha,a0e]at V;rw[V.2]at A;show cm ops fr j=some w;rw[hy _ A,bq_eq V.1];rfl
   rw[ha]at N;show cm ops fr j=none\/cm ops fr j=some (!w);cases hc:act S.G z with
   |false=>rw[hc]at A;left;rw[hy _ A];rfl
   |true=>
    rw[hc]at A N
    right
    rw[hy _ A]
    cases γ<;>cases w<;>first|rfl|cases N
  split at h
  ·rename_i z γ T;simp only[a00,a03]at h;obtain⟨rfl,rfl⟩:=h;exact key z γ (.inl ⟨_,T⟩) (U.ks d z _ T) (U.sl d z _ T)
  ·cases h
  rename_i T;split at h
  ·rename_i γ hf;simp only[a00,a03]at h;obtain⟨rfl,rfl⟩:=h;exact key [] γ (.inr ⟨T,hf⟩) (fun s w E=>by simp at E) (by rw[U.no d T,hf];rfl)
  cases h
 cases h
theorem rel_put{m:List (Nat×Ch×Value)}{G:List (Nat×Bool)}{q q':Option Prop}{c:Ch}{d:Nat}{v:Value}(U:SS.Rel ⟨m,G⟩ f fr)(hk: ∀s w,(s,w)∈c->∃g,gl G s=some g)(h:putS q c G m d v=some (S',q')):
  SS.Rel S' f (upd fr d (bif act G c then v else undef))/\(fB q'->act G c=true->fB q):=by
 unfold putS at h
 split at h
 ·cases h
 rename_i hd
 simp only[a00,a03]at h
 obtain⟨rfl,rfl⟩:=h
 refine⟨⟨fun t E v' N=>?_,fun t N=>?_,fun s g V=>?_,fun t E v' N s w Z=>?_⟩,fun hq ha=>?_⟩
 ·have z:(bif Nat.beq d t then some (c,v) else lk m t)=some (E,v'):=N;unfold upd;cases A:Nat.beq d t with
  |true=>
   rw[A]at z
   simp only[cond_true,a00,a03]at z
   obtain⟨rfl,rfl⟩:=z
   rfl
  |false=>rw[A]at z;exact U.sl t E v' z
 ·have z:(bif Nat.beq d t then some (c,v) else lk m t)=none:=N;unfold upd;cases A:Nat.beq d t with
  |true=>rw[A]at z;cases z
  |false=>rw[A]at z;exact U.no t z
 ·have ad:Nat.beq d s=false:=by
   cases A:Nat.beq d s with
   |false=>rfl
   |true=>have:=a09 A;subst this;rw[hd]at V;cases V
  have e:lk ((d,c,v)::m) s=lk m s:=by show(bif Nat.beq d s then some (c,v) else lk m s)=_;rw[ad];rfl
  rcases U.gs s g V with⟨c0,T⟩|T
  ·exact .inl ⟨c0,e.trans T⟩
  exact .inr ⟨e.trans T.1,T.2⟩
 ·have z:(bif Nat.beq d t then some (c,v) else lk m t)=some (E,v'):=N;cases A:Nat.beq d t with
  |true=>
   rw[A]at z
   simp only[cond_true,a00,a03]at z
   obtain⟨rfl,rfl⟩:=z
   exact hk s w Z
  |false=>rw[A]at z;exact U.ks t E v' z s w Z
 cases q with
 |none=>trivial
 |some p=>exact impl_act ha hq
theorem rd_ok(E:S.Rel f fr){c:Ch}(T:act S.G c=true){x:Operand}(U:S.can c x=true):dj fr x=S.rd f x:=by
 cases x with
 |tmp t=>
  show fr t=match lk S.m t with|some x=>x.2|none=>f t
  have z:(match lk S.m t with|some x=>subC x.1 c|none=>true)=true:=U
  cases A:lk S.m t with
  |none=>exact E.no t A
  |some y=>
   obtain⟨N,v⟩:=y
   rw[A]at z
   rw[E.sl t N v A,act_sub T z];rfl
 |_=>rfl
theorem stepS_ok{o:Oper}{q:Option Prop}{hi:Hint}(hr:S.Rel f fr)(h:stepS P G0 K H sz ops f S hi o=some (S',q))(hq:fB q):
  ∃d c z v,o.dst=some d/\Nat.ble (d+1) sz=true/\o.op.operands.toList.all (bC G0)=true/\lL ops f S o.guard=some (c,z)/\
   (act z c=true->PRes P G0 K (dj fr) ⟨some d,o.op,o.type,o.pos,o.after,none⟩ H v)/\SS.Rel S' f (upd fr d (bif act z c then v else undef)):=by
 unfold stepS at h
 split at h
 ·cases h
 rename_i d hd
 cases N:(Nat.ble (d+1) sz&&o.op.operands.toList.all (bC G0)) with
 |false=>rw[N]at h;cases h
 |true=>
  rw[N]at h
  simp only[cond_true]at h
  rw[a0e]at N
  split at h
  ·cases h
  rename_i c z hc
  have E:=lK hr hc
  split at h
  ·rename_i s a b aw;split at h
   ·rename_i cc γ hl;cases A:(subC cc c&&(S.can ((s,true)::c) a&&S.can ((s,false)::c) b)) with
    |false=>rw[A]at h;cases h
    |true=>
     rw[A]at h
     simp only[cond_true]at h
     simp only[a0e]at A
     split at h
     ·rename_i v hv;have ai:(∃c,lk S.m s=some (c,.bool γ))\/(lk S.m s=none/\f s= .bool γ):= .inl ⟨_,hl⟩;have Z:=SS.Rel.add (S:=⟨S.m,z⟩) E.rel (d:=s) (g:=γ) ai;have hG:=jQ (G:=z) (d:=s) (g:=γ) (E.rel.same ai);have al: ∀s' w,(s',w)∈c->∃g,gl (jn z s γ) s'=some g:=fun s' w hm=>by obtain⟨r,ax⟩:=E.ks s' w hm;exact⟨r,gl_add ax⟩
      have U:act (jn z s γ) c=act z c:=lW E.ks;obtain⟨h1,_⟩:=rel_put Z al h;rw[U]at h1;refine⟨d,c,z,v,hd,N.1,N.2,hc,fun T=>?_,h1⟩;refine .val ⟨?_⟩;rw[aw];show fw (dj fr) (.tmp s) a b H=_;have e0:dj fr (.tmp s)= .bool γ:=by have:=E.rel.sl s cc _ hl;rw[act_sub T A.1]at this;exact this
      unfold fw;rw[e0];show some (AN.val (bif γ then dj fr a else dj fr b),H)=_;rw[ppick_ok hv];have V: ∀(w:Bool) (x:Operand),γ=w->S.can ((s,w)::c) x=true->dj fr x=S.rd f x:=by intro w x hw hx;have ay:SS.Rel ⟨S.m,jn z s γ⟩ f fr:=Z;refine rd_ok (S:=⟨S.m,jn z s γ⟩) ay (c:=(s,w)::c) ?_ hx;show((match gl (jn z s γ) s with|some g=>bq g w|none=>false)&&act (jn z s γ) c)=true;rw[hG,U,T,hw];cases w<;>rfl
      cases γ with
      |true=>rw[cond_true,cond_true,V true a rfl A.2.1]
      |false=>rw[cond_false,cond_false,V false b rfl A.2.2]
     cases h
   cases h
  cases A:o.op.operands.toList.all (S.can c) with
  |false=>rw[A]at h;cases h
  |true=>
   rw[A]at h
   simp only[cond_true]at h
   split at h
   ·rename_i v q0 hp;obtain⟨h1,h2⟩:=rel_put E.rel E.ks h;refine⟨d,c,z,v,hd,N.1,N.2,hc,fun T=>?_,h1⟩;refine pop_ok (fun x hx=>?_) hp (h2 hq T);have:=a0y.1 A x hx;exact rd_ok (S:=⟨S.m,z⟩) E.rel T this
   cases h
theorem wo_do{d:Nat}{o:Oper}{c:Ch}{A:List (Nat×Bool)}{v:Value}(U:o.dst=some d)(E:Nat.ble (d+1) sz=true)(T:o.op.operands.toList.all (bC G0)=true)(N:GOK ops f fr S o.guard c A)
  (V:act A c=true->PRes P G0 K (dj fr) ⟨some d,o.op,o.type,o.pos,o.after,none⟩ H v) (h:WO P G0 K sz ops os k (upd fr d (bif act A c then v else undef)) H Q):WO P G0 K sz ops (o::os) k fr H Q:=by
 obtain⟨Z,op,ty,pos,af,gd⟩:=o
 simp only at U T N V
 subst U
 cases z:act A c with
 |true=>
  rw[z]at h
  have base:WO P G0 K sz ops (⟨some d,op,ty,pos,af,none⟩::os) k fr H Q:=by
   cases V z with
   |val hv=>exact bB hv T E h
   |call g args he _ hc=>exact wo_callG he T E hc (by rintro v' H' ⟨rfl,rfl⟩;exact h)
  cases gd with
  |none=>exact base
  |some jw=>
   obtain⟨j,w⟩:=jw
   exact el (N.on z) rfl base
 |false=>
  rw[z]at h
  have:=N.off z
  cases gd with
  |none=>exact absurd this id
  |some jw=>
   obtain⟨j,w⟩:=jw
   rcases this with h1|h1
   ·exact wo_gn h1 E h
   exact wo_gf h1 rfl E h
def bnD:ID->Bool
 | .x []=>true
 | .x _=>false
 |_=>true
theorem okD_r{i:Nat}: ∀{D:List (Nat×ID)},D.all (fun e=>bnD e.2)=true->okD ops i .r D
 | [],_=>trivial
 |(j,e)::D,h=>by
  simp only[a1k,a0e]at h;refine⟨.inr ?_,okD_r h.2⟩;cases e with
  |x W=>
   cases W with
   |nil=>trivial
   |cons a b=>exact absurd h.1 (by simp[bnD])
  |_=>trivial
theorem okD_x{i:Nat}: ∀{D:List (Nat×ID)},D.all (fun e=>bnD e.2)=true->okD ops i (.x []) D
 | [],_=>trivial
 |(j,e)::D,h=>by
  simp only[a1k,a0e]at h;refine⟨.inr ?_,okD_x h.2⟩;cases e with
  |x W=>
   cases W with
   |nil=>exact⟨trivial,trivial⟩
   |cons a b=>exact absurd h.1 (by simp[bnD])
  |l b=>exact a0b
  |q S=>exact fun b z=>absurd z a0b
  |_=>trivial
theorem wf_weak{D:List (Nat×ID)}{i j:Nat}{e:ID}(T: ∀g,e.fits g->fG g=true)(h:WF2 P G0 K sz ops ((j,.r)::D) i os k f H Q):WF2 P G0 K sz ops ((j,e)::D) i os k f H Q:=⟨fun t fs U z=>by
 refine h.out t fs U ?_;cases fs with
 |nil=>exact absurd z id
 |cons x fs=>
  obtain⟨a,g⟩:=x
  obtain⟨A,E,N⟩:=z
  exact⟨A,T g E,N⟩⟩
theorem wf_callx{d:Tmp}{op:Op}{ty:TypeId}{pos:String}{af:Array Edge}{D:List (Nat×ID)}{i:Nat}{v:Value}{g:FuncId}{args:List Value}(ha:AP P (dj f) ⟨some d,op,ty,pos,af,none⟩ {H with log:=[]} (.enter g args,{H with log:=[]}))(ho:op.operands.toList.all (bC G0)=true)(hd:Nat.ble (d+1) sz=true)(hk:eH op=true)
  (hc:C P G0 K g args {H with log:=[]} fun v' H'=>v'=v/\H'={H with log:=[]}) (ad:okD ops i (.x []) D)
  (h:WF2 P G0 K sz ops ((i,.x [])::D) (i+1) os k (upd f d v) H Q):WF2 P G0 K sz ops D i (⟨some d,op,ty,pos,af,none⟩::os) k f H Q:=⟨fun t fs V T=>by
 obtain⟨A,v',H2,Z,rfl,rfl⟩:=hc.out
 obtain⟨N,h1,h2⟩:=gL (s:=⟨t,sz,{H with log:=[]}⟩) (d:=some d) (v:=v') hd
 have hi:=bE (ops:=ops) (f:=f) (o:=⟨some d,op,ty,pos,af,none⟩) (n:=H.next) (log:=[]) (W:=[]) rfl hk (fun b hb=>by simp at hb) t sz H V
 obtain⟨z,e,s',h3,h4⟩:=h.out N ((i,dw ops ⟨some d,op,ty,pos,af,none⟩ ⟨t,sz,H⟩ H.next [])::fs) (by rw[h2,V];rfl) ⟨rfl,hi,T⟩
 refine⟨Nat.max A z,e,s',?_,h4⟩
 have ag:step P G0 (call P G0 K (Nat.max A z)) ops ⟨some d,op,ty,pos,af,none⟩ ⟨t,sz,{H with log:=[]}⟩=some ⟨N,sz,{H with log:=[]}⟩:=by unfold step bd;simp only[cond_true,ho,dF,V,ha.eq,dK (a1I A z) _ _ _ _ Z];exact h1
 unfold bn ga
 rw[ag]
 simp only[cO hi T ad,cond_true,cV,a11]
 refine db (a1q (a1a A z)) k _ _ (fun x E=>?_) _ h3
 cases U:bn P G0 (call P G0 K z) ops (i+1) ((i,dw ops ⟨some d,op,ty,pos,af,none⟩ ⟨t,sz,H⟩ H.next [])::fs) os ⟨N,sz,H⟩ with
 |none=>rw[U]at E;cases E
 |some y=>
  have:=dG (dK (P:=P) (G:=G0) (K:=K) (a1a A z)) _ _ _ _ _ U
  rw[U]at E
  show dD (bn P G0 (call P G0 K (Nat.max A z)) ops (i+1) _ os ⟨N,sz,H⟩)=_
  rw[this];exact E⟩
theorem wf_do{D:List (Nat×ID)}{i d:Nat}{o:Oper}{c:Ch}{N:List (Nat×Bool)}{v:Value}(V:D.all (fun e=>bnD e.2)=true)(Z:o.dst=some d)(A:Nat.ble (d+1) sz=true)(T:o.op.operands.toList.all (bC G0)=true)(z:GOK ops f fr S o.guard c N)
  (hp:act N c=true->PRes P G0 K (dj fr) ⟨some d,o.op,o.type,o.pos,o.after,none⟩ {H with log:=[]} v) (h:WF2 P G0 K sz ops ((i,.r)::D) (i+1) os k (upd fr d (bif act N c then v else undef)) H Q):WF2 P G0 K sz ops D i (o::os) k fr H Q:=by
 obtain⟨ai,op,ty,pos,af,gd⟩:=o
 simp only at Z T z hp
 subst Z
 cases E:act N c with
 |true=>
  rw[E]at h
  have base:WF2 P G0 K sz ops D i (⟨some d,op,ty,pos,af,none⟩::os) k fr H Q:=by
   cases hp E with
   |val hv=>exact aF (id:= .r) hv T A (did_r fun b A=>by simp at A) (okD_r V) h
   |call g args he hk hc=>
    exact wf_callx he T A hk hc (okD_x V) (wf_weak (fun g z=>by obtain⟨w,rfl,hw⟩:=z;cases w with
     |nil=>rfl
     |cons a b=>exact absurd (hw a (by simp)) a0b) h)
  cases gd with
  |none=>exact base
  |some jw=>
   obtain⟨j,w⟩:=jw
   exact eE (z.on E) rfl base
 |false=>
  rw[E]at h
  have:=z.off E
  cases gd with
  |none=>exact absurd this id
  |some jw=>
   obtain⟨j,w⟩:=jw
   have U:=wf_weak (e:= .v) (fun g z=>by rw[show g= .v from z];rfl) h
   rcases this with h1|h1
   ·exact jr h1 A U
   exact eQ h1 rfl A U
theorem holds_and{q:Option Prop}{p:Prop}(h:andO q p):fB q/\p:=by
 cases q with
 |none=>exact⟨trivial,h⟩
 |some q=>exact h
theorem wo_row{hs:List (Nat×Hint)}: ∀{a:List Oper} {i:Nat} {S S':SS} {p:Prop} {fr:Fn},rgL P G0 K H sz ops f hs i a S=some (S',p)->p->S.Rel f fr->
  (∀z,S'.Rel f z->WO P G0 K sz ops os k z H Q)->WO P G0 K sz ops (a++os) k fr H Q
 | [],i,S,S',p,fr,h,_,hr,hk=>by simp only[rgL,a00,a03]at h;obtain⟨rfl,_⟩:=h;exact hk fr hr
 |o::a,i,S,S',p,fr,h,hp,hr,hk=>by
  unfold rgL at h;split at h
  ·cases h
  rename_i S1 q h1;split at h
  ·cases h
  rename_i S2 p2 h2;simp only[a00,a03]at h;obtain⟨rfl,rfl⟩:=h;obtain⟨hq,A⟩:=holds_and hp;obtain⟨d,c,G1,v,E,N,T,U,V,Z⟩:=stepS_ok hr h1 hq;exact wo_do E N T (lK hr U) V (wo_row h2 A Z hk)
def rs(i:Nat):List Oper->List (Nat×ID)->List (Nat×ID)
 | [],D=>D
 |_::a,D=>rs (i+1) a ((i,.r)::D)
theorem wf_row{hs:List (Nat×Hint)}: ∀{a:List Oper} {i:Nat} {D:List (Nat×ID)} {S S':SS} {p:Prop} {fr:Fn},D.all (fun e=>bnD e.2)=true->rgL P G0 K {H with log:=[]} sz ops f hs i a S=some (S',p)->p->S.Rel f fr->
  (∀z,S'.Rel f z->WF2 P G0 K sz ops (rs i a D) (i+a.length) os k z H Q)->WF2 P G0 K sz ops D i (a++os) k fr H Q
 | [],i,D,S,S',p,fr,_,h,_,hr,hk=>by simp only[rgL,a00,a03]at h;obtain⟨rfl,_⟩:=h;exact hk fr hr
 |o::a,i,D,S,S',p,fr,hD,h,hp,hr,hk=>by
  unfold rgL at h;split at h
  ·cases h
  rename_i S1 q h1;split at h
  ·cases h
  rename_i S2 p2 h2;simp only[a00,a03]at h;obtain⟨rfl,rfl⟩:=h;obtain⟨hq,A⟩:=holds_and hp;obtain⟨d,c,G1,v,N,T,U,V,Z,e6⟩:=stepS_ok hr h1 hq;refine wf_do hD N T U (lK hr V) Z (wf_row (by simp only[a1k,hD,a1M];rfl) h2 A e6 fun z E=>?_);have:=hk z E;rw[a08,show i+(a.length+1)=i+1+a.length by omega]at this;exact this
theorem fins_ok{m:List (Nat×Ch×Value)}{G:List (Nat×Bool)}(A:SS.Rel ⟨m,G⟩ f fr): ∀{z:List Nat} {l:List (Nat×Value)},fins m z=some l->am fr l
 | [],l,h=>by simp only[fins,a00]at h;subst h;trivial
 |d::z,l,h=>by
  unfold fins at h;split at h
  ·rename_i v l' E N;simp only[a00]at h;subst h;exact⟨by have:=A.sl d [] v E;exact this,fins_ok A N⟩
  cases h
theorem rel_leaves{m:List (Nat×Ch×Value)}{G:List (Nat×Bool)}(N:SS.Rel ⟨m,G⟩ f fr){lo hi:Nat}{ex:List Nat}(h:m.all (fun e=>inR lo hi ex e.1)=true):Leaves lo hi ex f fr:=⟨fun j E=>by
 refine N.no j ?_;have key: ∀(m:List (Nat×Ch×Value)),m.all (fun e=>inR lo hi ex e.1)=true->lk m j=none:=by
  intro m;induction m with
  |nil=>intro _;rfl
  |cons e m ih=>
   obtain⟨s,x⟩:=e
   intro z
   simp only[a1k,a0e]at z
   show(bif Nat.beq s j then some x else lk m j)=none
   cases A:Nat.beq s j with
   |true=>have:=a09 A;subst this;rw[E]at z;cases z.1
   |false=>exact ih z.2
 exact key m h⟩
theorem rel0:SS.Rel ⟨[],[]⟩ f f:=⟨fun t c v h=>(by cases h),fun _ _=>rfl,fun s g h=>(by cases h),fun t c v h=>(by cases h)⟩
theorem top_ok{i:Nat}{a:List Oper}{hs:List (Nat×Hint)}{lo hi:Nat}{ex E:List Nat}{l:List (Nat×Value)}{p:Prop}(h:gk P G0 K H sz ops f i a hs lo hi ex E=some (l,p)):
  ∃S,rgL P G0 K H sz ops f hs i a ⟨[],[]⟩=some (S,p)/\∀fr,S.Rel f fr->∃g,fr=lh (hav lo hi ex g f) l:=by
 unfold gk at h
 split at h
 ·cases h
 rename_i S U N
 cases z:S.m.all (fun e=>inR lo hi ex e.1) with
 |false=>rw[z]at h;cases h
 |true=>
  rw[z]at h
  simp only[cond_true]at h
  split at h
  ·rename_i l' T;simp only[a00,a03]at h;obtain⟨rfl,rfl⟩:=h;refine⟨S,N,fun fr A=>⟨fr,?_⟩⟩;rw[←(rel_leaves A z).eq,gH (fins_ok A T)]
  cases h
theorem wk_rg{id:Nat}(hs:List (Nat×Hint))(lo hi:Nat)(ex:List Nat){z:List Nat}{l:List (Nat×Value)}{p:Prop}(h:gk P G0 K H sz ops f 0 ops.toList hs lo hi ex z=some (l,p))(T:p)
  (N: ∀g,WK P G0 K sz .skip k (lh (hav lo hi ex g f) l) H Q):WK P G0 K sz (.region id ops false) k f H Q:=by
 obtain⟨S,A,E⟩:=top_ok h
 refine aa ?_
 have:=wo_row (os:=[]) (k:=k) (Q:=Q) A T rel0 (fun fr U=>by obtain⟨g,rfl⟩:=E fr U;exact gF (N g))
 rwa [a0F]at this
theorem wk_rgD{id:Nat}(z:(aO ops&&P.follows .mixedOrders)=true)(hs:List (Nat×Hint))(lo hi:Nat)(ex:List Nat){A:List Nat}{l:List (Nat×Value)}{p:Prop}(h:gk P G0 K {H with log:=[]} sz ops f 0 ops.toList hs lo hi ex A=some (l,p))(U:p)
  (T: ∀g,WK P G0 K sz .skip k (lh (hav lo hi ex g f) l) H Q):WK P G0 K sz (.region id ops true) k f H Q:=by
 obtain⟨S,E,N⟩:=top_ok h
 refine aI z ?_
 have:=wf_row (os:=[]) (k:=k) (Q:=Q) (D:=[]) rfl E U rel0 (fun fr z=>by obtain⟨g,rfl⟩:=N fr z;exact bm (T g))
 rwa [a0F]at this
theorem wo_rg(n i:Nat)(hs:List (Nat×Hint))(lo hi:Nat)(ex:List Nat){os:List Oper}{z:List Nat}{l:List (Nat×Value)}{p:Prop}(h:gk P G0 K H sz ops f i (gI os n) hs lo hi ex z=some (l,p))(T:p)
  (N: ∀g,WO P G0 K sz ops (gX os n) k (lh (hav lo hi ex g f) l) H Q):WO P G0 K sz ops os k f H Q:=by
 obtain⟨S,A,E⟩:=top_ok h
 have:=wo_row (os:=gX os n) (k:=k) (Q:=Q) A T rel0 (fun fr U=>by obtain⟨g,rfl⟩:=E fr U;exact N g)
 rwa [ca,cn,a25]at this
end
end Go.R
end
noncomputable section
namespace Go.R
def foc:Nat->Code->List Fr->Code×List Fr
 |0,c,k=>(c,k)
 |n+1,.seq a b,k=>foc n a (.seq b::k)
 |n+1,.block id b,k=>foc n b (.block id::k)
 |n+1,.skip,.seq b::k=>foc n b k
 |n+1,.skip,.block _::k=>foc n .skip k
 |n+1,.exit id,.seq _::k=>foc n (.exit id) k
 |n+1,.exit id,.block id'::k=>bif Nat.beq id id' then foc n .skip k else foc n (.exit id) k
 |_+1,c,k=>(c,k)
section
variable {P:Program} {G:Nat} {K:bM} {sz:Nat} {Q:Ex->Fn->Heap->Prop} {f:Fn} {H:Heap}
theorem wk_foc': ∀(n:Nat) (c:Code) (k:List Fr),WK P G K sz (foc n c k).1 (foc n c k).2 f H Q->WK P G K sz c k f H Q:=by
 intro n;induction n with
 |zero=>intro c k h;exact h
 |succ n ih=>
  intro c k h
  cases c with
  |seq a b=>exact wk_seq (ih _ _ h)
  |block id b=>exact wk_block (ih _ _ h)
  |skip=>
   cases k with
   |nil=>exact h
   |cons x k=>
    cases x with
    |seq b=>exact wk_skip_seq (ih _ _ h)
    |block id=>exact kY (ih _ _ h)
  |exit id=>
   cases k with
   |nil=>exact h
   |cons x k=>
    cases x with
    |seq b=>exact wk_exit_seq (ih _ _ h)
    |block id'=>
     have z:WK P G K sz (bif Nat.beq id id' then foc n .skip k else foc n (.exit id) k).1 (bif Nat.beq id id' then foc n .skip k else foc n (.exit id) k).2 f H Q:=h
     cases A:Nat.beq id id' with
     |true=>
      have:=a09 A
      subst this
      rw[A]at z
      exact kZ (ih _ _ z)
     |false=>
      rw[A]at z
      exact iU A (ih _ _ z)
  |_=>exact h
variable {c c1 c2:Code} {k k1 k2:List Fr}
theorem aC(n:Nat)(z:foc n c k=(c1,k1))(h:WK P G K sz c1 k1 f H Q):WK P G K sz c k f H Q:=wk_foc' n c k (by rw[z];exact h)
theorem wk_if(n m:Nat){x:Operand}{a b:Code}{v:Bool}(V:dj f x= .bool v)(T:bC G x=true)(A:foc n a k=(c1,k1))(E:foc m b k=(c2,k2))(U:v=true->WK P G K sz c1 k1 f H Q)(N:v=false->WK P G K sz c2 k2 f H Q):WK P G K sz (.cond x a b) k f H Q:=
 wk_cond V T (fun z=>aC n A (U z)) (fun z=>aC m E (N z))
theorem bD(n:Nat){x:Operand}{a b:Code}{v:Bool}(N:dj f x= .bool v)(E:v=true)(A:bC G x=true)(z:foc n a k=(c1,k1))(h:WK P G K sz c1 k1 f H Q):WK P G K sz (.cond x a b) k f H Q:=wk_true N E A (aC n z h)
theorem bN(J:Fn->Heap->Prop)(A:(∀z H',J z H'->WK P G K sz .skip k z H' Q)->WK P G K sz c k f H Q)(E: ∀z H',J z H'->WK P G K sz .skip k z H' Q):WK P G K sz c k f H Q:=A E
theorem wr(n:Nat){id:Nat}{ops:Array Oper}(hs:List (Nat×Hint))(lo hi:Nat)(ex:List Nat)(l:List (Nat×Value)){p:Prop}(E:p)(h:gk P G K H sz ops f 0 ops.toList hs lo hi ex (eO Prod.fst l)=some (l,p))(z:foc n .skip k=(c1,k1))
  (A: ∀g,WK P G K sz c1 k1 (lh (hav lo hi ex g f) l) H Q):WK P G K sz (.region id ops false) k f H Q:=wk_rg hs lo hi ex h E fun g=>aC n z (A g)
theorem wrD(n:Nat){id:Nat}{ops:Array Oper}(hs:List (Nat×Hint))(lo hi:Nat)(ex:List Nat)(l:List (Nat×Value)){p:Prop}(E:p)(N:(aO ops&&P.follows .mixedOrders)=true)(h:gk P G K {H with log:=[]} sz ops f 0 ops.toList hs lo hi ex (eO Prod.fst l)=some (l,p))(z:foc n .skip k=(c1,k1))
  (A: ∀g,WK P G K sz c1 k1 (lh (hav lo hi ex g f) l) H Q):WK P G K sz (.region id ops true) k f H Q:=wk_rgD N hs lo hi ex h E fun g=>aC n z (A g)
theorem wro(n i:Nat){ops:Array Oper}{os z:List Oper}(hs:List (Nat×Hint))(lo hi:Nat)(ex:List Nat)(l:List (Nat×Value)){p:Prop}(N:p)(h:gk P G K H sz ops f i (gI os n) hs lo hi ex (eO Prod.fst l)=some (l,p))(A:gX os n=z)
  (E: ∀g,WO P G K sz ops z k (lh (hav lo hi ex g f) l) H Q):WO P G K sz ops os k f H Q:=wo_rg n i hs lo hi ex h N (by rw[A];exact E)
theorem aD(n:Nat){ops:Array Oper}(z:foc n .skip k=(c1,k1))(h:WK P G K sz c1 k1 f H Q):WO P G K sz ops [] k f H Q:=gF (aC n z h)
end
theorem vA{a b:Prop}(h:a)(k:b):a/\b:=⟨h,k⟩
theorem vi{n:Int}(h: -9223372036854775808<=n/\n<9223372036854775808:=by first|(dsimp only;omega)|omega):rng .i64 n:=h
theorem vu{n:Int}(h:0<=n/\n<18446744073709551616):rng .u64 n:=h
section
variable {P:Program} {G:Nat} {K:bM} {H:Heap} {F:Fz} {B:Base} {L R:List Fp}
theorem ld1{b o i:Nat}{cs:List Value}{w:Value}{t:TypeId}(hc:HC H.get b o cs)(E:gf P t=some false)(N:cs[i]?=some w):LDv P H t (.pointer (some ⟨b,o+i,none⟩)) w:=by obtain⟨all,T,U,z,A⟩:=hc.get N;show ovl (H.loadV P t ⟨b,o+i,none⟩) H=_;unfold Heap.loadV;rw[E];simp only;unfold Heap.cellAt;simp only[z,gN,A];rfl
theorem ldN{b o i n:Nat}{cs l:List Value}{t:TypeId}(hc:HC H.get b o cs)(T:gf P t=some true)(hs:dp P t=some n)(U:Nat.ble (i+n) cs.length=true)(z:gI (gX cs i) n=l):LDv P H t (.pointer (some ⟨b,o+i,none⟩)) (.agg ⟨l⟩):=by obtain⟨all,V,Z,A,E,N⟩:=hc.part (a06 U);rw[ca,cn]at z;show ovl (H.loadV P t ⟨b,o+i,none⟩) H=_;unfold Heap.loadV;rw[T];simp only[hs];unfold Heap.loadN;rw[←z];simp only[A,ca,cn,bS,E,N,a0Z,cond_true];rfl
theorem hc0{b o:Nat}{cs:List Value}(h:HC H.get b o cs):HC ({H with log:=[]}:Heap).get b o cs:=h
theorem cq{f:FuncId}{args:List Value}{Q:Value->Heap->Prop}{v:Value}(h:C P G K f args H Q)(z: ∀v' H',Q v' H'->v'=v/\H'=H):C P G K f args H fun v' H'=>v'=v/\H'=H:=h.mono z
section
variable {α:Type} [Rp α] {v:Value} {l:List α}
theorem Sv.view{get:Nat->Option AObj}(h:Sv F get v l): ∃cf:Nat->List Value,∀(j:Nat),(∀d:α,j<l.length->Rp.rep F (cf j) (l.getD j d)/\HC get (sB v) (sO v+j*Rp.sz α) (cf j))/\(l.length<=j->cf j=[]):=by
 have A: ∀j,∃cs,(∀(d:α),j<l.length->Rp.rep F cs (l.getD j d)/\HC get (sB v) (sO v+j*Rp.sz α) cs)/\(l.length<=j->cs=[]):=by
  intro j;by_cases z:j<l.length
  ·obtain⟨cs,N,T⟩:=h.at (a05 z);refine⟨cs,fun d _=>⟨?_,T⟩,fun h=>absurd h (by omega)⟩;rw[a01,a05 z];exact N
  exact⟨[],fun _ E=>absurd E z,fun _=>rfl⟩
 exact⟨fun j=>(A j).choose,fun j=>(A j).choose_spec⟩
abbrev VW(F:Fz)(get:Nat->Option AObj)(v:Value)(l:List α)(cf:Nat->List Value)(j:Nat):Prop:=(∀d:α,j<l.length->Rp.rep F (cf j) (l.getD j d)/\HC get (sB v) (sO v+j*Rp.sz α) (cf j))/\(l.length<=j->cf j=[])
theorem Sv.ix{get:Nat->Option AObj}(h:Sv F get v l){j:Int}(A:0<=j:=by first|(dsimp only;omega)|omega)(z:j<l.length:=by first|(dsimp only;omega)|omega):IX v j:=by
 rcases h with⟨_,rfl⟩|⟨b,off,k,o,rfl,T,cs,N,ro,rfl,U,E,V,Z⟩
 ·simp at z;omega
 exact⟨b,off,_,k,rfl,A,z,E⟩
end
def sA:Value->Option Addr
 | .slice a _ _=>a
 |_=>none
def sK:Value->Nat
 | .slice _ _ k=>k
 |_=>0
abbrev cA(cs:List Value)(i:Nat):Option Addr:=sA (cs.getD i undef)
abbrev cK(cs:List Value)(i:Nat):Nat:=sK (cs.getD i undef)
end
theorem cI{α:Type}{l:List α}{j:Nat}{d:α}(h:l.length<=j):l.getD j d=d:=by rw[a01,a0Q h];rfl
section
variable {F:Fz} {get:Nat->Option AObj} {v:Value} {cf:Nat->List Value} {j:Nat}
theorem vI{l:List Int}(h:VW F get v l cf j)(E:j<l.length:=by first|(dsimp only;omega)|omega):HC get (sB v) (sO v+j*Rp.sz Int) [.int .i64 (l.getD j 0)]:=by obtain⟨⟨A,_⟩,z⟩:=h.1 0 E;rw[A]at z;exact z
theorem fI{l:List Int}(h:VW F get v l cf j):in64 (l.getD j 0):=by
 rcases a0k j l.length with hj|hj
 ·exact(h.1 0 hj).1.2
 rw[cI hj];decide
theorem vB{l:List Bool}(h:VW F get v l cf j)(E:j<l.length:=by first|(dsimp only;omega)|omega):HC get (sB v) (sO v+j*Rp.sz Bool) [.bool (l.getD j false)]:=by obtain⟨A,z⟩:=h.1 false E;rw[show cf j=_ from A]at z;exact z
theorem vS{l:List Str}(h:VW F get v l cf j)(E:j<l.length:=by first|(dsimp only;omega)|omega):HC get (sB v) (sO v+j*Rp.sz Str) [.string ⟨⟨(l.getD j default).b⟩⟩]:=by obtain⟨A,z⟩:=h.1 default E;rw[show cf j=_ from A]at z;exact z
theorem vU{l:List U64}(h:VW F get v l cf j)(E:j<l.length:=by first|(dsimp only;omega)|omega):HC get (sB v) (sO v+j*Rp.sz U64) [.int .u64 (l.getD j default).n]:=by obtain⟨⟨A,_⟩,z⟩:=h.1 default E;rw[A]at z;exact z
theorem fU{l:List U64}(h:VW F get v l cf j):0<=(l.getD j default).n/\(l.getD j default).n<18446744073709551616:=by
 rcases a0k j l.length with hj|hj
 ·exact(h.1 default hj).1.2
 rw[cI hj];exact⟨Int.le_refl _,by decide⟩
theorem vL{α:Type} [Rp α]{l:List (List α)}(h:VW F get v l cf j)(E:j<l.length:=by first|(dsimp only;omega)|omega):HC get (sB v) (sO v+j*Rp.sz (List α)) [.slice (cA (cf j) 0) (l.getD j default).length (cK (cf j) 0)]:=by obtain⟨⟨a,k,A,_⟩,z⟩:=h.1 default E;rw[A]at z⊢;exact z
theorem fL{α:Type} [Rp α]{l:List (List α)}(h:VW F get v l cf j):SR F (.slice (cA (cf j) 0) (l.getD j default).length (cK (cf j) 0)) (l.getD j default):=by
 rcases a0k j l.length with hj|hj
 ·obtain⟨⟨a,k,z,A⟩,_⟩:=h.1 default hj;rw[z];exact A
 rw[cI hj,h.2 hj];exact SR.nil
theorem ap_callc{P:Program}{z:Operand}{d:Option Tmp}{ty:TypeId}{pos:String}{af:Array Edge}{gd:Option (Nat×Bool)}{H:Heap}{args:Array Operand}{A:Array TypeId}{i:FuncId}{fn:Func}{f:Fn}{l:List Value}{x y:Array Value}(U:dj f z= .func (.func i) x y)(N:P.funcs[i]?=some fn)(E:(fn.body.isSome&& !(fn.name== "runtime.NumGoroutine"))=true)(T:appL x.toList (appL (eO (dj f) args.toList) y.toList)=l):
  AP P (dj f) ⟨d,.call ⟨.value z,args,A⟩,ty,pos,af,gd⟩ H (.enter i l,H):=by
 refine⟨?_⟩
 show eY (ff P (dj f z) (eO (dj f) args.toList)) H=_
 rw[U]
 unfold ff
 simp only[N,E,cond_true,T]
 rfl
end
theorem vq{a b:Int}(A:in64 a)(hb:b≠ -1):rng .i64 (a.tdiv b):=by
 show in64 _;by_cases E:b=0
 ·subst E;rw[Int.tdiv_zero];decide
 have z:(a.tdiv b).natAbs=a.natAbs/b.natAbs:=Int.natAbs_tdiv a b;by_cases N:b=1
 ·subst N;rw[Int.tdiv_one];exact A
 have T:2<=b.natAbs:=by omega
 have U:(a.tdiv b).natAbs*2<=a.natAbs:=by rw[z];exact a0c (Nat.mul_le_mul_left _ T) (Nat.div_mul_le_self _ _)
 obtain⟨V,Z⟩:=A;clear z;constructor<;>omega
theorem ve{n m:Int}(h:n=m)(z: -9223372036854775808<=m/\m<9223372036854775808):n=m/\rng .i64 m:=⟨h,z⟩
section
variable {P:Program} {t:TypeId} {fs:Array Field} {xs ys:List Value} {bs:List Bool}
theorem agEq(z:xs.all noA0=true)(A:ys.all noA0=true)(N:P.underlying t=some (.struct fs))(hs:P.stoodInHeld t=false)(E:P.eqGuardType P.depth t=false)(h:EqFs P 9999 ⟨xs⟩ ⟨ys⟩ fs.toList bs):AGB P .eql t (.agg ⟨xs⟩) (.agg ⟨ys⟩) (.bool (bs.all id)):=
 fun _ _ _ _ _ _ _ _ _ _ T U=>ap_agEq T U z A N hs E h
theorem agNe(A:xs.all noA0=true)(E:ys.all noA0=true)(hu:P.underlying t=some (.struct fs))(hs:P.stoodInHeld t=false)(hg:P.eqGuardType P.depth t=false)(h:EqFs P 9999 ⟨xs⟩ ⟨ys⟩ fs.toList bs):AGB P .neq t (.agg ⟨xs⟩) (.agg ⟨ys⟩) (.bool (!bs.all id)):=by
 intro ρ x y yt d ty pos af gd H z N;refine⟨?_⟩;show aBin P ρ _ .neq t (ρ x) y H=_;rw[z];show bw P ρ _ H=_;unfold bw;have V:((Op.binOp .neq t x y yt).operands.toList.all fun x=>gE (ρ x))=true:=by simp[Op.operands,z,N,gO A,gO E]
 simp only[V,cond_true];have Z:aq P (execOp ρ ⟨d,.binOp .neq t x y yt,ty,pos,af,gd⟩)=some (.value (Value.bool (!bs.all id))):=by
  unfold execOp;simp only[z,N,aJ];have T:aq P (eqGuard .neq t x y (.agg ⟨xs⟩) (.agg ⟨ys⟩))=some ():=by simp[eqGuard,hg]
  have U:aq P (binOp .neq t (.agg ⟨xs⟩) (.agg ⟨ys⟩))=some (Value.bool (!bs.all id)):=by show aq P (Op.equal t (.agg ⟨xs⟩) (.agg ⟨ys⟩)>>=fun b=>(Pure.pure (Value.bool (!b)):Sem Value))=_;rw[aJ,show Op.equal t (.agg ⟨xs⟩) (.agg ⟨ys⟩)=Op.equalIn (9999+1) t (.agg ⟨xs⟩) (.agg ⟨ys⟩) from rfl,eq_struct hu hs h];rfl
  simp only[T,U,a0q];rfl
 rw[Z];rfl
end
end Go.R
end
noncomputable section
namespace Go.R
section
variable {B:Base} {F:Fz} {H:Heap} {L R:List Fp} {x:Fp}
theorem HS.first(h:HS B F H (x::L) R):HS B F H [x] R:=HS.sub h (by simp)
theorem HS.didW{z:Heap}{W:List Nat}(h:HS (.of {z with log:=[]} W) F H L R): ∀b,b∈H.log->z.next<=b\/b∈W:=fun b A=>by
 rcases h.log b A with h1|h1|h1
 ·simp[Base.of]at h1
 ·exact .inl h1
 exact .inr h1
end
end Go.R
end
namespace Go.R
theorem dB{P:Program}{ρ:Operand->Value}{d:Option Tmp}{ty:TypeId}{pos:String}{af:Array Edge}{gd:Option (Nat×Bool)}{H:Heap}{x:Operand}{a:Addr}(z:ρ x= .pointer (some a)):AP P ρ ⟨d,.nilCheck x,ty,pos,af,gd⟩ H (.val (.pointer (some a)),H):=by refine⟨?_⟩;show opNil (ρ x) H=_;rw[z];rfl
end Go.R
namespace Go.R
theorem over_all: ∀(cs z:List Value),cs.length=z.length->over cs z=z
 | [],[],_=>rfl
 | [],_::_,h=>by simp at h
 |_::_,[],h=>by simp at h
 |c::cs,v::z,h=>by show v::over cs z=_;rw[over_all cs z (by simpa using h)]
theorem st_whole{α:Type} [Rp α]{F:Fz}{X Y:α}{cl:List Value}(h:Rp.rep F cl Y): ∀cs,Rp.rep F cs X->0+cl.length<=cs.length/\Rp.rep F (bp cs 0 cl) Y:=by
 intro cs hc;have z:=Rp.len h;have A:=Rp.len hc;refine⟨by omega,?_⟩;have:bp cs 0 cl=over cs cl:=by cases cs<;>rfl
 rw[this,over_all _ _ (by omega)];exact h
end Go.R
namespace Go.R
theorem HS.nin{B:Base}{F:Fz}{H:Heap}{L R:List Fp}(h:HS B F H L R){i j:Nat}{p q:Fp}(hi:L[i]?=some p)(V:L[j]?=some q)(E:i≠j){b:Nat}(U:b∈p.map Prod.fst):b∉q.map Prod.fst:=by
 intro Z;have hc:=h.callOwn hi;have z:=hc.nd;have N:q∈L.set i []:=by refine a0l (i:=j) ?_;rw[a29 E];exact V
 simp only[a0P,a11,a0L,a0Y,a1j]at z;refine z.2.2 b U b ?_ rfl;obtain⟨⟨T,o⟩,A,rfl⟩:=a0s.1 Z;exact a0s.2 ⟨(T,o),a0N.2 ⟨q,List.mem_append_left _ N,A⟩,rfl⟩
end Go.R
namespace Go.R
theorem SR.len'{α:Type} [Rp α]{F:Fz}{a:Option Addr}{n k:Nat}{l:List α}(h:SR F (.slice a n k) l):l.length=n:=by obtain⟨z,A,e⟩:=Sv.shape h;injection e with _ e _;exact e.symm
theorem SR.norm{α:Type} [Rp α]{F:Fz}{a:Option Addr}{n k:Nat}{l:List α}(h:SR F (.slice a n k) l):SR F (.slice a l.length k) l:=by rw[h.len'];exact h
theorem HS.apq{B:Base}{F:Fz}{H:Heap}{L R:List Fp}(h:HS B F H L R){i:Nat}{p:Fp}(hi:L[i]?=some p): ∀b,b∈p.map Prod.fst->¬F b≠none:=by intro b E N;obtain⟨⟨A,o⟩,z,rfl⟩:=a0s.1 E;exact N (h.own p (.inl (a0l hi)) A o z).2.2
theorem SR.q{α:Type} [Rp α]{F:Fz}{a:Option Addr}{n k:Nat}{l:List α}(h:SR F (.slice a n k) l): ∀p,a=some p->F p.block≠none:=by
 intro p z;rcases h with⟨e,_⟩|⟨b,off,N,o,e,A,_⟩
 ·injection e with e1;rw[e1]at z;cases z
 injection e with e1;rw[e1]at z;obtain rfl:=Option.some.inj z;rw[show F b=some o from A];exact fun E=>by cases E
end Go.R
noncomputable section
set_option linter.unusedVariables false
namespace Go.R
open Go
section
variable {P:Program} {G:Nat} {K:bM} {sz:Nat} {Q:Ex->Fn->Heap->Prop} {ops:Array Oper} {D:List (Nat×ID)} {i:Nat} {os:List Oper} {k k1 k2:List Fr} {c c1 c2:Code} {f:Fn} {H H1:Heap} {v:Value}
variable {d:Tmp} {ty:TypeId} {pos:String} {af:Array Edge} {x y:Operand}
theorem zi(n m:Nat){a b:Code}{v:Bool}(T:v=true->WK P G K sz c1 k1 f H Q)(E:v=false->WK P G K sz c2 k2 f H Q)(U:dj f x= .bool v:=by rfl)(N:bC G x=true:=by rfl)(z:foc n a k=(c1,k1):=by rfl)(A:foc m b k=(c2,k2):=by rfl):WK P G K sz (.cond x a b) k f H Q:=wk_if n m U N z A T E
theorem zd(n m:Nat){a b:Code}{p:Prop}{i:Decidable p}(T:p->WK P G K sz c1 k1 f H Q)(E: ¬p->WK P G K sz c2 k2 f H Q)(U:dj f x= .bool (@decide p i):=by rfl)(N:bC G x=true:=by rfl)(z:foc n a k=(c1,k1):=by rfl)(A:foc m b k=(c2,k2):=by rfl):WK P G K sz (.cond x a b) k f H Q:=wk_if n m U N z A (fun h=>T (of_decide_eq_true h)) fun h=>E (of_decide_eq_false h)
theorem ze(n:Nat)(h:WK P G K sz c1 k1 f H Q)(z:foc n .skip k=(c1,k1):=by rfl):WO P G K sz ops [] k f H Q:=aD n z h
theorem zf(n:Nat)(h:WK P G K sz c1 k1 f H Q)(z:foc n c k=(c1,k1):=by rfl):WK P G K sz c k f H Q:=aC n z h
theorem za(v:Value)(h:WO P G K sz ops os k (upd f d v) H Q)(E:dj f x=v:=by rfl)(A:(Op.assign x).operands.toList.all (bC G)=true:=by rfl)(z:Nat.ble (d+1) sz=true:=by rfl):WO P G K sz ops (⟨some d,.assign x,ty,pos,af,none⟩::os) k f H Q:=wa v E A z h
theorem zm(v:Value)(h:WO P G K sz ops os k (upd f d v) H Q)(E:dj f x=v:=by rfl)(A:(Op.move x).operands.toList.all (bC G)=true:=by rfl)(z:Nat.ble (d+1) sz=true:=by rfl):WO P G K sz ops (⟨some d,.move x,ty,pos,af,none⟩::os) k f H Q:=wm v E A z h
theorem zfm(v:Value)(h:WF2 P G K sz ops ((i,.v)::D) (i+1) os k (upd f d v) H Q)(E:dj f x=v:=by rfl)(A:(Op.move x).operands.toList.all (bC G)=true:=by rfl)(z:Nat.ble (d+1) sz=true:=by rfl):WF2 P G K sz ops D i (⟨some d,.move x,ty,pos,af,none⟩::os) k f H Q:=fm v E A z h
theorem zc{args:Array Operand}{z:Array TypeId}{g:FuncId}{fn:Func}{l:List Value}{R:Value->Heap->Prop}(hc:C P G K g l H R)(h: ∀v A,R v A->WO P G K sz ops os k (upd f d v) A Q)(T:P.funcs[g]?=some fn:=by rfl)(E:(fn.body.isSome&& !(fn.name== "runtime.NumGoroutine"))=true:=by rfl)(U:eO (dj f) args.toList=l:=by rfl)(V:(Op.call ⟨.value (.func g),args,z⟩).operands.toList.all (bC G)=true:=by rfl)(N:Nat.ble (d+1) sz=true:=by rfl):
  WO P G K sz ops (⟨some d,.call ⟨.value (.func g),args,z⟩,ty,pos,af,none⟩::os) k f H Q:=wo_call (aV T E U) V N hc h
theorem zp{s:TypeId}{b o n:Nat}(z:Nat)(h:WF2 P G K sz ops ((i,.v)::D) (i+1) os k (upd f d (.pointer (some ⟨b,z,none⟩))) H Q)(T:dj f x= .pointer (some ⟨b,o,none⟩):=by rfl)(A:hL P s (.pointer (some ⟨b,o,none⟩)) n=some (.pointer (some ⟨b,z,none⟩)):=by rfl)(N:(Op.fieldAddr s x n).operands.toList.all (bC G)=true:=by rfl)(E:Nat.ble (d+1) sz=true:=by rfl):WF2 P G K sz ops D i (⟨some d,.fieldAddr s x n,ty,pos,af,none⟩::os) k f H Q:=aF (fJ T A) N E (fE rfl) (ee _) h
theorem zl{t:TypeId}{b o o':Nat}(j:Nat){cs:List Value}{w:Value}(hc:HC ({H with log:=[]}:Heap).get b o cs)(h:WF2 P G K sz ops ((i,.l b)::D) (i+1) os k (upd f d w) H Q)(z:dj f x= .pointer (some ⟨b,o',none⟩):=by rfl)(A:gf P t=some false:=by rfl)(N:o'=o+j:=by rfl)(V:cs[j]?=some w:=by rfl)(U:(Op.load t x).operands.toList.all (bC G)=true:=by rfl)(E:Nat.ble (d+1) sz=true:=by rfl)(T:okB ops i (.l b) D=true:=by rfl):WF2 P G K sz ops D i (⟨some d,.load t x,ty,pos,af,none⟩::os) k f H Q:=aF (dX (H:={H with log:=[]}) z A hc N V) U E (ce z) (kb T) h
theorem zx(α:Type) [Rp α]{t e:TypeId}{V:IntKind}{F:Fz}{l:List α}(j:Nat)(hs:Sv F ({H with log:=[]}:Heap).get v l)(h:WF2 P G K sz ops ((i,.v)::D) (i+1) os k (upd f d (.pointer (some ⟨sB v,sO v+j*Rp.sz α,none⟩))) H Q)(A:(j:Int)<l.length:=by first|(dsimp only;omega)|omega)(T:dj f x=v:=by rfl)(hi:dj f y= .int V (j:Int):=by rfl)(N:P.underlying t=some (.slice e):=by rfl)(U:dp P e=some (Rp.sz α):=by rfl)(E:(Op.indexAddr t x y).operands.toList.all (bC G)=true:=by rfl)(z:Nat.ble (d+1) sz=true:=by rfl):
  WF2 P G K sz ops D i (⟨some d,.indexAddr t x y,ty,pos,af,none⟩::os) k f H Q:=aF (fH (H:={H with log:=[]}) T hi N U hs (by omega) A) E z (fE rfl) (ee _) h
theorem zy(α:Type) [Rp α]{t e:TypeId}{Z:IntKind}{F:Fz}{l:List α}(j:Int)(hs:Sv F ({H with log:=[]}:Heap).get v l)(h:WF2 P G K sz ops ((i,.v)::D) (i+1) os k (upd f d (.pointer (some ⟨sB v,sO v+j.toNat*Rp.sz α,none⟩))) H Q)(z:0<=j:=by first|(dsimp only;omega)|omega)(E:j<l.length:=by first|(dsimp only;omega)|omega)(U:dj f x=v:=by rfl)(hi:dj f y= .int Z j:=by rfl)(T:P.underlying t=some (.slice e):=by rfl)(V:dp P e=some (Rp.sz α):=by rfl)(N:(Op.indexAddr t x y).operands.toList.all (bC G)=true:=by rfl)(A:Nat.ble (d+1) sz=true:=by rfl):
  WF2 P G K sz ops D i (⟨some d,.indexAddr t x y,ty,pos,af,none⟩::os) k f H Q:=aF (fH (H:={H with log:=[]}) U hi T V hs z E) N A (fE rfl) (ee _) h
end
end Go.R
end
noncomputable section
namespace Go.R
section
variable {B:Base} {F F':Fz} {H:Heap} {L R:List Fp}
theorem HS.flat(h:HS B F H L R){N:List Fp}(Z:N.flatten.Perm L.flatten):HS B F H N R:=by
 have V: ∀p,p∈N->∀x,x∈p->∃A,A∈L/\x∈A:=fun p ad x hx=>a0N.1 (Z.mem_iff.1 (a0N.2 ⟨p,ad,hx⟩))
 refine⟨h.fz,fun p z b o E=>?_,?_,h.n0,h.log,fun p z b o E=>?_⟩
 ·rcases z with z|z
  ·obtain⟨A,T,U⟩:=V p z _ E;exact h.own A (.inl T) b o U
  exact h.own p (.inr z) b o E
 ·have:=h.nd;rw[a0M]at this⊢;exact(((Z.append_right R.flatten).map _).nodup_iff).2 this
 obtain⟨A,T,U⟩:=V p z _ E;exact h.mine A T b o U
theorem jR{α:Type}{L:List (List α)}{i:Nat}{p:List α}(q:List α)(hi:L[i]?=some p):((L.set i q).flatten++p).Perm (L.flatten++q):=by obtain⟨A,C,z,E⟩:=gU L i p q hi;rw[E,z];simp only[a0M,a0L,a0o];refine a0W _ ?_;refine List.Perm.trans (a0W q a1n) ?_;refine List.Perm.trans (a12 q p _) ?_;exact a0W p a1n
theorem HS.open(h:HS B F H L R){i:Nat}{p q r:Fp}(hi:L[i]?=some p)(N:p.Perm (q++r)):HS B F H (L.set i q++[r]) R:=by
 refine h.flat ?_;have z:=jR q hi;have A:((L.set i q).flatten++r++q).Perm (L.flatten++q):=by refine List.Perm.trans ?_ z;rw[a0o];exact a0W _ (a1n.trans N.symm)
 have E:=(List.perm_append_right_iff q).1 A;simpa[a0M] using E
theorem HS.close(h:HS B F H L R){i j:Nat}{p q r:Fp}(E:i≠j)(hi:L[i]?=some q)(V:L[j]?=some r)(Z:p.Perm (q++r)):HS B F H ((L.set i p).set j []) R:=by
 refine h.flat ?_;have N:=jR p hi;have A:(L.set i p)[j]?=some r:=by rw[a29 E];exact V
 have z:=jR [] A;rw[a0F]at z;have T:(((L.set i p).set j []).flatten++(r++q)).Perm (L.flatten++p):=by rw[←a0o];exact(z.append_right q).trans N
 have U:(((L.set i p).set j []).flatten++p).Perm (L.flatten++p):=(a0W _ (Z.trans a1n)).trans T;exact(List.perm_append_right_iff p).1 U
end
structure Hd where
 a:Option Addr
 n:Nat
 k:Nat
instance :Inhabited Hd:=⟨⟨none,0,0⟩⟩
def Hd.v(h:Hd):Value:= .slice h.a h.n h.k
instance :Rp Hd where
 sz:=1
 rep _ cs h:=cs=[.slice h.a h.n h.k]
 len:=by rintro F cs x rfl;rfl
 one:=by rintro F cs x rfl;rfl
 mono:=by intro F F' cs x _ h;exact h
theorem vH{F:Fz}{get:Nat->Option AObj}{v:Value}{l:List Hd}{cf:Nat->List Value}{j:Nat}(h:VW F get v l cf j)(E:j<l.length:=by first|(dsimp only;omega)|omega):
  HC get (sB v) (sO v+j*Rp.sz Hd) [.slice (l.getD j default).a (l.getD j default).n (l.getD j default).k]:=by
 obtain⟨A,z⟩:=h.1 default E
 rw[show cf j=_ from A]at z;exact z
def FAM{ι β:Type}(Ch:Fz->ι->β->Fp->Prop)(F:Fz):List ι->List β->Fp->Prop
 | [],[],p=>p=[]
 |h::hs,x::xs,p=> ∃q r,p=q++r/\Ch F h x q/\FAM Ch F hs xs r
 |_,_,_=>False
section
variable {ι β:Type} {Ch:Fz->ι->β->Fp->Prop} {F F':Fz}
theorem FAM.len: ∀{hs:List ι} {xs:List β} {p:Fp},FAM Ch F hs xs p->hs.length=xs.length
 | [],[],_,_=>rfl
 |_::_,_::_,_,⟨_,_,_,_,h⟩=>by rw[a08,a08,h.len]
 | [],_::_,_,h=>h.elim
 |_::_,[],_,h=>h.elim
theorem FAM.mono(z: ∀{h x q},Ch F h x q->Ch F' h x q): ∀{hs:List ι} {xs:List β} {p:Fp},FAM Ch F hs xs p->FAM Ch F' hs xs p
 | [],[],_,h=>h
 |_::_,_::_,_,⟨q,r,e,h1,h⟩=>⟨q,r,e,z h1,h.mono z⟩
 | [],_::_,_,h=>h.elim
 |_::_,[],_,h=>h.elim
theorem FAM.rep{z:ι}{A:β}(k:Ch F z A []): ∀n,FAM Ch F (List.replicate n z) (List.replicate n A) []
 |0=>rfl
 |n+1=>⟨[],[],rfl,k,FAM.rep k n⟩
theorem FAM.open [Inhabited ι] [Inhabited β](U: ∀{G V:Fz},G.le V->∀{h x q},Ch G h x q->Ch V h x q): ∀{hs:List ι} {xs:List β} {p:Fp} (i:Nat),FAM Ch F hs xs p->i<xs.length->
  ∃q r,p.Perm (q++r)/\Ch F (hs.getD i default) (xs.getD i default) r/\∀F',F.le F'->∀A N z,Ch F' A N z->∃E,E.Perm (q++z)/\FAM Ch F' (hs.set i A) (xs.set i N) E
 | [],[],_,i,_,hi=>by simp at hi
 |h::hs,x::xs,p,0,⟨q,r,e,h1,h2⟩,_=>by refine⟨r,q,by rw[e];exact a1n,h1,fun F' T A N z hc=>⟨z++r,a1n,z,r,rfl,hc,h2.mono (U T)⟩⟩
 |h::hs,x::xs,p,i+1,⟨q,r,e,h1,h2⟩,hi=>by
  obtain⟨q1,r1,Z,g2,g3⟩:=FAM.open U i h2 (by simpa using hi);refine⟨q++q1,r1,?_,by simpa using g2,fun F' T A N z hc=>?_⟩
  ·rw[e,a0o];exact a0W q Z
  obtain⟨E,g4,g5⟩:=g3 F' T A N z hc;exact⟨q++E,by rw[a0o];exact a0W q g4,q,E,rfl,U T h1,by simpa using g5⟩
 | [],_::_,_,_,h,_=>h.elim
 |_::_,[],_,_,h,_=>h.elim
theorem FAM.at [Inhabited ι] [Inhabited β]: ∀{hs:List ι} {xs:List β} {p:Fp} (i:Nat),FAM Ch F hs xs p->i<xs.length->∃q,(∀x,x∈q->x∈p)/\Ch F (hs.getD i default) (xs.getD i default) q
 | [],[],_,i,_,hi=>by simp at hi
 |_::_,_::_,_,0,⟨q,r,e,h1,h2⟩,_=>⟨q,fun x z=>by rw[e];exact a07.2 (.inl z),h1⟩
 |_::hs,_::xs,_,i+1,⟨q,r,e,h1,h2⟩,hi=>by obtain⟨N,A,E⟩:=FAM.at i h2 (by simpa using hi);exact⟨N,fun x z=>by rw[e];exact a07.2 (.inr (A x z)),by simpa using E⟩
 | [],_::_,_,_,h,_=>h.elim
 |_::_,[],_,_,h,_=>h.elim
end
theorem en{β:Type}{d:β}: ∀(l:List β) (i:Nat),l.set i (l.getD i d)=l
 | [],_=>rfl
 |_::_,0=>rfl
 |x::l,i+1=>by have:=en (d:=d) l i;simp only[a2f,a1W];rw[this]
section
variable {α:Type} [Rp α] {F F':Fz}
theorem OS.froz{v:Value}{l:List α}{p:Fp}(h:OS F v l p)(N:F.le F')(T: ∀b o,(b,o)∈p->F' b=some o):SR F' v l:=by
 rcases h with⟨z,A,_⟩|⟨b,off,k,cs,U,z,A,E⟩
 ·exact .inl ⟨z,A⟩
 exact .inr ⟨b,off,k,_,z,T b _ (by rw[A];simp),E.mono N⟩
theorem SR.n{h:Hd}{l:List α}(k:SR F h.v l):h.n=l.length:=by obtain⟨a,z,e⟩:=Sv.shape k;unfold Hd.v at e;injection e
theorem RL.conv{β:Type} [Rp β]: ∀{l:List α} {m:List β} {cs:List Value},l.length=m.length->(∀(i:Nat) x y,l[i]?=some x->m[i]?=some y->∀c,Rp.rep F c x->Rp.rep F' c y)->RL F cs l->RL F' cs m
 | [],[],_,_,_,h=>h
 |x::l,y::m,cs,hl,hc,⟨c,r,e,h1,h2⟩=>⟨c,r,e,hc 0 x y rfl rfl c h1,RL.conv (by simpa using hl) (fun i a b z A=>hc (i+1) a b (by simpa using z) (by simpa using A)) h2⟩
theorem SR.conv{β:Type} [Rp β]{v:Value}{l:List α}{m:List β}(A:Rp.sz α=Rp.sz β)(h:SR F v l)(z:l.length=m.length)(hF:F.le F')(hc: ∀(i:Nat) x y,l[i]?=some x->m[i]?=some y->∀c,Rp.rep F c x->Rp.rep F' c y):SR F' v m:=by
 rcases h with⟨rfl,rfl⟩|⟨b,off,k,o,N,T,cs,E,ro,e,U,V,Z,h6⟩
 ·cases m with
  |nil=>exact .inl ⟨rfl,rfl⟩
  |cons _ _=>simp at z
 refine .inr ⟨b,off,k,o,by rw[←z];exact N,hF _ _ T,cs,E,ro,e,by rw[←A];exact U,by rw[←z];exact V,?_,by rw[←A];exact h6⟩;rw[←z,←A];exact RL.conv z hc Z
theorem SR.nin{B:Base}{H:Heap}{L R:List Fp}{v:Value}{l:List α}{i j:Nat}{p:Fp}(h:SR F v l)(s:HS B F H L R)(hi:L[i]?=some p)(T:j<l.length):sB v∉p.map Prod.fst:=by
 rcases h with⟨_,rfl⟩|⟨b,off,k,o,rfl,E,_⟩
 ·simp at T
 intro U;obtain⟨⟨z,o'⟩,N,e⟩:=a0s.1 U;have A:z=b:=e;subst A;have:=(s.own p (.inl (a0l hi)) z o' N).2.2;rw[E]at this;cases this
class Ri(α:Type) [Rp α]:Prop where
 ind: ∀{F F':Fz} {cs:List Value} {x:α},Rp.rep F cs x->Rp.rep F' cs x
instance :Ri Int:=⟨fun h=>h⟩
instance :Ri Bool:=⟨fun h=>h⟩
instance :Ri Str:=⟨fun h=>h⟩
instance :Ri U64:=⟨fun h=>h⟩
instance :Ri UInt8:=⟨fun h=>h⟩
instance :Ri Hd:=⟨fun h=>h⟩
theorem OS.ind [Ri α]{v:Value}{l:List α}{p:Fp}(h:OS F v l p):OS F' v l p:=by
 rcases h with h|⟨b,off,k,cs,opn,h1,h2,cs',opn',ro',e,h3,h4,h5,h6⟩
 ·exact .inl h
 exact .inr ⟨b,off,k,cs,opn,h1,h2,cs',opn',ro',e,h3,h4,RL.conv rfl (fun i x y A z c hc=>by rw[A]at z;cases z;exact Ri.ind hc) h5,h6⟩
end
class HasHd(ι:Type) where
 hd:ι->Hd
instance :HasHd Hd:=⟨fun h=>h⟩
def OH{ι α:Type} [HasHd ι] [Rp α](F:Fz)(h:ι)(l:List α)(p:Fp):Prop:=OS F (HasHd.hd h).v l p
abbrev SF{ι α:Type} [HasHd ι] [Rp α](F:Fz)(hs:List ι)(ls:List (List α))(p:Fp):Prop:=FAM (OH (ι:=ι) (α:=α)) F hs ls p
section
variable {ι α:Type} [HasHd ι] [Rp α] {F F':Fz} {B:Base} {H:Heap} {L R:List Fp} {hs:List ι} {ls:List (List α)} {p:Fp}
theorem SF.mono(z:F.le F')(h:SF F hs ls p):SF F' hs ls p:=FAM.mono (Ch:=OH (ι:=ι) (α:=α)) (fun k=>OS.mono (α:=α) z k) h
theorem SF.rep(n:Nat):SF F (List.replicate n (default:Hd)) (List.replicate n ([]:List α)) []:=FAM.rep (Ch:=OH (ι:=Hd) (α:=α)) (show OS F (Hd.v default) ([]:List α) [] from OS.nil) n
def SB(F:Fz)(hs:List ι)(ls:List (List α))(i:Nat)(N:Fp):Prop:= ∀F',F.le F'->∀z l' E,OH F' z l' E->∃A,A.Perm (N++E)/\SF F' (hs.set i z) (ls.set i l') A
theorem OS.nlen{a:Option Addr}{n k:Nat}{l:List α}{p:Fp}(h:OS F (.slice a n k) l p):n=l.length:=by obtain⟨z,A,e⟩:=h.shape;injection e
theorem SF.shutN{T E:Fp}{i:Nat}{l':List α}(A:ι)(w:SB F hs ls i T)(Z:F.le F')(s:HS B F' H L R){q m:Nat}(N:q≠m)(hq:L[q]?=some T)(hm:L[m]?=some E)
  (h:OS F' (HasHd.hd A).v l' E): ∃z,HS B F' H ((L.set q z).set m []) R/\SF F' (hs.set i A) (ls.set i l') z:=by
 obtain⟨z,U,V⟩:=w F' Z A l' E h
 exact⟨z,s.close N hq hm U,V⟩
end
section
variable {ι α:Type} [HasHd ι] [Inhabited ι] [Rp α] {F F':Fz} {B:Base} {H:Heap} {L R:List Fp} {hs:List ι} {ls:List (List α)} {p:Fp}
theorem SF.open(h:SF F hs ls p)(s:HS B F H L R){q i:Nat}(V:L[q]?=some p)(hi:i<ls.length):
  ∃z A,HS B F H (L.set q z++[A]) R/\OS F (.slice (HasHd.hd (hs.getD i default)).a (HasHd.hd (hs.getD i default)).n (HasHd.hd (hs.getD i default)).k) (ls.getD i []) A/\SB F hs ls i z:=by
 obtain⟨z,A,E,N,T⟩:=FAM.open (Ch:=OH (ι:=ι) (α:=α)) (fun U _ _ _ k=>OS.mono (α:=α) U k) i h hi
 exact⟨z,A,s.open V E,N,T⟩
theorem SF.shut{E N:Fp}{i:Nat}{l':List α}(w:SB F hs ls i E)(T:F.le F')(s:HS B F' H L R){q m:Nat}(z:q≠m)(V:L[q]?=some E)(U:L[m]?=some N)
  (h:OS F' (.slice (HasHd.hd (hs.getD i default)).a (HasHd.hd (hs.getD i default)).n (HasHd.hd (hs.getD i default)).k) l' N): ∃A,HS B F' H ((L.set q A).set m []) R/\SF F' hs (ls.set i l') A:=by
 have:=SF.shutN (hs.getD i default) w T s z V U h
 rw[en]at this;exact this
theorem SF.shut0{E N:Fp}{i:Nat}(w:SB F hs ls i E)(T:F.le F')(s:HS B F' H L R){q m:Nat}(z:q≠m)(V:L[q]?=some E)(U:L[m]?=some N)
  (h:OS F' (.slice (HasHd.hd (hs.getD i default)).a (HasHd.hd (hs.getD i default)).n (HasHd.hd (hs.getD i default)).k) (ls.getD i []) N): ∃A,HS B F' H ((L.set q A).set m []) R/\SF F' hs ls A:=by
 have:=SF.shut w T s z V U h
 rw[en]at this;exact this
theorem SF.freeze(h:SF F hs ls p)(s:HS B F H L R){q:Nat}(V:L[q]?=some p): ∃F',F.le F'/\HS B F' H (L.set q []) R/\(∀i,i<ls.length->SR F' (HasHd.hd (hs.getD i default)).v (ls.getD i [])):=by obtain⟨F',z,N,T⟩:=s.freeze V;refine⟨F',z,N,fun i hi=>?_⟩;obtain⟨r,A,E⟩:=FAM.at (Ch:=OH (ι:=ι) (α:=α)) i h hi;exact OS.froz (α:=α) E z fun b o U=>T b o (A _ U)
end
section
variable {α:Type} [Rp α] {F F':Fz} {B:Base} {H:Heap} {L R:List Fp}
theorem SR.rows{v:Value}{hs:List Hd}{ls:List (List α)}(h:SR F v hs)(U:hs.length=ls.length)(k: ∀i,i<ls.length->SR F (HasHd.hd (hs.getD i default)).v (ls.getD i [])):SR F v ls:=by
 refine SR.conv (α:=Hd) (β:=List α) rfl h U F.le_refl fun i x y V E c hc=>?_
 have hi:=(a0v.1 E).1;have k1:=k i hi;have N:hs.getD i default=x:=by rw[a01,V];rfl
 have T:ls.getD i []=y:=by rw[a01,E];rfl
 rw[N,T]at k1;have A:=SR.n (h:=x) k1;have z:c=[.slice x.a x.n x.k]:=hc;refine⟨x.a,x.k,by rw[←A];exact z,?_⟩;rw[←A];exact k1
theorem HS.thawX{Z F2:Fz}{H':Heap}{M:List Fp}{i:Nat}{p:Fp}(h:HS B F H L R)(hi:L[i]?=some p)(hF:F.le Z)(hp: ∀b o,(b,o)∈p->Z b=some o)(U:Z.le F2)(k:HS B F2 H' (L.set i []++M) R):HS B F H' (L++M) R:=by
 obtain⟨A,C,e1,e2⟩:=ej L i p hi;have bl:p∈L:=a0l hi;have an: ∀b,F2 b=none->F b=none:=fun b N=>by
  cases hq:F b with
  |none=>rfl
  |some z=>rw[U _ _ (hF _ _ hq)]at N;cases N
 refine⟨fun b o N=>k.fz b o (U _ _ (hF _ _ N)),fun x E b o N=>?_,?_,k.n0,k.log,fun x E b o N=>?_⟩
 ·by_cases V:x=p
  ·subst V;obtain⟨g1,g2⟩:=k.fz b o (U _ _ (hp b o N));exact⟨g1,g2,(h.own x (.inl bl) b o N).2.2⟩
  have hk:x∈L.set i []++M\/x∈R:=by
   rcases E with E|E
   ·rcases a07.1 E with E|E
    ·refine .inl (a07.2 (.inl ?_));rw[e2];rw[e1]at E;rcases a07.1 E with E|E
     ·exact a07.2 (.inl E)
     rcases a0m.1 E with E|E
     ·exact absurd E V
     exact a07.2 (.inr (a0h _ E))
    exact .inl (a07.2 (.inr E))
   exact .inr E
  obtain⟨g1,g2,g3⟩:=k.own x hk b o N;exact⟨g1,g2,an b g3⟩
 ·have kn:=k.nd;have hn:=h.nd;rw[e2]at kn;rw[e1]at hn⊢;have ao: ∀a,a∈p.map Prod.fst->∀c,c∈M.flatten.map Prod.fst->a≠c:=by rintro a T c hc rfl;obtain⟨⟨b,o⟩,N,rfl⟩:=a0s.1 T;obtain⟨⟨b',o'⟩,bb,e⟩:=a0s.1 hc;obtain⟨x,E,be⟩:=a0N.1 bb;have e':b'=b:=e;subst e';have:=(k.own x (.inl (a07.2 (.inr E))) b' o' be).2.2;rw[U _ _ (hp b' o N)]at this;cases this
  simp only[a0o,a0P,a0M,a0L,a0Y,a1j,a07,a11]at kn hn⊢;obtain⟨a1,⟨a2,⟨a3,a4,a5⟩,a6⟩,a7⟩:=kn;obtain⟨b1,⟨b2,⟨b3,b4,b5⟩,b6⟩,b7⟩:=hn;refine⟨a1,⟨b2,⟨a2,⟨a3,a4,a5⟩,a6⟩,fun a T c hc=>?_⟩,fun a T c hc=>?_⟩
  ·rcases hc with hc|hc|hc
   ·exact b6 a T c (.inl hc)
   ·exact ao a T c hc
   exact b6 a T c (.inr hc)
  rcases hc with hc|hc|hc|hc
  ·exact b7 a T c (.inl hc)
  ·exact a7 a T c (.inl hc)
  ·exact a7 a T c (.inr (.inl hc))
  exact b7 a T c (.inr (.inr hc))
 rcases a07.1 E with E|E
 ·exact h.mine x E b o N
 exact k.mine x (a07.2 (.inr E)) b o N
theorem HS.thawL{F2:Fz}{H':Heap}{U:List Fp}{i i':Nat}{p:Fp}(h:HS B F H L R)(hi:L[i]?=some p)(hF:F.le F2)(hp: ∀b o,(b,o)∈p->F2 b=some o)(a6:U[i']?=some [])(k:HS B F2 H' U R):HS B F H' (U.set i' p) R:=by
 obtain⟨A,C,V,e2⟩:=gU U i' [] p a6;have Z:p∈L:=a0l hi;have av: ∀b,F2 b=none->F b=none:=fun b N=>by
  cases hq:F b with
  |none=>rfl
  |some z=>rw[hF _ _ hq]at N;cases N
 have ag: ∀x,x∈U.set i' p\/x∈R->x=p\/(x∈U\/x∈R):=by
  intro x E;rcases E with E|E
  ·rw[e2]at E;rcases a07.1 E with E|E
   ·exact .inr (.inl (by rw[V];exact a07.2 (.inl E)))
   rcases a0m.1 E with E|E
   ·exact .inl E
   exact .inr (.inl (by rw[V];exact a07.2 (.inr (a0h _ E))))
  exact .inr (.inr E)
 refine⟨fun b o N=>k.fz b o (hF _ _ N),fun x E b o N=>?_,?_,k.n0,k.log,fun x E b o N=>?_⟩
 ·rcases ag x E with rfl|E
  ·obtain⟨g1,g2⟩:=k.fz b o (hp b o N);exact⟨g1,g2,(h.own x (.inl Z) b o N).2.2⟩
  obtain⟨g1,g2,g3⟩:=k.own x E b o N;exact⟨g1,g2,av b g3⟩
 ·have kn:=k.nd;have hn:=h.nodup_of Z;have aw: ∀x,x∈U\/x∈R->∀a,a∈p.map Prod.fst->a∉x.map Prod.fst:=by intro x E a T hc;obtain⟨⟨b,o⟩,N,rfl⟩:=a0s.1 T;obtain⟨⟨b',o'⟩,a0,e⟩:=a0s.1 hc;have e':b'=b:=e;subst e';have:=(k.own x E b' o' a0).2.2;rw[hp b' o N]at this;cases this
  have ad: ∀(X:List Fp),(∀x∈X,x∈U\/x∈R)->∀a,a∈p.map Prod.fst->∀c,c∈X.flatten.map Prod.fst->a≠c:=by rintro X hX a T c hc rfl;obtain⟨y,hy,e⟩:=a0s.1 hc;obtain⟨x,E,a8⟩:=a0N.1 hy;exact aw x (hX x E) a T (a0s.2 ⟨y,a8,e⟩)
  have hA:=ad A (fun x E=> .inl (by rw[V];exact a07.2 (.inl E)));have hC:=ad C (fun x E=> .inl (by rw[V];exact a07.2 (.inr (a0h _ E))));have hR:=ad R (fun x E=> .inr E);rw[V]at kn;rw[e2];simp only[a0o,a0P,a0M,a0L,a0Y,a1j,a07,a11]at kn⊢;obtain⟨a1,⟨a2,a3,a4⟩,a5⟩:=kn;refine⟨a1,⟨hn,⟨a2,a3,a4⟩,fun a T c hc=>?_⟩,fun a T c hc=>?_⟩
  ·rcases hc with hc|hc
   ·exact hC a T c hc
   exact hR a T c hc
  rcases hc with hc|hc
  ·exact fun e=>hA c hc a T e.symm
  exact a5 a T c hc
 rcases ag x (.inl E) with rfl|hx'
 ·exact h.mine x Z b o N
 rw[e2]at E;rcases a07.1 E with E|E
 ·exact k.mine x (by rw[V];exact a07.2 (.inl E)) b o N
 rcases a0m.1 E with rfl|E
 ·exact h.mine x Z b o N
 exact k.mine x (by rw[V];exact a07.2 (.inr (a0h _ E))) b o N
end
end Go.R
end
noncomputable section
namespace Go.R
section
variable {α:Type} [Rp α] {P:Program} {ρ:Operand->Value} {d:Option Tmp} {ty:TypeId} {pos:String} {af:Array Edge} {gd:Option (Nat×Bool)} {B:Base} {F:Fz} {H:Heap} {L R:List Fp} {v:Value} {l:List α} {p:Fp}
def At(α:Type) [Rp α](v:Value)(n i:Nat)(a:Option Addr):Prop:=n<=i\/a=some ⟨sB v,sO v+i*Rp.sz α,none⟩
theorem rs_cutX{x:Operand}{lo:Option Operand}{t e:TypeId}{i q:Nat}(h:OS F v l p)(hs:HS B F H L R)(hq:L[q]?=some p)(hx:ρ x=v)(U:P.underlying t=some (.slice e))(V:dp P e=some (Rp.sz α))
  (h2:bY 0 (lo.map ρ)=some i) (T:i<=l.length):
  ∃r:Rs,AP P ρ ⟨d,.slice t x lo none none,ty,pos,af,gd⟩ H (.val r.v,r.H)/\(∃a k,r.v= .slice a (l.drop i).length k/\r.H=H/\OS F (.slice a (l.drop i).length k) (l.drop i) p/\At α v l.length i a):=by
 have N: ∀w,bx P t v (lo.map ρ) none none H=some w->AP P ρ ⟨d,.slice t x lo none none,ty,pos,af,gd⟩ H (.val w,H):=by intro w hw;refine⟨?_⟩;show ovl (bx P t (ρ x) (lo.map ρ) (Option.map ρ none) (Option.map ρ none) H) H=_;rw[hx,a1X,hw];rfl
 have h1:bY l.length (none:Option Value)=some l.length:=rfl
 have et:(l.take l.length).drop i=l.drop i:=by rw[a1e]
 rcases h with⟨rfl,rfl,rfl⟩|⟨b,off,k,cs,a5,rfl,rfl,g2⟩
 ·have an:i=0:=by simpa using T
  subst an;refine⟨⟨.slice none 0 0,H,[]⟩,N _ ?_,none,0,rfl,rfl,OS.nil,.inl (a0a _)⟩;unfold bx;have A:=jZ (n:=0) (k:=0) (hi:=(none:Option Value)) rfl h2 (a0a 0) (a0a 0);simp only[U,A,V,Option.isSome_some,cond_true]
 have hb:=hs.get hq (a0d.2 rfl)
 have E:=Sl_cut (F:=F) g2 T (a0a _)
 rw[et]at E
 obtain⟨a4,a3,a6,Z,g1,g3,g4,g5⟩:=id g2
 injection Z with Z e2 e3
 subst Z e2 e3
 have A:=jZ (n:=l.length) (k:=k) (hi:=(none:Option Value)) h1 h2 T g3
 have z:(l.drop i).length=l.length-i:=a0n
 rcases g5 with rfl|rfl
 ·cases hk:Nat.beq k i with
  |true=>
   have ao:=a09 hk
   have e0:l.drop i=[]:=a0t (by rw[z];omega)
   refine⟨⟨.slice (some ⟨b,off,none⟩) (l.length-i) (k-i),H,[]⟩,N _ ?_,some ⟨b,off,none⟩,k-i,by rw[z],rfl,?_,.inl (by omega)⟩
   ·unfold bx;simp only[U,A,V,hb,hk,cond_true]
   rw[e0,ao,a1T]
   exact .inr ⟨b,off,0,cs,none,rfl,rfl,Sl_at0 (k:=k) (l:=l) g2⟩
  |false=>
   refine⟨⟨.slice (some ⟨b,off+i*Rp.sz α,none⟩) (l.length-i) (k-i),H,[]⟩,N _ ?_,_,k-i,by rw[z],rfl,.inr ⟨b,_,k-i,cs,none,rfl,rfl,E⟩,.inr rfl⟩
   unfold bx
   simp only[U,A,V,hb,hk,cond_false]
 refine⟨⟨.slice (some ⟨b,off+i*Rp.sz α,none⟩) (l.length-i) (k-i),H,[]⟩,N _ ?_,_,k-i,by rw[z],rfl,.inr ⟨b,_,k-i,cs,some (Rp.sz α),rfl,rfl,E⟩,.inr rfl⟩
 unfold bx
 simp only[U,A,V,hb,a0Z,cond_true]
def cpL(l:List α)(i:Nat)(z:List α):List α:=l.take i++(z.take (l.length-i)++l.drop (i+min z.length (l.length-i)))
theorem rs_cp{d0 s0:Operand}{t e:TypeId}{i q k1:Nat}{a1:Option Addr}{z:List α}{u:Value}(h:OS F v l p)(hs:HS B F H L R)(hq:L[q]?=some p)(hd:ρ d0= .slice a1 (l.drop i).length k1)(ha:At α v l.length i a1)(hi:i<=l.length)
  (h2:OS F u z p) (hx:ρ s0=u) (ht:P.underlying t=some (.slice e)) (hz:dp P e=some (Rp.sz α)):
  ∃r:Rs,AP P ρ ⟨d,.call ⟨.builtin .copy, #[d0,s0], #[t,t]⟩,ty,pos,af,gd⟩ H (.val r.v,r.H)/\(r.v= .int .i64 ((min z.length (l.length-i):Nat):Int)/\OS F v (cpL l i z) r.p/\HS B F r.H (L.set q r.p) R/\Wr H r.H (p.map Prod.fst)):=by
 have a9:(l.drop i).length=l.length-i:=a0n
 have hm:lenA u=some z.length:=(h2.sv hs hq).first.1
 have a3: ∀w H1,lY P #[t,t] (.slice a1 (l.length-i) k1) u H=some (w,H1)->AP P ρ ⟨d,.call ⟨.builtin .copy, #[d0,s0], #[t,t]⟩,ty,pos,af,gd⟩ H (.val w,H1):=by intro w H1 hw;refine⟨?_⟩;show ovh (lY P #[t,t] (ρ d0) (ρ s0) H)=_;rw[hd,hx,a9,hw];rfl
 have be:L.set q p=L:=by obtain⟨A,C,Z,V⟩:=ej L q p hq;rw[V p,←Z]
 cases hn:Nat.beq (min z.length (l.length-i)) 0 with
 |true=>
  have N:=a09 hn
  refine⟨⟨.int .i64 ((min z.length (l.length-i):Nat):Int),H,p⟩,a3 _ _ ?_,rfl,?_,by rw[be];exact hs,fun b hb=> .inl hb⟩
  ·unfold lY;simp only[List.getElem?_toArray,a0X,ht,hm,hz];rw[show Nat.min z.length (l.length-i)=min z.length (l.length-i) from rfl,hn,N];rfl
  have e:cpL l i z=l:=by unfold cpL;rw[N,a2g];have:z.take (l.length-i)=[]:=a0t (by rw[a0j,Nat.min_comm];exact N);rw[this,a11,a25]
  rw[e];exact h
 |false=>
  have N:min z.length (l.length-i)≠0:=fun e=>by rw[e]at hn;cases hn
  rcases ha with ha|ha
  ·omega
  subst ha
  rcases h with⟨rfl,rfl,rfl⟩|⟨b,off,k,cs,T,rfl,rfl,ds,dl,ea,Z,g1,g3,g4,g5⟩
  ·simp at N
  injection Z with Z V e3
  subst Z V e3
  replace g1:=g1 rfl
  have hb:=hs.get hq (b:=b) (o:= .cells cs T false) (a0d.2 rfl)
  let n:=min z.length (l.length-i)
  obtain⟨E,bb,ar⟩: ∃E,eL H (Rp.sz α) n u=some E/\RL F E (z.take n):=by
   rcases h2 with⟨rfl,rfl,h3⟩|⟨b2,av,k2,dt,dn,rfl,V,g6⟩
   ·cases h3
   simp only[List.cons.injEq,a03,AObj.cells.injEq,and_true]at V;obtain⟨rfl,rfl,rfl⟩:=V;have al:(z.take n).length=n:=by rw[a0j];omega
   have h3:Sv F H.get (.slice (some ⟨b,av,none⟩) (z.take n).length k2) (z.take n):=by obtain⟨c1,c2,c3,c4,c5,c6,c7,c8⟩:=g6;refine .inr ⟨b,av,k2,_,rfl,hb,c1,c2,c3,c4,c5,by rw[al];omega,?_,c8⟩;have h4:=c7.take n;rw[a2i,a1J (a0A _ (by omega))]at h4;rw[al];exact h4
   obtain⟨_,E,h4,h5⟩:=h3.first;rw[al]at h4;exact⟨E,h4,h5⟩
  have U:=ar.length
  have b1:(z.take n).length=n:=by rw[a0j];omega
  rw[b1]at U
  have a2:(i+n)*Rp.sz α<=l.length*Rp.sz α:=a0A _ (by omega)
  have d1:l.length*Rp.sz α<=k*Rp.sz α:=a0A _ g3
  have ag:off+i*Rp.sz α+E.length<=cs.length:=by rw[U];rw[a10]at a2;omega
  have b3:=gJ (b:=b) (o:=off+i*Rp.sz α) hb ag ar.one
  have ai:(cpL l i z).length=l.length:=by unfold cpL;simp only[a04,a0j,a0n];omega
  have hw:=hs.wr (H1:=H.put b (.cells (bp cs (off+i*Rp.sz α) E) T false)) (q:=[(b,.cells (bp cs (off+i*Rp.sz α) E) T false)]) hq fun k=>⟨F,F.le_refl,by simpa using k.put (i:=0) rfl⟩
  obtain⟨F',dv,d2,b5⟩:=hw
  refine⟨⟨.int .i64 ((n:Nat):Int),_,[(b,.cells (bp cs (off+i*Rp.sz α) E) T false)]⟩,a3 _ _ ?_,rfl,.inr ⟨b,off,k,_,T,by rw[ai],rfl,_,_,_,rfl,fun _=>by rw[bV _ _ _ ag];exact g1,by rw[ai];exact g3,?_,g5⟩,hs.put hq,b5⟩
  ·unfold lY;simp only[List.getElem?_toArray,a0X,ht,hm,hz];rw[show Nat.min z.length (l.length-i)=min z.length (l.length-i) from rfl,hn];simp only[cond_false];rw[show eL H (Rp.sz α) (min z.length (l.length-i)) u=some E from bb];simp only;rw[show(⟨sB (Value.slice (some ⟨b,off,none⟩) l.length k),sO (Value.slice (some ⟨b,off,none⟩) l.length k)+i*Rp.sz α,none⟩:Addr)=⟨b,off+i*Rp.sz α,none⟩ from rfl,b3];rfl
  rw[ai]
  have hX:((cs.drop off).take (l.length*Rp.sz α)).length=l.length*Rp.sz α:=g4.length
  have a0:i*Rp.sz α+E.length<=((cs.drop off).take (l.length*Rp.sz α)).length:=by rw[hX,U];rw[a10]at a2;omega
  have key:((bp cs (off+i*Rp.sz α) E).drop off).take (l.length*Rp.sz α)=bp ((cs.drop off).take (l.length*Rp.sz α)) (i*Rp.sz α) E:=by
   apply a1A;intro q;rw[bA _ _ _ _ a0,a0x,a0H,bA _ _ _ _ ag];by_cases c1:q<l.length*Rp.sz α
   ·rw[if_pos c1];by_cases c2:i*Rp.sz α<=q/\q<i*Rp.sz α+E.length
    ·rw[if_pos (by omega),if_pos c2];congr 1;omega
    rw[if_neg (by omega),if_neg c2,a0x,if_pos c1,a0H]
   rw[if_neg c1,if_neg (by omega),a0x,if_neg c1]
  rw[key,splice_eq _ _ _ a0]
  unfold cpL
  have e3:z.take (l.length-i)=z.take n:=by
   rcases Nat.le_total z.length (l.length-i) with hc|hc
   ·rw[a0i hc,a0i (by omega)]
   congr 1;omega
  rw[e3,a0o]
  refine(g4.take i).append (ar.append ?_)
  have:=g4.drop (i+n)
  rw[U,←a10];exact this
end
end Go.R
end
noncomputable section
namespace Go.R
def tb(a:Int)(i:Nat):Bool:=a.toNat.testBit i
abbrev hU(a:Int):Prop:=0<=a/\a<18446744073709551616
theorem fc(op:BinOp)(a b:Int):hU (aS op .u64 a b):=by
 have h: ∀n:Int,hU (IntKind.u64.wrap n):=fun n=>by rw[u64_eq];constructor<;>omega
 unfold aS bits;cases op<;>first|exact h _|(constructor<;>decide)
theorem bv_nat{a:Int}(h:hU a):(bv a).toNat=a.toNat:=by
 have:=bv_toNat a;have z:a%18446744073709551616=a:=by omega
 rw[z]at this;omega
theorem wrap_nat(n:Nat)(h:n<18446744073709551616):(IntKind.u64.wrap (n:Int)).toNat=n:=by rw[u64_eq];omega
theorem tb_or{a b:Int}(z:hU a)(A:hU b)(i:Nat):tb (aS .or .u64 a b) i=(tb a i||tb b i):=by have e:aS .or .u64 a b=IntKind.u64.wrap ((bv a|||bv b).toNat:Int):=rfl;unfold tb;rw[e,wrap_nat _ (bv a|||bv b).isLt,BitVec.toNat_or,bv_nat z,bv_nat A,Nat.testBit_or]
theorem jy{a b:Int}(A:hU a)(E:hU b)(i:Nat):tb (aS .andNot .u64 a b) i=(tb a i&& !tb b i):=by
 have e:aS .andNot .u64 a b=IntKind.u64.wrap ((bv a&&& ~~~(bv b)).toNat:Int):=rfl;unfold tb;rw[e,wrap_nat _ (bv a&&& ~~~(bv b)).isLt,BitVec.toNat_and,Nat.testBit_and,bv_nat A];cases z:a.toNat.testBit i with
 |false=>rfl
 |true=>
  have hi:i<64:=by
   rcases a0k i 64 with h|h
   ·exact h
   rw[Nat.testBit_lt_two_pow (a0V (show a.toNat<2^64 by omega) (Nat.pow_le_pow_right (by omega) h))]at z;cases z
  rw[a1x,a1x,←BitVec.getLsbD,BitVec.getLsbD_not,BitVec.getLsbD,bv_nat E]
  simp[hi]
theorem tb_and1{a:Int}(A:hU a):aS .and .u64 a 1=1↔tb a 0=true:=by
 have e:aS .and .u64 a 1=IntKind.u64.wrap ((bv a&&&bv 1).toNat:Int):=rfl;have z:(bv a&&&bv 1).toNat=a.toNat%2:=by rw[BitVec.toNat_and,bv_nat A,show(bv 1).toNat=1 from by decide,Nat.and_one_is_mod]
 rw[e,z,u64_eq];unfold tb;rw[Nat.testBit_zero];simp;omega
theorem shl_one{k:Nat}(A:k<64):IntKind.u64.wrap (1*2^(Nat.min k 64))=((2^k:Nat):Int):=by
 rw[show Nat.min k 64=k from a1J (by omega),u64_eq,Int.one_mul];have:(2^k:Nat)<2^64:=Nat.pow_lt_pow_right (by omega) A;have e:((2:Int)^k)=((2^k:Nat):Int):=by simp
 have z:(2:Nat)^64=18446744073709551616:=by decide
 rw[z]at this;rw[e];generalize 2^k=q at this⊢;omega
theorem tb_shl{k:Nat}(z:k<64)(i:Nat):tb (IntKind.u64.wrap (1*2^(Nat.min k 64))) i=decide (k=i):=by unfold tb;rw[shl_one z,a1K,Nat.testBit_two_pow]
theorem shl_rng(x:Int):hU (IntKind.u64.wrap x):=by rw[u64_eq];constructor<;>omega
theorem shr_nat{a:Int}(E:hU a){k:Nat}(A:k<=64):Int.fdiv a (2^(Nat.min k 64))=((a.toNat>>>k:Nat):Int):=by
 rw[show Nat.min k 64=k from a1J A,a1P];have e:((2:Int)^k)=((2^k:Nat):Int):=by simp
 have z:a=(a.toNat:Int):=by omega
 rw[e,Int.fdiv_eq_ediv_of_nonneg _ (a1o _)];conv=>lhs;rw[z]
 simp
theorem shr_rng{a:Int}(z:hU a){k:Nat}(A:k<=64):hU (Int.fdiv a (2^(Nat.min k 64))):=by
 rw[shr_nat z A];have:a.toNat>>>k<=a.toNat:=by rw[a1P];exact Nat.div_le_self _ _
 generalize a.toNat>>>k=q at this⊢;constructor<;>omega
theorem tb_shr{a:Int}(z:hU a){k:Nat}(A:k<=64)(i:Nat):tb (Int.fdiv a (2^(Nat.min k 64))) i=tb a (k+i):=by unfold tb;rw[shr_nat z A,a1K,Nat.testBit_shiftRight]
theorem tb_big{a:Int}(z:hU a){i:Nat}(hi:64<=i):tb a i=false:=
 Nat.testBit_lt_two_pow (a0V (show a.toNat<2^64 by omega) (Nat.pow_le_pow_right (by omega) hi))
theorem ne0_tb{a:Int}(z:hU a)(h:a≠0): ∃i,tb a i=true:=by obtain⟨i,hi⟩:=Nat.exists_testBit_of_ne_zero (show a.toNat≠0 by omega);exact⟨i,hi⟩
theorem eq0_tb{a:Int}(z:hU a)(h:a=0)(i:Nat):tb a i=false:=by subst h;exact Nat.zero_testBit i
def ap(s:List U64)(n:Nat):Bool:=tb (s.getD (n/64) default).n (n%64)
theorem lO{s:List U64}{n:Nat}(h:64*s.length<=n):ap s n=false:=by unfold ap;rw[cI (by omega)];exact Nat.zero_testBit _
theorem bit_set{s:List U64}{j:Nat}{v:Int}(z:j<s.length)(i:Nat):ap (s.set j ⟨v⟩) i=if i/64=j then tb v (i%64) else ap s i:=by
 unfold ap;simp only[a01,List.getElem?_set];by_cases h:j=i/64
 ·rw[if_pos h,if_pos h.symm,if_pos (by omega)];rfl
 rw[if_neg h,if_neg (fun e=>h e.symm)]
theorem bit_rep(n i:Nat):ap (List.replicate n (⟨0⟩:U64)) i=false:=by unfold ap;rw[a01,a0R];split<;>exact Nat.zero_testBit _
theorem add_ok{s:List U64}{n:Int}(h:0<=n/\n<64*(s.length:Int))(z:hU (s.getD (Int.tdiv n 64).toNat default).n)(i:Nat):
  ap (s.set (Int.tdiv n 64).toNat ⟨aS .or .u64 (s.getD (Int.tdiv n 64).toNat default).n (IntKind.u64.wrap (1*2^(Nat.min (Int.tmod n 64).toNat 64)))⟩) i=(ap s i||decide (i=n.toNat)):=by
 have A:(Int.tdiv n 64).toNat=n.toNat/64:=by rw[a18 h.1];omega
 have E:(Int.tmod n 64).toNat=n.toNat%64:=by rw[a1N h.1];omega
 rw[A]at z⊢
 rw[E,bit_set (by omega),tb_or z (shl_rng _),tb_shl (by omega)]
 by_cases hi:i/64=n.toNat/64
 ·rw[if_pos hi];have N:tb (s.getD (n.toNat/64) default).n (i%64)=ap s i:=by unfold ap;rw[hi]
  rw[N];congr 1;rw[decide_eq_decide];omega
 rw[if_neg hi,decide_eq_false (by omega),a1L]
theorem rem_ok{s:List U64}{n:Int}(h:0<=n/\n<64*(s.length:Int))(z:hU (s.getD (Int.tdiv n 64).toNat default).n)(i:Nat):
  ap (s.set (Int.tdiv n 64).toNat ⟨aS .andNot .u64 (s.getD (Int.tdiv n 64).toNat default).n (IntKind.u64.wrap (1*2^(Nat.min (Int.tmod n 64).toNat 64)))⟩) i=(ap s i&& !decide (i=n.toNat)):=by
 have A:(Int.tdiv n 64).toNat=n.toNat/64:=by rw[a18 h.1];omega
 have E:(Int.tmod n 64).toNat=n.toNat%64:=by rw[a1N h.1];omega
 rw[A]at z⊢
 rw[E,bit_set (by omega),jy z (shl_rng _),tb_shl (by omega)]
 by_cases hi:i/64=n.toNat/64
 ·rw[if_pos hi];have N:tb (s.getD (n.toNat/64) default).n (i%64)=ap s i:=by unfold ap;rw[hi]
  rw[N];congr 2;rw[decide_eq_decide];omega
 rw[if_neg hi,decide_eq_false (by omega),a1D,a1M]
theorem n64{s:List U64}{n:Int}(h:0<=n/\n<64*(s.length:Int)):0<=Int.tdiv n 64/\Int.tdiv n 64<(s.length:Int)/\0<=Int.tmod n 64/\Int.tmod n 64<64:=by rw[a18 h.1,a1N h.1];omega
def uniB(s t:List U64)(k:Nat)(w:List U64):Prop:=w.length=s.length/\∀i,ap w i=(ap s i||(decide (i<64*k)&&ap t i))
theorem uniB_zero{s t:List U64}:uniB s t 0 s:=⟨rfl,fun i=>by simp⟩
theorem jx{s t w:List U64}{k:Nat}(h:uniB s t k w)(i:Nat):tb (w.getD k default).n i=tb (s.getD k default).n i\/64<=i:=by
 rcases a0k i 64 with hi|hi
 ·left;have:=h.2 (64*k+i);unfold ap at this;rw[show(64*k+i)/64=k by omega,show(64*k+i)%64=i by omega,decide_eq_false (by omega),a23,a1L]at this;exact this
 exact .inr hi
theorem uniB_same{s t w:List U64}{k:Nat}(h:uniB s t k w)(U:hU (t.getD k default).n)(V:hU (w.getD k default).n)(T:aS .andNot .u64 (t.getD k default).n (w.getD k default).n=0):uniB s t (k+1) w:=by
 refine⟨h.1,fun i=>?_⟩;rw[h.2 i];by_cases hi:i<64*k
 ·rw[decide_eq_true hi,decide_eq_true (show i<64*(k+1) by omega)]
 by_cases A:i<64*(k+1)
 ·rw[decide_eq_false hi,decide_eq_true A,a23,a1x,a1L];have z:=eq0_tb (fc .andNot (t.getD k default).n (w.getD k default).n) T (i%64);rw[jy U V]at z;have E:ap t i=tb (t.getD k default).n (i%64):=by unfold ap;rw[show i/64=k by omega]
  have N:ap s i=tb (w.getD k default).n (i%64):=by
   rcases jx h (i%64) with e|e
   ·rw[e];unfold ap;rw[show i/64=k by omega]
   omega
  rw[E,N];revert z;cases tb (t.getD k default).n (i%64)<;>cases tb (w.getD k default).n (i%64)<;>simp
 rw[decide_eq_false hi,decide_eq_false A]
theorem uniB_or{s t w:List U64}{k:Nat}(h:uniB s t k w)(E:k<s.length)(N:hU (t.getD k default).n)(T:hU (w.getD k default).n):uniB s t (k+1) (w.set k ⟨aS .or .u64 (w.getD k default).n (t.getD k default).n⟩):=by
 refine⟨by rw[a0g];exact h.1,fun i=>?_⟩;rw[bit_set (by rw[h.1];exact E)];by_cases hi:i/64=k
 ·rw[if_pos hi,tb_or T N];rw[decide_eq_true (show i<64*(k+1) by omega),a1x];have z:ap t i=tb (t.getD k default).n (i%64):=by unfold ap;rw[hi]
  have A:ap s i=tb (w.getD k default).n (i%64):=by
   rcases jx h (i%64) with e|e
   ·rw[e];unfold ap;rw[hi]
   omega
  rw[z,A]
 rw[if_neg hi,h.2 i];congr 2;rw[decide_eq_decide];omega
theorem uniB_new{s t w:List U64}{k:Nat}(h:uniB s t k w)(A:hU (t.getD k default).n)(T:hU (w.getD k default).n)(E:aS .andNot .u64 (t.getD k default).n (w.getD k default).n≠0): ∃i,ap t i=true/\ap s i=false:=by
 obtain⟨q,z⟩:=ne0_tb (fc .andNot (t.getD k default).n (w.getD k default).n) E;rw[jy A T,a0e,a0I]at z;have N:q<64:=by
  rcases a0k q 64 with h1|h1
  ·exact h1
  rw[tb_big A h1]at z;exact absurd z.1 (by decide)
 refine⟨64*k+q,?_,?_⟩
 ·unfold ap;rw[show(64*k+q)/64=k by omega,show(64*k+q)%64=q by omega];exact z.1
 rcases jx h q with e|e
 ·unfold ap;rw[show(64*k+q)/64=k by omega,show(64*k+q)%64=q by omega,←e];exact z.2
 omega
theorem uniB_all{s t w:List U64}{k:Nat}(h:uniB s t k w)(z:s.length<=k)(A:t.length=s.length)(i:Nat):ap w i=(ap s i||ap t i):=by
 rw[h.2 i];by_cases hi:i<64*k
 ·rw[decide_eq_true hi,a1x]
 rw[lO (s:=t) (by omega),a24]
def kB(s:List U64)(m:Nat):List Int:=List.map (fun i:Nat=>(i:Int)) ((List.range m).filter (ap s))
def fo(s:List U64):List Int:=kB s (64*s.length)
theorem jM{s:List U64}{m:Nat}:kB s (m+1)=kB s m++if ap s m=true then [(m:Int)] else []:=by unfold kB;rw[List.range_succ,List.filter_append,a0Y];congr 1;rw[a1f];split<;>rfl
theorem lstK_skip{s:List U64}{m:Nat}: ∀(d:Nat),(∀i,m<=i->i<m+d->ap s i=false)->kB s m=kB s (m+d)
 |0,_=>rfl
 |d+1,h=>by rw[show m+(d+1)=(m+d)+1 by omega,jM,if_neg (by rw[h (m+d) (by omega) (by omega)];decide),a0F];exact lstK_skip d fun i z A=>h i z (by omega)
theorem lstK_len{s:List U64}{m:Nat}:(kB s m).length<=m:=by unfold kB;rw[a1B];have:=a13 (ap s) (List.range m);rwa [List.length_range]at this
theorem lst_mem{s:List U64}{x:Int}:x∈fo s↔0<=x/\ap s x.toNat=true:=by
 unfold fo kB;rw[a0s];constructor
 ·rintro⟨i,hi,rfl⟩;rw[a1H]at hi;exact⟨by omega,by rw[a1K];exact hi.2⟩
 rintro⟨A,z⟩;refine⟨x.toNat,a1H.2 ⟨a22.2 ?_,z⟩,by omega⟩;rcases a0k x.toNat (64*s.length) with h2|h2
 ·exact h2
 rw[lO h2]at z;cases z
theorem lst_asc{s:List U64}{m:Nat}:(kB s m).Pairwise (· < ·):=by
 unfold kB;rw[List.pairwise_map];refine(List.Pairwise.sublist a1S (List.pairwise_lt_range (n:=m))).imp fun h=>?_
 omega
theorem list_stop{s:List U64}{k b:Nat}(A:hU (s.getD k default).n)(z:b<=64)(E:Int.fdiv (s.getD k default).n (2^(Nat.min b 64))=0):kB s (64*k+b)=kB s (64*(k+1)):=by
 rw[show 64*(k+1)=64*k+b+(64-b) by omega];refine lstK_skip _ fun i N T=>?_
 have:=eq0_tb (shr_rng A z) E (i-64*k-b);rw[tb_shr A z]at this;unfold ap;rw[show i/64=k by omega,show i%64=b+(i-64*k-b) by omega];exact this
theorem list_lt{s:List U64}{k b:Nat}(E:hU (s.getD k default).n)(A:b<=64)(z:Int.fdiv (s.getD k default).n (2^(Nat.min b 64))≠0):b<64:=by
 rcases a0k b 64 with h|h
 ·exact h
 exfalso;apply z;rw[shr_nat E A,a1P,Nat.div_eq_of_lt]
 ·rfl
 have:b=64:=by omega
 subst this;omega
theorem jh{s:List U64}{k b:Nat}(z:hU (s.getD k default).n)(A:b<64):(aS .and .u64 (Int.fdiv (s.getD k default).n (2^(Nat.min b 64))) 1=1)↔ap s (64*k+b)=true:=by rw[tb_and1 (shr_rng z (by omega)),tb_shr z (by omega),a2g];unfold ap;rw[show(64*k+b)/64=k by omega,show(64*k+b)%64=b by omega]
end Go.R
end
noncomputable section
namespace Go.R
open Go.RowKit Go.WideShapes Go.ChangeShapes
section
variable {X:Type} {enc:TypeId×Value->X} {P:Program} {w:World} {μ:Emb} {H:Heap}
def EmC(enc:TypeId×Value->X)(P:Program)(w:World)(t:TypeId)(α:Type) [Rp α](B:DataW X->α->Prop):Prop:=
 ∀{μ:Emb} {H:Heap} {n:Nat} {cs:List Value} {x:DataW X×List MemPlace},Em w μ H->DataW.trod enc P w 0 (fun _=>true) true n t cs=some x->
  ∃μ' H' c y,Em w μ' H'/\EmLe μ H μ' H'/\LRel μ' c cs/\Rp.rep H'.get c (y:α)/\B x.1 y
def LB{α:Type}(B:DataW X->α->Prop)(d:DataW X)(l:List α):Prop:=
 l.length<=maxLen/\∃(D:Nat->DataW X) (rest:List (DataW X)),(d= .slice ((List.range l.length).map D) rest\/(d= .nil/\l=[]))/\∀i y,l[i]?=some y->B (D i) y
theorem cell_size{a:Addr}{v:Value}(h:w.cell? a=some v):0<w.heap.size:=by
 unfold World.cell? at h;split at h
 ·rename_i z;have:=(a0E.1 z).1;omega
 cases h
end
end Go.R
end
noncomputable section
namespace Go.R
open Go.ChangeShapes
section
variable {H:Type} {enc:TypeId×Value->H}
end
end Go.R
end
noncomputable section
set_option linter.unusedVariables false
namespace Go.R
structure Eqs(s s':St):Prop where
 t:cC s.tmps=cC s'.tmps
 n:s.size=s'.size
 h:s.heap=s'.heap
def CgS(f g:St->Option (Ex×St)):Prop:= ∀s A,Eqs s A->∀e r,f s=some (e,r)->∃z,g A=some (e,z)/\Eqs r z
section
variable {P:Program} {G:Nat} {cf:cj} {ops:Array Oper}
end
def tabT(args:List Value):List (Nat×Value)->Tr Value
 | []=>eB 0 args .nil
 |(i,v)::l=>lset (tabT args l) i v
def endsTrue(d:Nat)(r:Option (Ex×St)):Bool:=match r with
 |some (.normal,s)=>(match cC s.tmps d with| .bool b=>b|_=>false)
 |some (.ret,s)=>(match cC s.tmps d with| .bool b=>b|_=>false)
 |_=>false
end Go.R
end
noncomputable section
set_option linter.unusedVariables false
namespace Go.R
structure PtrT where
 b:Nat
 deriving Inhabited
instance :Rp PtrT where
 sz:=1
 rep F cs x:=cs=[.pointer (some ⟨x.b,0,none⟩)]
 len:=by rintro F cs x rfl;rfl
 one:=by rintro F cs x rfl;rfl
 mono:=by intro F F' cs x _ h;exact h
section
variable {B:Base} {F F':Fz} {H:Heap} {L R:List Fp}
end
section
variable {P:Program} {G:Nat} {K:bM} {sz:Nat} {Q:Ex->Fn->Heap->Prop} {ops:Array Oper} {D:List (Nat×ID)} {i:Nat} {os:List Oper} {k:List Fr} {f:Fn} {H:Heap}
theorem wf_callG{d:Option Tmp}{op:Op}{ty:TypeId}{pos:String}{af:Array Edge}{W:List Nat}{g:FuncId}{args:List Value}{R:Value->Heap->Prop}(ha:AP P (dj f) ⟨d,op,ty,pos,af,none⟩ {H with log:=[]} (.enter g args,{H with log:=[]}))(ho:op.operands.toList.all (bC G)=true)(hd:dstOK d sz=true)(hk:eH op=true)
  (hc:C P G K g args {H with log:=[]} R) (al:okD ops i (.x W) D)
  (h: ∀v z,R v z->(∀b,b∈z.log->H.next<=b\/b∈W)/\∀l,(∀b,b∈l->b∈z.log\/b∈H.log)->WF2 P G K sz ops ((i,.x W)::D) (i+1) os k (updO f d v) {z with log:=l} Q):WF2 P G K sz ops D i (⟨d,op,ty,pos,af,none⟩::os) k f H Q:=⟨fun t fs ht U=>by
 obtain⟨N,v,z,ai,hr⟩:=hc.out
 obtain⟨V,h0⟩:=h v z hr
 obtain⟨t',h1,h2⟩:=gL (s:=⟨t,sz,z⟩) (v:=v) hd
 have hi:=bE (ops:=ops) (f:=f) (o:=⟨d,op,ty,pos,af,none⟩) rfl hk V t sz H ht
 obtain⟨A,e,s',h3,h4⟩:=(h0 (cV H.next z.log++H.log) (fun b E=>by
  rcases a07.1 E with E|E
  ·exact .inl (eJ E).1
  exact .inr E)).out t' ((i,dw ops ⟨d,op,ty,pos,af,none⟩ ⟨t,sz,H⟩ H.next z.log)::fs) (by rw[h2,ht]) ⟨rfl,hi,U⟩
 refine⟨Nat.max N A,e,s',?_,h4⟩
 have an:step P G (call P G K (Nat.max N A)) ops ⟨d,op,ty,pos,af,none⟩ ⟨t,sz,{H with log:=[]}⟩=some ⟨t',sz,z⟩:=by unfold step bd;simp only[cond_true,ho,dF,ht,ha.eq,dK (a1I N A) _ _ _ _ ai];exact h1
 unfold bn ga
 rw[an]
 simp only[cO hi U al,cond_true]
 refine db (a1q (a1a N A)) k _ _ (fun x T=>?_) _ h3
 cases Z:bn P G (call P G K A) ops (i+1) ((i,dw ops ⟨d,op,ty,pos,af,none⟩ ⟨t,sz,H⟩ H.next z.log)::fs) os ⟨t',sz,{z with log:=cV H.next z.log++H.log}⟩ with
 |none=>rw[Z]at T;cases T
 |some y=>
  have:=dG (dK (P:=P) (G:=G) (K:=K) (a1a N A)) _ _ _ _ _ Z
  rw[Z]at T
  rw[this];exact T⟩
end
section
variable {ι β:Type} {Ch:Fz->ι->β->Fp->Prop} {F:Fz}
end
end Go.R
end
namespace Go.R
abbrev iI(n:Int):Value:= .int .i64 n
abbrev pT(b o:Nat):Value:= .pointer (some ⟨b,o,none⟩)
abbrev fP(b:Nat)(l:List Value):Fp:=[(b,.cells l none false)]
abbrev sL(a:Option Addr)(n k:Nat):Value:= .slice a n k
abbrev aG(l:List Value):Value:= .agg ⟨l⟩
theorem fT{a b c:Fz}(h:a.le b)(k:b.le c):a.le c:=Fz.le_trans h k
theorem fR{a:Fz}:a.le a:=Fz.le_refl a
theorem wR{P:Program}{G:Nat}{K:bM}{sz:Nat}{Q:Ex->Fn->Heap->Prop}{f:Fn}{H:Heap}{c1:Code}{k k1:List Fr}(n:Nat){id:Nat}{ops:Array Oper}(hs:List (Nat×Hint))(lo hi:Nat)(ex:List Nat)(l:List (Nat×Value)){p:Prop}(E:p)(z:foc n .skip k=(c1,k1))(A: ∀g,WK P G K sz c1 k1 (lh (hav lo hi ex g f) l) H Q)(h:gk P G K H sz ops f 0 ops.toList hs lo hi ex (eO Prod.fst l)=some (l,p):=by kernel_rfl):WK P G K sz (.region id ops false) k f H Q:=wr n hs lo hi ex l E h z A
theorem wRD{P:Program}{G:Nat}{K:bM}{sz:Nat}{Q:Ex->Fn->Heap->Prop}{f:Fn}{H:Heap}{c1:Code}{k k1:List Fr}(n:Nat){id:Nat}{ops:Array Oper}(hs:List (Nat×Hint))(lo hi:Nat)(ex:List Nat)(l:List (Nat×Value)){p:Prop}(E:p)(N:(aO ops&&P.follows .mixedOrders)=true)(z:foc n .skip k=(c1,k1))(A: ∀g,WK P G K sz c1 k1 (lh (hav lo hi ex g f) l) H Q)(h:gk P G K {H with log:=[]} sz ops f 0 ops.toList hs lo hi ex (eO Prod.fst l)=some (l,p):=by kernel_rfl):WK P G K sz (.region id ops true) k f H Q:=wrD n hs lo hi ex l E N h z A
theorem wRo{P:Program}{G:Nat}{K:bM}{sz:Nat}{Q:Ex->Fn->Heap->Prop}{f:Fn}{H:Heap}{k:List Fr}(n i:Nat){ops:Array Oper}{os z:List Oper}(hs:List (Nat×Hint))(lo hi:Nat)(ex:List Nat)(l:List (Nat×Value)){p:Prop}(N:p)(A:gX os n=z)(E: ∀g,WO P G K sz ops z k (lh (hav lo hi ex g f) l) H Q)(h:gk P G K H sz ops f i (gI os n) hs lo hi ex (eO Prod.fst l)=some (l,p):=by kernel_rfl):WO P G K sz ops os k f H Q:=wro n i hs lo hi ex l N h A E
theorem wT{P:Program}{G:Nat}{K:bM}{sz:Nat}{Q:Ex->Fn->Heap->Prop}{f:Fn}{H:Heap}{c1:Code}{k k1:List Fr}(n:Nat){id:Nat}{ops:Array Oper}(hs:List (Nat×Hint))(lo hi:Nat)(ex:List Nat)(l:List (Nat×Value))(z:foc n .skip k=(c1,k1))(A: ∀g,WK P G K sz c1 k1 (lh (hav lo hi ex g f) l) H Q)(h:gk P G K H sz ops f 0 ops.toList hs lo hi ex (eO Prod.fst l)=some (l,True):=by kernel_rfl):WK P G K sz (.region id ops false) k f H Q:=wR n hs lo hi ex l trivial z A h
theorem wU{P:Program}{G:Nat}{K:bM}{sz:Nat}{Q:Ex->Fn->Heap->Prop}{f:Fn}{H:Heap}{c1:Code}{k k1:List Fr}(n:Nat){id:Nat}{ops:Array Oper}(hs:List (Nat×Hint))(lo hi:Nat)(ex:List Nat)(l:List (Nat×Value)){p:Prop}(E:p)(z:foc n .skip k=(c1,k1))(A: ∀g,WK P G K sz c1 k1 (lh (hav lo hi ex g f) l) H Q)(h:gk P G K H sz ops f 0 ops.toList hs lo hi ex (eO Prod.fst l)=some (l,p/\True):=by kernel_rfl):WK P G K sz (.region id ops false) k f H Q:=wR n hs lo hi ex l ⟨E,trivial⟩ z A h
theorem wTo{P:Program}{G:Nat}{K:bM}{sz:Nat}{Q:Ex->Fn->Heap->Prop}{f:Fn}{H:Heap}{k:List Fr}(n i:Nat){ops:Array Oper}{os z:List Oper}(hs:List (Nat×Hint))(lo hi:Nat)(ex:List Nat)(l:List (Nat×Value))(A:gX os n=z)(E: ∀g,WO P G K sz ops z k (lh (hav lo hi ex g f) l) H Q)(h:gk P G K H sz ops f i (gI os n) hs lo hi ex (eO Prod.fst l)=some (l,True):=by kernel_rfl):WO P G K sz ops os k f H Q:=wRo n i hs lo hi ex l trivial A E h
theorem wUo{P:Program}{G:Nat}{K:bM}{sz:Nat}{Q:Ex->Fn->Heap->Prop}{f:Fn}{H:Heap}{k:List Fr}(n i:Nat){ops:Array Oper}{os z:List Oper}(hs:List (Nat×Hint))(lo hi:Nat)(ex:List Nat)(l:List (Nat×Value)){p:Prop}(N:p)(A:gX os n=z)(E: ∀g,WO P G K sz ops z k (lh (hav lo hi ex g f) l) H Q)(h:gk P G K H sz ops f i (gI os n) hs lo hi ex (eO Prod.fst l)=some (l,p/\True):=by kernel_rfl):WO P G K sz ops os k f H Q:=wRo n i hs lo hi ex l ⟨N,trivial⟩ A E h
end Go.R
