/-
Symbolic runs by computation, data, the laid table.
-/
import Derived.Test.YtapgbjedgcpffaaZXRC
import Derived.Laws.Bits128
import Derived.OpenShut
import Derived.ReadAgain
import Derived.Test.YtapgbjedgcpffaaZXRB
import Derived.Deep.Slices
import Derived.JoinedCond
import Derived.LaidLaws
import Derived.KernelRfl
noncomputable section
namespace Go.R
section
variable {P:Program} {f:Fn} {H:Heap} {rs:List ResultVar} {l:List Value}
theorem rN:bU P f H []=some []:=rfl
theorem rT{t:Tmp}{v:Value}(z:f t=v)(h:bU P f H rs=some l):bU P f H (.tmp t::rs)=some (v::l):=by unfold bU;rw[h,z]
theorem rC{a:Tmp}{t:TypeId}{p:Addr}{v:Value}(z:f a= .pointer (some p))(A:H.loadV P t p=some v)(h:bU P f H rs=some l):bU P f H (.cell a t::rs)=some (v::l):=by unfold bU;rw[z];simp only[A,h]
theorem bI{t:TypeId}{b n:Nat}{cs:List Value}(A:fC P t=some true)(hs:ei P t=some n)(hc:HC H.get b 0 cs)(E:cs.length=n):H.loadV P t ⟨b,0,none⟩=some (.agg ⟨cs⟩):=by obtain⟨all,O,T,z,h⟩:=hc;unfold Heap.loadV;rw[A];simp only[hs];unfold Heap.loadN;rw[a1g]at h;subst E;simp only[z,bT,cn,bC,a1g,h,a0I,cond_true]
end
section
variable {α:Type} [Rp α] {P:Program} {ρ:Operand->Value} {d:Option Tmp} {ty:TypeId} {pos:String} {af:Array Edge} {gd:Option (Nat×Bool)} {B:Base} {F:Fz} {H:Heap} {L R:List Fp} {v:Value} {l:List α} {p:Fp}
theorem ap_boolNe{t yt:TypeId}{x y:Operand}{a b:Bool}(z:ρ x= .bool a)(A:ρ y= .bool b)(h: ∀a b:Bool,aw P (dD .neq t x y a b)=some (.value (.bool (a !=b)))):AP P ρ ⟨d,.binOp .neq t x y yt,ty,pos,af,gd⟩ H (.val (.bool (a !=b)),H):=by
 refine⟨?_⟩;show aBin P ρ _ .neq t (ρ x) y H=_;rw[z];show bg P ρ _ H=_;unfold bg;have E:((Op.binOp .neq t x y yt).operands.toList.all fun x=>gY (ρ x))=true:=by simp[Op.operands,z,A,gY,cJ]
 simp only[E,cond_true];have O:aw P (execOp ρ ⟨d,.binOp .neq t x y yt,ty,pos,af,gd⟩)=some (.value (.bool (a !=b))):=by rw[←h a b];unfold execOp dD;simp only[z,A]
 rw[O];rfl
theorem ap_ixG{x i:Operand}{t:TypeId}{cs:Array Value}{w r:Value}(z:ρ x= .agg cs)(hi:ρ i=w)(h:aw P (Instr.index t (.agg cs) w)=some r):AP P ρ ⟨d,.index t x i,ty,pos,af,gd⟩ H (.val r,H):=by refine⟨?_⟩;show jk P t (ρ x) (ρ i) H=_;rw[z,hi];show lift P (Instr.index t (.agg cs) w) H=_;unfold lift;rw[h]
end
theorem natsub{k:IntKind}{a b:Nat}(h:b<=a)(z:k.wrap ((a-b:Nat):Int)=((a-b:Nat):Int)):k.wrap ((a:Int)-(b:Int))=((a-b:Nat):Int):=by rw[←Int.ofNat_sub h];exact z
section
variable {α:Type} [Rp α] {P:Program} {ρ:Operand->Value} {d:Option Tmp} {ty:TypeId} {pos:String} {af:Array Edge} {gd:Option (Nat×Bool)} {B:Base} {F:Fz} {H:Heap} {L R:List Fp} {v:Value} {l:List α} {p:Fp} {t e:TypeId} {x:Operand} {i j q:Nat}
theorem ap_slSd{s:List UInt8}{lo:Option Operand}(E:ρ x= .string ⟨⟨s⟩⟩)(A:P.underlying t=some .string)(z:dL 0 (lo.map ρ)=some i)(h:i<=s.length):
  AP P ρ ⟨d,.slice t x lo none none,ty,pos,af,gd⟩ H (.val (.string ⟨⟨s.drop i⟩⟩),H):=by
 have:=ap_slS (d:=d) (ty:=ty) (pos:=pos) (af:=af) (gd:=gd) (H:=H) (lo:=lo) (hi:=none) E A optN0 z h (a05 _)
 rwa [a0Z (by simp)]at this
end
end Go.R
end
noncomputable section
namespace Go.R
theorem u64_eq(n:Int):IntKind.u64.wrap n=n%18446744073709551616:=rfl
abbrev bv(n:Int):BitVec 64:=BitVec.ofInt 64 n
end Go.R
end
noncomputable section
namespace Go.R
def decD(d:Nat):UInt8:=UInt8.ofNat (48+d)
def dec(n:Nat):List UInt8:=if n<10 then [decD n] else dec (n/10)++[decD (n%10)]
def eh(c:UInt8):Bool:=decide (48<=c.toNat)&&decide (c.toNat<=57)
def valA(n:Nat)(c:UInt8):Nat:=10 *n+(c.toNat-48)
def val(l:List UInt8):Nat:=l.foldl valA 0
def fU(t:List UInt8):Bool:=decide (1<=t.length)&&decide (t.length<=19)&&t.all eh&&(t.headD 0 !=48||t.length==1)
def bz(s:List UInt8)(most:Nat):Option Nat:=if fU s=true/\val s<=most then some (val s) else none
def aE(s:List UInt8):Option Int:=
 if s.headD 0=45 then(match bz s.tail 9223372036854775808 with
  |some 0=>none
  |some n=>some (-(n:Int))
  |none=>none)
 else(match bz s 9223372036854775807 with
  |some n=>some (n:Int)
  |none=>none)
def textS(n:Int):List UInt8:=if n<0 then 45::dec n.natAbs else dec n.toNat
theorem val_append(l:List UInt8)(c:UInt8):val (l++[c])=10 *val l+(c.toNat-48):=by unfold val;rw[List.foldl_append];rfl
theorem ig{s:List UInt8}{i:Nat}(h:i<s.length):val (s.take (i+1))=10 *val (s.take i)+((s.getD i 0).toNat-48):=by
 have:s.take (i+1)=s.take i++[s.getD i 0]:=by rw[List.take_add_one,a08,a09 h];rfl
 rw[this,val_append]
theorem eM{p:UInt8->Bool}{s:List UInt8}{i:Nat}(h:i<s.length):(s.take (i+1)).all p=((s.take i).all p&&p (s.getD i 0)):=by
 have:s.take (i+1)=s.take i++[s.getD i 0]:=by rw[List.take_add_one,a08,a09 h];rfl
 rw[this,List.all_append];simp
theorem val_lt{s:List UInt8}: ∀i,i<=s.length->(s.take i).all eh=true->val (s.take i)<10^i:=by
 intro i;induction i with
 |zero=>intro _ _;rw[List.take_zero];decide
 |succ i ih=>
  intro h z
  rw[eM (by omega),a03]at z
  have E:=ih (by omega) z.1
  have A:=z.2
  simp only[eh,a03,decide_eq_true_eq]at A
  rw[ig (by omega),a1B]
  omega
end Go.R
end
noncomputable section
namespace Go.R
open Go.RowKit Go.WideShapes Go.ChangeShapes
structure Em(w:World)(μ:Emb)(H:Heap):Prop where
 rel:WRel μ H w
 ro: ∀b o,H.get b=some o->o.rw=false
 wf:WF H
 dom: ∀b,H.next<=b->μ b=none
 log:H.log=[]
theorem Em.empty(w:World):Em w (fun _=>none) Heap.empty:=
 ⟨⟨fun b l o h=>by simp at h,fun z A l1 E O T _ h=>by simp at h⟩,fun b o h=>(by cases h),fun b _=>rfl,fun b _=>rfl,rfl⟩
section
variable {w:World} {μ:Emb} {H:Heap}
theorem Em.lt(h:Em w μ H){b:Nat}{o:AObj}(z:H.get b=some o):b<H.next:=by
 rcases a0c b H.next with h1|h1
 ·exact h1
 rw[h.wf b h1]at z;cases z
theorem Em.add(h:Em w μ H){c sh:Nat}{cs:List Value}(hc:c<w.heap.size)(E: ∀(i:Nat) v,cs[i]?=some v->∃v',w.cell? ⟨c,sh+i,none⟩=some v'/\VRel μ v v'):
  Em w (μ.set H.next ⟨c,sh,none,0⟩) (H.push (.cells cs none true)):=by
 have O:=Emb.set_ext (μ:=μ) (b:=H.next) ⟨c,sh,none,0⟩ (h.dom _ (a05 _))
 have T: ∀b o,(H.push (.cells cs none true)).get b=some o->(b=H.next/\o= .cells cs none true)\/(b≠H.next/\H.get b=some o):=by
  intro b o z;by_cases e:b=H.next
  ·subst e;rw[Heap.get_push_same]at z;exact .inl ⟨rfl,(Option.some.inj z).symm⟩
  rw[Heap.get_push_ne _ _ (Ne.symm e)]at z;exact .inr ⟨e,z⟩
 have U: ∀b o,(H.push (.cells cs none true)).get b=some o->o.rw=false:=by
  intro b o z;rcases T b o z with⟨_,rfl⟩|⟨_,V⟩
  ·rfl
  exact h.ro b o V
 refine⟨⟨fun b l o z ho=>?_,fun b1 b2 l1 l2 o1 o2 _ _ _ h3 _ Y _=>?_⟩,U,fun b z=>?_,fun b z=>?_,h.log⟩
 ·rcases T b o ho with⟨rfl,rfl⟩|⟨Z,al⟩
  ·rw[Emb.set_same]at z;obtain rfl:=Option.some.inj z;refine⟨rfl,rfl,hc,fun i v hv=>?_⟩;obtain⟨v',V,h2⟩:=E i v hv;exact⟨v',V,h2.mono O⟩
  rcases Emb.set_inv z with⟨e,_⟩|⟨_,A⟩
  ·exact absurd e Z
  exact(h.rel.obj b l o A al).keep O (a05 _) (fun _=>rfl)
 ·rw[U b1 o1 h3]at Y;cases Y
 ·have A:H.next+1<=b:=z;rw[Heap.get_push_ne _ _ (by omega)];exact h.wf b (by omega)
 have A:H.next+1<=b:=z
 unfold Emb.set
 rw[if_neg (by omega)];exact h.dom b (by omega)
theorem Em.hs(h:Em w μ H):HS (.of H []) H.get H [] []:=
 ⟨fun b o z=>⟨z,h.lt z⟩,fun p A=>by simp at A,by simp,a05 _,fun b z=> .inl z,fun p A=>by simp at A⟩
theorem walk_of_Em{P:Program}{K:bx}(T:fg P 0 K)(h:Em w μ H){f:FuncId}{args:List Value}{z:Array Value}(U:LRel μ args z.toList)(hc:C P 0 K f args H fun v _=>v= .bool true):
  Calls P f z w fun e w'=>e= .returned (.bool true)/\Below w.heap.size w w':=by
 obtain⟨n,v,H',O,rfl⟩:=hc.out
 obtain⟨_,A⟩:=call_ok (G:=0) T n f args H (.bool true) H' O h.wf
 refine(A μ w z U (fun g hg=>by omega) h.rel (fun b V _=>h.dom b V)).mono ?_
 rintro e w' ⟨μ',v',rfl,hr,hp⟩
 rw[hr.eq2 rfl]
 exact⟨rfl,hp.os,hp.tape,hp.out,hp.grow,fun k Y=>hp.keep k Y fun b l x _ Z E=>by rw[h.ro b x Z]at E;cases E⟩
end
structure EmLe(μ:Emb)(H:Heap)(μ':Emb)(H':Heap):Prop where
 emb: ∀b l,μ b=some l->μ' b=some l
 heap:Fz.le H.get H'.get
theorem EmLe.refl(μ:Emb)(H:Heap):EmLe μ H μ H:=⟨fun _ _ h=>h,fun _ _ h=>h⟩
theorem EmLe.add{w:World}{μ:Emb}{H:Heap}(h:Em w μ H)(l:Loc)(o:AObj):EmLe μ H (μ.set H.next l) (H.push o):=
 ⟨Emb.set_ext l (h.dom _ (a05 _)),fun b x z=>by rw[Heap.get_push_ne _ _ (Nat.ne_of_gt (h.lt z))];exact z⟩
section
variable {X:Type} {enc:TypeId×Value->X} {P:Program} {w:World} {μ:Emb} {H:Heap}
theorem wf_in64{n:Int}(h:(Lit.int .i64 n).wf=true):in64 n:=by simp[Lit.wf,IntKind.min,IntKind.max,IntKind.signed,IntKind.bits]at h;exact⟨by omega,by omega⟩
theorem RL_ints{F:Fz}: ∀(l:List Int),(∀n∈l,in64 n)->RL F (l.map fun n=>Value.int .i64 n) l
 | [],_=>rfl
 |n::l,h=>⟨[.int .i64 n],l.map fun n=>Value.int .i64 n,rfl,⟨rfl,h n (by simp)⟩,RL_ints l fun m z=>h m (by simp[z])⟩
theorem em_ints{base:Nat}{t e:TypeId}{v:Value}{d:DataW X}{ps:List MemPlace}(h:Em w μ H)(U:P.underlying t=some (.slice e))(he:P.underlying e=some (.int .i64))(hc:P.cellsOf e=1)(Z:Value.okWide P w .any base t v)
  (hd:DataW.Trod enc P w 0 (fun _=>true) true t v d ps):
  ∃μ' H' a k,∃l:List Int,Em w μ' H'/\EmLe μ H μ' H'/\VRel μ' (.slice a l.length k) v/\SR H'.get (.slice a l.length k) l/\(l.length<=maxLen)/\(∃a8,d= .slice (Go.ChangeShapes.lits .i64 l) a8\/d= .nil/\l=[]):=by
 obtain⟨a,len,O,rfl⟩:=okWide_slice U Z
 obtain⟨fuel,hf⟩:=hd
 rcases Go.ChangeShapes.open_ints U he hc hf with⟨T,E⟩|⟨a',b9,b2,z,T,_,bb,cb,a3,E,ax,b1⟩
 ·simp[Value.cells]at T;obtain⟨rfl,rfl,rfl⟩:=T;simp only[a02]at E;exact⟨μ,H,none,0,[],h,.refl _ _,.atom _ rfl,.nil,a0t _,[],.inr ⟨E.1,rfl⟩⟩
 simp[Value.cells]at T
 obtain⟨rfl,rfl,rfl⟩:=T
 have bl:a'.spot=none/\a'.block<w.heap.size:=by
  have Y:Cell.ok P w .any base t (.slice (some a') len O):=by have:=Z;unfold Value.okWide at this;rw[U]at this;simp only at this;unfold Cell.okWide at this;rw[U]at this;exact this
  unfold Cell.ok at Y;rw[U]at Y;obtain⟨_,_,_,b0,cc,cells,hs,_⟩:=Y;refine⟨b0,?_⟩;unfold World.shape? at hs;split at hs
  ·rename_i ba;exact(a0v.1 ba).1
  cases hs
 obtain⟨c,al,sp⟩:=a'
 obtain⟨rfl,a9⟩:=bl
 simp only[if_true]at a3
 have a2: ∀n∈z.take len,in64 n:=fun n hn=>wf_in64 (b1 n (List.mem_of_mem_take hn))
 have hl:(z.take len).length=len:=by rw[a0q];omega
 have hA:=h.add (c:=c) (sh:=al) (cs:=(z.take len).map fun n=>Value.int .i64 n) a9 (fun i v V=>by
  rw[a1o]at V;cases A:(z.take len)[i]? with
  |none=>rw[A]at V;cases V
  |some n=>
   rw[A]at V
   obtain rfl:=Option.some.inj V
   have hi:=(a0m.1 A).1
   have a1:=ax i (by rw[hl]at hi;omega)
   have hn:z.getD i 0=n:=by
    rw[a0G]at A;split at A
    ·rw[a08,A];rfl
    cases A
   refine⟨_,?_,.atom _ rfl⟩
   rw[hn]at a1
   rw[←a1]
   congr 1
   unfold Addr.add
   split
   ·rename_i h0;subst h0;rfl
   rfl)
 refine⟨_,_,some ⟨H.next,0,none⟩,O,z.take len,hA,.add h _ _,?_,?_,by rw[hl];omega,z.drop len|>Go.ChangeShapes.lits .i64,.inl ?_⟩
 ·rw[hl];have:=VRel.sliceC (μ:=μ.set H.next ⟨c,al,none,0⟩) H.next 0 len O ⟨c,al,none,0⟩ (Emb.set_same _ _ _) rfl;simpa using this
 ·refine .inr ⟨H.next,0,O,_,rfl,Heap.get_push_same _ _,_,none,true,rfl,fun E=>(by cases E),(by rw[hl];exact bb),?_,.inl rfl⟩;have e1:((z.take len).map fun n=>Value.int .i64 n).length=(z.take len).length *Rp.sz Int:=by rw[List.length_map];show _=_ *1;omega
  rw[a1g,←e1,a17];exact RL_ints _ a2
 simp only[a02]at E
 exact E.1
end
section
variable {X:Type} {enc:TypeId×Value->X} {P:Program}
theorem gC{w w':World}{base:Nat}{z:Nat->Bool}{held:Bool}: ∀{ts:List TypeId} {E:List Value} {ds:List (DataW X)} {ps:List MemPlace},DataW.TrodAll enc P w base z held ts E ds ps->(∀p∈ps,w.sameAt w' p)->DataW.TrodAll enc P w' base z held ts E ds ps
 | [],[],[],_,h,_=>h
 |_::_,_::_,_::_,_,⟨p,q,⟨n,h1⟩,h2,e⟩,hs=>⟨p,q,⟨n,DataW.trod_carry n _ _ _ h1 fun x A=>hs x (by rw[e];exact List.mem_append_left _ A)⟩,gC h2 fun x A=>hs x (by rw[e];exact List.mem_append_right _ A),e⟩
theorem post_law{f:Func}{s:ChangeSpec}{A V E U:Bool}{W W':World}{args:Array Value}{ds Y:List (DataW X)}{z:List MemPlace}{tb:TypeId}
  (K:Kids P (· <P.types.size)) (an: ∀t e,t<P.types.size->P.underlying t=some (.slice e)->0<P.cellsOf e) (a1: ∀t∈f.params.toList,t<P.types.size)
  (hW:DataW.Whole enc P f.params.toList s.vars A W args.toList ds Y z) (T:s.vars=[]) (h:f.resultTypes= #[tb]) (Z:P.underlying tb=some .bool)
  (O:s.fn X (ds++Y)={results:=[.lit (.bool true)],args:=ds}) (hb:Below W.heap.size W W'):s.post enc P f A V E U W args (.bool true) W':=by
 have a9: ∀p∈z,p.block<W.heap.size:=fun p hp=>by simpa using hW.lt p hp
 have a4:=hW
 obtain⟨p,q,hA,hV,rfl,b4,b5⟩:=hW
 have hq:q=[]/\Y=[]:=by
  rw[T]at hV;cases Y with
  |nil=>exact⟨hV,rfl⟩
  |cons _ _=>exact absurd hV id
 obtain⟨rfl,rfl⟩:=hq
 refine j8 (pa:=p) (pv:=[]) a4 (fun b sp hd=>?_) (fun sp ba=>?_) (fun sp _=>?_) rfl hb ?_
 ·rw[O,h];exact trodAll_cons_mk (shut_bool Z true) rfl
 ·rw[O];refine DataW.TrodAll.respare K an a1 (gC hA fun x hx=>hb.same (a9 x (by simpa using hx))) fun x hx=>ba x (by simpa using hx)
 ·rw[T,O];rfl
 rw[h]
 intro j t r h1 h2
 exact ok_one (f:=f) h rfl (okWide_bool_mk Z true) j t r (by rw[h];exact h1) (by rw[h];exact h2)
end
end Go.R
end
noncomputable section
namespace Go.R
open Go
section
variable {P:Program} {d:Nat} {t:TypeId}
theorem eqI{k:IntKind}{a b:Int}(h:P.underlying t=some (.int k)):aw P (Op.equalIn (d+1) t (.int k a) (.int k b))=some (a==b):=by simp[Op.equalIn,underlying,h]
theorem eqS{a b:ByteArray}(h:P.underlying t=some .string):aw P (Op.equalIn (d+1) t (.string a) (.string b))=some (a==b):=by simp[Op.equalIn,underlying,h]
theorem eqL{a b:List UInt8}(z:P.underlying t=some .string):aw P (Op.equalIn (d+1) t (.string ⟨⟨a⟩⟩) (.string ⟨⟨b⟩⟩))=some (a==b):=by
 rw[eqS z];congr 1;show((⟨a⟩:Array UInt8)==⟨b⟩)=_;rw[a0x,beq_iff_eq,beq_iff_eq];constructor
 ·intro h;injection h
 intro h;rw[h]
theorem eqB{a b:Bool}(h:P.underlying t=some .bool):aw P (Op.equalIn (d+1) t (.bool a) (.bool b))=some (a==b):=by simp[Op.equalIn,underlying,h]
structure EqF(P:Program)(d:Nat)(xs ys:Array Value)(f:Field)(b:Bool):Prop where
 named:f.name≠ "_"
 ok: ∃u v,aw P (part f.type xs f.offset)=some u/\aw P (part f.type ys f.offset)=some v/\aw P (Op.equalIn d f.type u v)=some b
inductive EqFs(P:Program)(d:Nat)(xs ys:Array Value):List Field->List Bool->Prop
 |nil:EqFs P d xs ys [] []
 |cons {f b fs bs}:EqF P d xs ys f b->EqFs P d xs ys fs bs->EqFs P d xs ys (f::fs) (b::bs)
def eqLoop(d:Nat)(xs ys:Array Value)(fs:List Field):Sem (Option Bool×Unit):=
 forIn fs ((none:Option Bool),()) fun f (_:Option Bool×Unit)=>
  if f.name≠ "_" then do
   if !(←Op.equalIn d f.type (←part f.type xs f.offset) (←part f.type ys f.offset)) then pure (ForInStep.done (some false,()))
   else pure (ForInStep.yield (none,()))
  else pure (ForInStep.yield (none,()))
theorem eq_loop{xs ys:Array Value}{fs:List Field}{bs:List Bool}(h:EqFs P d xs ys fs bs):
  aw P (eqLoop d xs ys fs)=some (if bs.all id=true then none else some false,()):=by
 induction h with
 |nil=>simp[eqLoop]
 | @cons f b fs bs hf _ ih=>
  obtain⟨O,u,v,z,A,E⟩:=hf
  unfold eqLoop at ih⊢
  rw[List.forIn_cons,if_pos O]
  simp only[aF,z,A,E,a0e]
  cases b
  ·simp
  simp only[a1i,a0d,if_false,bA,a0e,ih]
  simp
theorem eq_struct{fs:Array Field}{xs ys:Array Value}{bs:List Bool}(z:P.underlying t=some (.struct fs))(hs:P.stoodInHeld t=false)
  (h:EqFs P d xs ys fs.toList bs):aw P (Op.equalIn (d+1) t (.agg xs) (.agg ys))=some (bs.all id):=by
 simp only[Op.equalIn,underlying,aF,d6,a0e,z,bA,hs,a0d,if_false]
 rw[←Array.forIn_toList]
 have:=eq_loop h
 unfold eqLoop at this
 rw[this]
 cases bs.all id<;>rfl
end
section
variable {P:Program} {ρ:Operand->Value} {d:Option Tmp} {ty:TypeId} {pos:String} {af:Array Edge} {gd:Option (Nat×Bool)} {H:Heap}
theorem gn{cs:List Value}(h:cs.all cJ=true):gY (.agg ⟨cs⟩)=true:=h
theorem ap_agEq{t yt:TypeId}{x y:Operand}{xs ys:List Value}{fs:Array Field}{bs:List Bool}(z:ρ x= .agg ⟨xs⟩)(O:ρ y= .agg ⟨ys⟩)
  (A:xs.all cJ=true) (E:ys.all cJ=true)
  (hu:P.underlying t=some (.struct fs)) (hs:P.stoodInHeld t=false) (Z:P.eqGuardType P.depth t=false)
  (h:EqFs P 9999 ⟨xs⟩ ⟨ys⟩ fs.toList bs):AP P ρ ⟨d,.binOp .eql t x y yt,ty,pos,af,gd⟩ H (.val (.bool (bs.all id)),H):=by
 refine⟨?_⟩
 show aBin P ρ _ .eql t (ρ x) y H=_
 rw[z]
 show bg P ρ _ H=_
 unfold bg
 have V:((Op.binOp .eql t x y yt).operands.toList.all fun x=>gY (ρ x))=true:=by simp[Op.operands,z,O,gn A,gn E]
 simp only[V,cond_true]
 have Y:aw P (execOp ρ ⟨d,.binOp .eql t x y yt,ty,pos,af,gd⟩)=some (.value (Value.bool (bs.all id))):=by
  unfold execOp;simp only[z,O,aF];have T:aw P (eqGuard .eql t x y (.agg ⟨xs⟩) (.agg ⟨ys⟩))=some ():=by simp[eqGuard,Z]
  have U:aw P (binOp .eql t (.agg ⟨xs⟩) (.agg ⟨ys⟩))=some (Value.bool (bs.all id)):=by show aw P (Op.equal t (.agg ⟨xs⟩) (.agg ⟨ys⟩)>>=fun b=>(Pure.pure (Value.bool b):Sem Value))=_;rw[aF,show Op.equal t (.agg ⟨xs⟩) (.agg ⟨ys⟩)=Op.equalIn (9999+1) t (.agg ⟨xs⟩) (.agg ⟨ys⟩) from rfl,eq_struct hu hs h];rfl
  simp only[T,U,a0e];rfl
 rw[Y];rfl
end
end Go.R
end
noncomputable section
namespace Go.R
open Go.RowKit
def tcell(n:Nat):AObj:= .cells [.slice (some ⟨1,0,none⟩) n n] none true
open Classical in
def KT(h ex n:Nat)(cells:List Value):bx:=fun f args H=>match args with
 | []=>bif (Nat.ble f h&&Nat.beq f ex) then(if H.get 0=some (tcell n)/\H.get 1=some (.cells cells none true) then some (.bool true) else none) else none
 |_=>none
structure TB(n:Nat)(cells:List Value)(F:Fz):Prop where
 at0:F 0=some (tcell n)
 at1:F 1=some (.cells cells none true)
section
variable {n:Nat} {cells:List Value} {F F':Fz}
end
end Go.R
end
noncomputable section
set_option linter.unusedVariables false
set_option linter.unusedSimpArgs false
namespace Go.R
inductive Hint where
 |p
 |w
 |e (n:Int)
 |o (v:Value)
abbrev Ch:=List (Nat×Bool)
def bq:Bool->Bool->Bool
 |true,b=>b
 |false,b=> !b
theorem bq_eq{a b:Bool}(h:bq a b=true):a=b:=by cases a<;>cases b<;>first|rfl|cases h
def gl:List (Nat×Bool)->Nat->Option Bool
 | [],_=>none
 |(s,g)::G,t=>bif Nat.beq s t then some g else gl G t
def act(G:List (Nat×Bool)):Ch->Bool
 | []=>true
 |(s,w)::c=>(match gl G s with|some g=>bq g w|none=>false)&&act G c
def memC(s:Nat)(w:Bool):Ch->Bool
 | []=>false
 |(s',w')::c=>(Nat.beq s' s&&bq w' w)||memC s w c
def subC:Ch->Ch->Bool
 | [],_=>true
 |(s,w)::a,c=>memC s w c&&subC a c
def lk:List (Nat×Ch×Value)->Nat->Option (Ch×Value)
 | [],_=>none
 |(s,x)::m,t=>bif Nat.beq s t then some x else lk m t
structure SS where
 m:List (Nat×Ch×Value)
 G:List (Nat×Bool)
def SS.rd(S:SS)(f:Fn):Operand->Value
 | .tmp t=>match lk S.m t with
  |some x=>x.2
  |none=>f t
 | .const v=>v
 | .global g=> .pointer (some ⟨g,0,none⟩)
 | .func i=> .func (.func i) #[] #[]
def SS.can(S:SS)(c:Ch):Operand->Bool
 | .tmp t=>match lk S.m t with
  |some x=>subC x.1 c
  |none=>true
 |_=>true
def impl(G:List (Nat×Bool)):Ch->Prop->Prop
 | [],p=>p
 |(s,w)::c,p=>match gl G s with
  |some g=>g=w->impl G c p
  |none=>True
def iB(G:List (Nat×Bool))(s:Nat)(g:Bool):List (Nat×Bool):=match gl G s with
 |some _=>G
 |none=>(s,g)::G
def eQ:Option Prop->Prop
 |none=>True
 |some p=>p
def andO(q:Option Prop)(p:Prop):Prop:=match q with
 |none=>p
 |some q=>q/\p
def rng(k:IntKind)(n:Int):Prop:=match k with
 | .i64=> -9223372036854775808<=n/\n<9223372036854775808
 | .u64=>0<=n/\n<18446744073709551616
 | .u8=>0<=n/\n<256
 |k=>k.wrap n=n
theorem rng_wrap{k:IntKind}{n:Int}(h:rng k n):k.wrap n=n:=by
 cases k with
 |i64=>exact eu h
 |u64=>exact iD h
 |u8=>exact w_u8 h
 |_=>exact h
def kq:IntKind->IntKind->Bool
 | .i64,.i64=>true
 | .u64,.u64=>true
 | .u8,.u8=>true
 | .i32,.i32=>true
 | .u32,.u32=>true
 |_,_=>false
theorem kq_eq{k z:IntKind}(h:kq k z=true):z=k:=by cases k<;>cases z<;>first|rfl|cases h
abbrev VP:=Option (Value×Option Prop)
def ari(h:Hint)(k:IntKind)(n:Int):VP:=match h with
 | .w=>some (.int k (k.wrap n),none)
 | .e m=>some (.int k m,some (n=m/\rng k m))
 |_=>some (.int k n,some (rng k n))
def bi(h:Hint)(k:IntKind)(n:Int):VP:=match h with
 | .e m=>some (.int k m,some (n=m))
 |_=>some (.int k n,none)
def withP(p:Prop):VP->VP
 |some (v,none)=>some (v,some p)
 |some (v,some q)=>some (v,some (p/\q))
 |none=>none
def pint(h:Hint)(op:BinOp)(k:IntKind)(x y:Int):VP:=match op with
 | .add=>ari h k (x+y)
 | .sub=>ari h k (x-y)
 | .mul=>ari h k (x *y)
 | .quo=>withP (y≠0) (ari h k (x.tdiv y))
 | .rem=>withP (y≠0) (bi h k (x.tmod y))
 | .and=>bi h k (cR .and k x y)
 | .or=>bi h k (cR .or k x y)
 | .xor=>bi h k (cR .xor k x y)
 | .andNot=>bi h k (cR .andNot k x y)
 | .eql=>some (.bool (x==y),none)
 | .neq=>some (.bool (x !=y),none)
 | .lss=>some (.bool (decide (x<y)),none)
 | .leq=>some (.bool (decide (x<=y)),none)
 | .gtr=>some (.bool (decide (y<x)),none)
 | .geq=>some (.bool (decide (y<=x)),none)
 |_=>none
def AGB(P:Program)(op:BinOp)(t:TypeId)(a b v:Value):Prop:= ∀(ρ:Operand->Value) (x y:Operand) (yt:TypeId) (d:Option Tmp) (ty:TypeId) (pos:String) (af:Array Edge) (gd:Option (Nat×Bool)) (H:Heap),ρ x=a->ρ y=b->AP P ρ ⟨d,.binOp op t x y yt,ty,pos,af,gd⟩ H (.val v,H)
def isBT(P:Program)(t:TypeId):Bool:=match P.underlying t with
 |some .bool=> !P.eqGuardType P.depth t
 |_=>false
def pbin(P:Program)(h:Hint)(op:BinOp)(t:TypeId)(a b:Value):VP:=match a,b with
 | .int k x,.int k' y=>match op with
  | .shl=>withP (0<=y) (bi h k (k.wrap (x *2^(Nat.min y.toNat k.bits))))
  | .shr=>withP (0<=y) (bi h k (x.fdiv (2^(Nat.min y.toNat k.bits))))
  |op=>bif kq k k' then pint h op k x y else none
 | .string x,.string y=>match op with
  | .eql=>some (.bool (x.data.toList==y.data.toList),none)
  | .neq=>some (.bool (x.data.toList !=y.data.toList),none)
  | .lss=>some (.bool (Op.bytesLess x.data.toList y.data.toList),none)
  | .leq=>some (.bool (Op.bytesLess x.data.toList y.data.toList||x.data.toList==y.data.toList),none)
  | .add=>some (.string ⟨⟨x.data.toList++y.data.toList⟩⟩,some (x.data.toList.length+y.data.toList.length<=1099511627776))
  |_=>none
 | .bool x,.bool y=>bif isBT P t then match op with
  | .eql=>some (.bool (x==y),none)
  | .neq=>some (.bool (x !=y),none)
  |_=>none else none
 | .agg x,.agg y=>match h with
  | .o v=>some (v,some (AGB P op t (.agg x) (.agg y) v))
  |_=>none
 | .pointer a,.pointer b=>match nilEq P t (.pointer a) (.pointer b),op with
  |some r,.eql=>some (.bool r,none)
  |some r,.neq=>some (.bool (!r),none)
  |_,_=>none
 | .slice a n k,.slice b n' k'=>match nilEq P t (.slice a n k) (.slice b n' k'),op with
  |some r,.eql=>some (.bool r,none)
  |some r,.neq=>some (.bool (!r),none)
  |_,_=>none
 |_,_=>none
def pun(h:Hint)(op:UnOp)(v:Value):VP:=match op,v with
 | .not,.bool b=>some (.bool (!b),none)
 | .neg,.int k n=>ari h k (0-n)
 | .xor,.int k n=>bi h k (bits .xor k (if k.signed then-1 else k.max) n)
 |_,_=>none
def pconv(P:Program)(H:Heap)(h:Hint)(s t:TypeId)(v:Value):VP:=match v with
 | .int _ n=>match P.underlying s,P.underlying t with
  |some _,some (.int k')=>ari h k' n
  |_,_=>none
 |_=>none
def ppick(g:Bool)(a b:Value):Option Value:=match a,b with
 | .bool x,.bool y=>some (.bool (bif g then x else y))
 | .int k x,.int k' y=>bif kq k k' then some (.int k (bif g then x else y)) else none
 | .string x,.string y=>some (.string ⟨⟨bif g then x.data.toList else y.data.toList⟩⟩)
 |_,_=>none
def LDv(P:Program)(H:Heap)(t:TypeId)(a w:Value):Prop:=dM P t a H=some (.val w,H)
def IX(v:Value)(j:Int):Prop:= ∃b o n k,v= .slice (some ⟨b,o,none⟩) n k/\0<=j/\j<n/\n<=k
def pidx(P:Program)(t:TypeId)(a i:Value):VP:=match a,i with
 | .string s,.int _ j=>match P.underlying t with
  |some .string=>some (.int .u8 ((s.data.toList.getD j.toNat 0).toNat:Int),some (0<=j/\j<s.data.toList.length))
  |_=>none
 | .agg x,w=>match aw P (Instr.index t (.agg x) w) with
  |some r=>some (r,none)
  |none=>none
 |_,_=>none
def pidxA(P:Program)(t:TypeId)(a i:Value):VP:=match a,i with
 | .slice x n k,.int _ j=>match P.underlying t with
  |some (.slice e)=>match ei P e with
   |some z=>some (.pointer (some ⟨sB (.slice x n k),sO (.slice x n k)+j.toNat *z,none⟩),some (IX (.slice x n k) j))
   |none=>none
  |_=>none
 | .pointer (some ⟨b,o,none⟩),.int _ j=>match P.underlying t with
  |some (.array n e)=>match ei P e with
   |some z=>some (.pointer (some ⟨b,o+j.toNat *z,none⟩),some (0<=j/\j<n))
   |none=>none
  |_=>none
 |_,_=>none
def pslice(P:Program)(H:Heap)(h:Hint)(t:TypeId)(x:Value)(lo hi:Option Value):VP:=match x with
 | .string s=>match P.underlying t with
  |some .string=>match lo,hi with
   |none,none=>some (.string s,none)
   |some (.int _ i),none=>some (.string ⟨⟨s.data.toList.drop i.toNat⟩⟩,some (0<=i/\i<=s.data.toList.length))
   |none,some (.int _ j)=>some (.string ⟨⟨s.data.toList.take j.toNat⟩⟩,some (0<=j/\j<=s.data.toList.length))
   |some (.int _ i),some (.int _ j)=>some (.string ⟨⟨(s.data.toList.drop i.toNat).take (j.toNat-i.toNat)⟩⟩,some (0<=i/\i<=j/\j<=s.data.toList.length))
   |_,_=>none
  |_=>none
 |x=>match h with
  | .o v=>some (v,some (bS P t x lo hi none H=some v))
  |_=>none
def plen(P:Program)(t:TypeId)(x:Value):VP:=match x with
 | .string s=>match P.underlying t with
  |some .string=>some (.int .i64 (s.data.toList.length:Int),none)
  |_=>none
 | .slice _ n _=>match P.underlying t with
  |some (.slice _)=>some (.int .i64 (n:Int),none)
  |_=>none
 |_=>none
def pmm(w:Bool)(a b:Value):VP:=match a,b with
 | .int k x,.int _ y=>some (.int k (bif w then(if y<x then y else x) else(if y>x then y else x)),none)
 |_,_=>none
def pcall(P:Program)(G0:Nat)(K:bx)(H:Heap)(h:Hint)(ρ:Operand->Value)(c:Call):VP:=match c.callee with
 | .builtin .len=>match c.argTypes.toList,c.args.toList with
  | [t],[x]=>plen P t (ρ x)
  |_,_=>none
 | .builtin .min=>match c.args.toList with
  | [x,y]=>pmm true (ρ x) (ρ y)
  |_=>none
 | .builtin .max=>match c.args.toList with
  | [x,y]=>pmm false (ρ x) (ρ y)
  |_=>none
 | .value f=>match ga P (ρ f) (eP ρ c.args.toList),h with
  |some (.enter g args),.o v=>some (v,some (C P G0 K g args H fun v' H'=>v'=v/\H'=H))
  |_,_=>none
 |_=>none
def optV{α:Type}(r:Option α):Option (α×Option Prop):=match r with
 |some v=>some (v,none)
 |none=>none
def pop(P:Program)(G0:Nat)(K:bx)(H:Heap)(h:Hint)(ρ:Operand->Value)(op:Op):VP:=match op with
 | .move x=>some (ρ x,none)
 | .assign x=>some (ρ x,none)
 | .binOp op t x y _=>pbin P h op t (ρ x) (ρ y)
 | .unOp op _ x=>pun h op (ρ x)
 | .convert s t x=>pconv P H h s t (ρ x)
 | .load t a=>match h with
  | .o v=>some (v,some (LDv P H t (ρ a) v))
  |_=>none
 | .index t x i=>pidx P t (ρ x) (ρ i)
 | .indexAddr t x i=>pidxA P t (ρ x) (ρ i)
 | .field t x f=>optV (f8 P t (ρ x) f)
 | .fieldAddr s x f=>optV (gB P s (ρ x) f)
 | .extract x i=>optV (fv (ρ x) i)
 | .build t parts=>match dK P t with
  |some _=>optV (aw P (Instr.build t (parts.map fun p=>(p.1,ρ p.2))))
  |none=>none
 | .slice t x lo hi none=>pslice P H h t (ρ x) (lo.map ρ) (hi.map ρ)
 | .call c=>pcall P G0 K H h ρ c
 | .nilCheck x=>match ρ x with
  | .pointer (some a)=>some (.pointer (some a),none)
  | .func (.func f) a c=>some (.func (.func f) a c,none)
  |_=>none
 | .makeFunc fn first cap=>some (.func fn (first.map ρ) (cap.map ρ),none)
 |_=>none
def kA(ops:Array Oper)(f:Fn)(S:SS):Option (Nat×Bool)->Option (Ch×List (Nat×Bool))
 |none=>some ([],S.G)
 |some (j,w)=>match (ops[j]?).bind (·.dst) with
  |some d=>match lk S.m d with
   |some (c,.bool g)=>some ((d,w)::c,iB S.G d g)
   |some _=>none
   |none=>match f d with
    | .bool g=>some ([(d,w)],iB S.G d g)
    |_=>none
  |none=>none
def putS(q:Option Prop)(c:Ch)(G:List (Nat×Bool))(m:List (Nat×Ch×Value))(d:Nat)(v:Value):Option (SS×Option Prop):=
 match gl G d with
 |some _=>none
 |none=>some (⟨(d,c,v)::m,G⟩,match q with
  |none=>none
  |some p=>some (impl G c p))
def stepS(P:Program)(G0:Nat)(K:bx)(H:Heap)(sz:Nat)(ops:Array Oper)(f:Fn)(S:SS)(h:Hint)(o:Oper):Option (SS×Option Prop):=
 match o.dst with
 |none=>none
 |some d=>
  bif Nat.ble (d+1) sz&&o.op.operands.toList.all (bh G0) then
   match kA ops f S o.guard with
   |none=>none
   |some (c,G1)=>
    match o.op with
    | .pick (.tmp s) a b=>
     match lk S.m s with
     |some (cc,.bool g)=>
      bif subC cc c&&(S.can ((s,true)::c) a&&S.can ((s,false)::c) b) then
       match ppick g (S.rd f a) (S.rd f b) with
       |some v=>putS none c (iB G1 s g) S.m d v
       |none=>none
      else none
     |_=>none
    |op=>
     bif op.operands.toList.all (S.can c) then
      match pop P G0 K H h (S.rd f) op with
      |some (v,q)=>putS q c G1 S.m d v
      |none=>none
     else none
  else none
def hintAt:List (Nat×Hint)->Nat->Hint
 | [],_=> .p
 |(i,h)::l,j=>bif Nat.beq i j then h else hintAt l j
def rgL(P:Program)(G0:Nat)(K:bx)(H:Heap)(sz:Nat)(ops:Array Oper)(f:Fn)(hs:List (Nat×Hint)):Nat->List Oper->SS->Option (SS×Prop)
 |_,[],S=>some (S,True)
 |i,o::os,S=>match stepS P G0 K H sz ops f S (hintAt hs i) o with
  |none=>none
  |some (S1,q)=>match rgL P G0 K H sz ops f hs (i+1) os S1 with
   |none=>none
   |some (S2,p)=>some (S2,andO q p)
def fins(m:List (Nat×Ch×Value)):List Nat->Option (List (Nat×Value))
 | []=>some []
 |d::ds=>match lk m d,fins m ds with
  |some ([],v),some l=>some ((d,v)::l)
  |_,_=>none
def fK(P:Program)(G0:Nat)(K:bx)(H:Heap)(sz:Nat)(ops:Array Oper)(f:Fn)(i:Nat)(os:List Oper)(hs:List (Nat×Hint))(lo hi:Nat)(ex:List Nat)(h:List Nat):Option (List (Nat×Value)×Prop):=
 match rgL P G0 K H sz ops f hs i os ⟨[],[]⟩ with
 |none=>none
 |some (S,p)=>bif S.m.all (fun e=>inR lo hi ex e.1) then
   match fins S.m h with
   |some l=>some (l,p)
   |none=>none
  else none
end Go.R
end
noncomputable section
namespace Go.R
section
variable {P:Program} {G0:Nat} {K:bx} {H:Heap} {ρ:Operand->Value} {d:Option Tmp} {ty:TypeId} {pos:String} {af:Array Edge} {gd:Option (Nat×Bool)} {v:Value} {q:Option Prop} {hi:Hint}
theorem jV{k:IntKind}{n:Int}(h:ari hi k n=some (v,q))(z:eQ q):v= .int k (k.wrap n):=by
 unfold ari at h;split at h
 ·simp only[a00,a02]at h;exact h.1.symm
 ·simp only[a00,a02]at h;obtain⟨rfl,rfl⟩:=h;obtain⟨rfl,A⟩:=z;rw[rng_wrap A]
 simp only[a00,a02]at h;obtain⟨rfl,rfl⟩:=h;rw[rng_wrap z]
theorem bi_ok{k:IntKind}{n:Int}(h:bi hi k n=some (v,q))(A:eQ q):v= .int k n:=by
 unfold bi at h;split at h
 ·simp only[a00,a02]at h;obtain⟨rfl,rfl⟩:=h;have z:n=_:=A;rw[z]
 simp only[a00,a02]at h;exact h.1.symm
theorem ie{p:Prop}{r:VP}(h:withP p r=some (v,q))(z:eQ q):p/\∃A,r=some (v,A)/\eQ A:=by
 match r,h with
 |some (v',none),h=>
  simp only[withP,a00,a02]at h
  obtain⟨rfl,rfl⟩:=h
  exact⟨z,none,rfl,trivial⟩
 |some (v',some p'),h=>
  simp only[withP,a00,a02]at h
  obtain⟨rfl,rfl⟩:=h
  exact⟨z.1,some p',rfl,z.2⟩
 |none,h=>simp[withP]at h
theorem beq0{b:Int}(h:b≠0):(b==0)=false:=by simpa using h
variable {x y:Operand} {t yt:TypeId}
theorem pint_ok{op:BinOp}{k:IntKind}{a b:Int}(V:ρ x= .int k a)(Y:ρ y= .int k b)(h:pint hi op k a b=some (v,q))(A:eQ q):
  AP P ρ ⟨d,.binOp op t x y yt,ty,pos,af,gd⟩ H (.val v,H):=by
 have z: ∀{v':Value},ja op=false->jG op k a b=some v'->AP P ρ ⟨d,.binOp op t x y yt,ty,pos,af,gd⟩ H (.val v',H):=by intro v' hs U;exact hN V Y (by rw[hs,dm];exact U)
 cases op with
 |add=>rw[jV (n:=a+b) h A];exact z rfl rfl
 |sub=>rw[jV (n:=a-b) h A];exact z rfl rfl
 |mul=>rw[jV (n:=a *b) h A];exact z rfl rfl
 |quo=>
  obtain⟨E,Z,O,T⟩:=ie (p:=b≠0) (r:=ari hi k (a.tdiv b)) h A
  rw[jV O T]
  exact z rfl (by show(bif b==0 then none else some (Value.int k (k.wrap (a.tdiv b))))=_;rw[beq0 E];rfl)
 |rem=>
  obtain⟨E,Z,O,T⟩:=ie (p:=b≠0) (r:=bi hi k (a.tmod b)) h A
  rw[bi_ok O T]
  exact z rfl (by show(bif b==0 then none else some (Value.int k (a.tmod b)))=_;rw[beq0 E];rfl)
 |and=>rw[bi_ok (n:=cR .and k a b) h A];exact z rfl rfl
 |or=>rw[bi_ok (n:=cR .or k a b) h A];exact z rfl rfl
 |xor=>rw[bi_ok (n:=cR .xor k a b) h A];exact z rfl rfl
 |andNot=>rw[bi_ok (n:=cR .andNot k a b) h A];exact z rfl rfl
 |shl=>cases h
 |shr=>cases h
 |_=>
  simp only[pint,a00,a02]at h
  obtain⟨rfl,_⟩:=h
  exact z rfl rfl
theorem bool_run{a b:Bool}(h:isBT P t=true):aw P (dD .eql t x y a b)=some (.value (.bool (a==b)))/\aw P (dD .neq t x y a b)=some (.value (.bool (a !=b))):=by
 unfold isBT at h;split at h
 ·rename_i O;have T:P.eqGuardType P.depth t=false:=by simpa using h
  have A:aw P (eqGuard .eql t x y (.bool a) (.bool b))=some ():=by simp[eqGuard]
  have E:aw P (eqGuard .neq t x y (.bool a) (.bool b))=some ():=by simp[eqGuard]
  have z:aw P (Op.equal t (.bool a) (.bool b))=some (a==b):=eqB (d:=9999) O;constructor
  ·unfold dD;simp only[aF,A,a0e];have:aw P (binOp .eql t (.bool a) (.bool b))=some (Value.bool (a==b)):=by show aw P (Op.equal t (.bool a) (.bool b)>>=fun b=>(Pure.pure (Value.bool b):Sem Value))=_;rw[aF,z];rfl
   rw[this];rfl
  unfold dD;simp only[aF,E,a0e];have:aw P (binOp .neq t (.bool a) (.bool b))=some (Value.bool (a !=b)):=by show aw P (Op.equal t (.bool a) (.bool b)>>=fun b=>(Pure.pure (Value.bool (!b)):Sem Value))=_;rw[aF,z];rfl
  rw[this];rfl
 cases h
theorem pbin_ok{op:BinOp}{a b:Value}(z:ρ x=a)(A:ρ y=b)(h:pbin P hi op t a b=some (v,q))(Z:eQ q):
  AP P ρ ⟨d,.binOp op t x y yt,ty,pos,af,gd⟩ H (.val v,H):=by
 have O: ∀(a b:Value) (r:Bool),ρ x=a->ρ y=b->(∃p,a= .pointer p)\/(∃p n k,a= .slice p n k)->nilEq P t a b=some r->(op= .eql->v= .bool r)->(op= .neq->v= .bool (!r))->(op= .eql\/op= .neq)->
   AP P ρ ⟨d,.binOp op t x y yt,ty,pos,af,gd⟩ H (.val v,H):=by
  intro a b r z A ha E U V Y
  refine⟨?_⟩
  show aBin P ρ _ op t (ρ x) y H=_
  have:aBin P ρ ⟨d,.binOp op t x y yt,ty,pos,af,gd⟩ op t (ρ x) y H=nilBin op (nilEq P t a b) H:=by rw[z];rcases ha with⟨p,rfl⟩|⟨p,n,k,rfl⟩<;>(rw[←A];rfl)
  rw[this,E]
  rcases Y with rfl|rfl
  ·rw[U rfl];rfl
  rw[V rfl];rfl
 unfold pbin at h
 split at h
 ·--integers
  split at h
  ·obtain⟨U,q',V,Y⟩:=ie h Z;rw[bi_ok V Y];exact ap_shl z A U
  ·obtain⟨U,q',V,Y⟩:=ie h Z;rw[bi_ok V Y];exact ap_shr z A U
  rename_i k a k' b _ _ _;cases hk:kq k k' with
  |false=>rw[hk]at h;cases h
  |true=>
   rw[hk]at h
   have:=kq_eq hk;subst this
   exact pint_ok z A h Z
 ·split at h<;>simp only[a00,a02,reduceCtorEq]at h
  ·obtain⟨rfl,_⟩:=h;exact ap_eqS z A
  ·obtain⟨rfl,_⟩:=h;exact ap_neS z A
  ·obtain⟨rfl,_⟩:=h;exact ap_ltS z A
  ·obtain⟨rfl,_⟩:=h;exact ap_leS z A
  obtain⟨rfl,rfl⟩:=h;exact ap_addS z A Z
 ·cases T:isBT P t with
  |false=>rw[T]at h;cases h
  |true=>
   rw[T]at h
   simp only[cond_true]at h
   split at h<;>simp only[a00,a02,reduceCtorEq]at h
   ·obtain⟨rfl,_⟩:=h;exact ap_boolEq z A (fun a b=>(bool_run T).1)
   obtain⟨rfl,_⟩:=h;exact ap_boolNe z A (fun a b=>(bool_run T).2)
 ·split at h<;>simp only[a00,a02,reduceCtorEq]at h;obtain⟨rfl,rfl⟩:=h;exact Z ρ x y yt d ty pos af gd H z A
 ·split at h<;>simp only[a00,a02,reduceCtorEq]at h
  ·rename_i E;obtain⟨rfl,_⟩:=h;exact O _ _ _ z A (.inl ⟨_,rfl⟩) E (fun _=>rfl) (fun e=>by cases e) (.inl rfl)
  rename_i E;obtain⟨rfl,_⟩:=h;exact O _ _ _ z A (.inl ⟨_,rfl⟩) E (fun e=>by cases e) (fun _=>rfl) (.inr rfl)
 ·split at h<;>simp only[a00,a02,reduceCtorEq]at h
  ·rename_i E;obtain⟨rfl,_⟩:=h;exact O _ _ _ z A (.inr ⟨_,_,_,rfl⟩) E (fun _=>rfl) (fun e=>by cases e) (.inl rfl)
  rename_i E;obtain⟨rfl,_⟩:=h;exact O _ _ _ z A (.inr ⟨_,_,_,rfl⟩) E (fun e=>by cases e) (fun _=>rfl) (.inr rfl)
 cases h
theorem pun_ok{op:UnOp}{a:Value}(z:ρ x=a)(h:pun hi op a=some (v,q))(A:eQ q):AP P ρ ⟨d,.unOp op t x,ty,pos,af,gd⟩ H (.val v,H):=by
 unfold pun at h;split at h
 ·simp only[a00,a02]at h;obtain⟨rfl,_⟩:=h;exact bH z
 ·rw[jV h A];exact ap_neg z
 ·rw[bi_ok h A];exact ap_cpl z
 cases h
theorem pconv_ok{s:TypeId}{a:Value}(O:ρ x=a)(h:pconv P H hi s t a=some (v,q))(E:eQ q):AP P ρ ⟨d,.convert s t x,ty,pos,af,gd⟩ H (.val v,H):=by
 unfold pconv at h;split at h
 ·split at h
  ·rename_i z A;rw[jV h E];exact ap_conv O z A
  cases h
 cases h
theorem ppick_ok{g:Bool}{a b v:Value}(h:ppick g a b=some v):v=bif g then a else b:=by
 unfold ppick at h;split at h
 ·simp only[a00]at h;subst h;cases g<;>rfl
 ·rename_i k x A y;cases z:kq k A with
  |false=>rw[z]at h;cases h
  |true=>
   rw[z]at h
   have:=kq_eq z;subst this
   simp only[cond_true,a00]at h;subst h;cases g<;>rfl
 ·simp only[a00]at h;subst h;cases g<;>rfl
 cases h
theorem pidx_ok{i:Operand}{a b:Value}(E:ρ x=a)(z:ρ i=b)(h:pidx P t a b=some (v,q))(O:eQ q):AP P ρ ⟨d,.index t x i,ty,pos,af,gd⟩ H (.val v,H):=by
 unfold pidx at h;split at h
 ·rename_i s _ j;split at h
  ·rename_i A;simp only[a00,a02]at h;obtain⟨rfl,rfl⟩:=h;obtain⟨T,U⟩:=O;obtain⟨⟨s⟩⟩:=s;have V:j<(s.length:Int):=U;exact cM (s:=s) E z A T (aU (by omega))
  cases h
 ·split at h
  ·rename_i A;simp only[a00,a02]at h;obtain⟨rfl,rfl⟩:=h;exact ap_ixG E z A
  cases h
 cases h
theorem pidxA_ok{i:Operand}{a b:Value}(V:ρ x=a)(A:ρ i=b)(h:pidxA P t a b=some (v,q))(U:eQ q):AP P ρ ⟨d,.indexAddr t x i,ty,pos,af,gd⟩ H (.val v,H):=by
 unfold pidxA at h;split at h
 ·split at h
  ·rename_i E;split at h
   ·rename_i O;simp only[a00,a02]at h;obtain⟨rfl,rfl⟩:=h;obtain⟨b,o,n,k,e,T,Y,q3⟩:=U;cases e
    exact hO V A E O T Y q3
   cases h
  cases h
 ·split at h
  ·rename_i E;split at h
   ·rename_i O;simp only[a00,a02]at h;obtain⟨rfl,rfl⟩:=h;obtain⟨T,Y⟩:=U;refine⟨?_⟩;rename_i kk j n e z _;obtain⟨m,rfl⟩:=a0O T;show ovl (cS P t (ρ x) (ρ i)) H=_;rw[V,A];unfold cS;rw[E];have Z:Nat.ble (m+1) n=true:=a0k (by omega);show ovl (match ei P e with|some sz=>bif Nat.ble (m+1) n then some (.pointer (some ⟨_,_+m *sz,none⟩)) else none|none=>none) H=_;rw[O];simp only[Z,cond_true];rfl
   cases h
  cases h
 cases h
theorem sl_str{lo hi:Option Operand}{s:ByteArray}{i j:Nat}(T:ρ x= .string s)(O:P.underlying t=some .string)(z:dL s.data.toList.length (hi.map ρ)=some j)(A:dL 0 (lo.map ρ)=some i)(h:i<=j)(E:j<=s.data.toList.length):
  AP P ρ ⟨d,.slice t x lo hi none,ty,pos,af,gd⟩ H (.val (.string ⟨⟨(s.data.toList.drop i).take (j-i)⟩⟩),H):=by
 obtain⟨⟨s⟩⟩:=s
 exact ap_slS T O z A h E
theorem pslice_ok{lo z:Option Operand}{a:Value}(O:ρ x=a)(h:pslice P H hi t a (lo.map ρ) (z.map ρ)=some (v,q))(V:eQ q):AP P ρ ⟨d,.slice t x lo z none,ty,pos,af,gd⟩ H (.val v,H):=by
 unfold pslice at h;split at h
 ·rename_i s;split at h
  ·rename_i U;split at h
   ·rename_i A E;simp only[a00,a02]at h;obtain⟨rfl,rfl⟩:=h;have:=sl_str (d:=d) (ty:=ty) (pos:=pos) (af:=af) (gd:=gd) (H:=H) (lo:=lo) (hi:=z) (i:=0) (j:=s.data.toList.length) O U (by rw[E];rfl) (by rw[A];rfl) (a0t _) (a05 _);rw[a1g,Nat.sub_zero,a17]at this;exact this
   ·rename_i k i A E;simp only[a00,a02]at h;obtain⟨rfl,rfl⟩:=h;obtain⟨T,Z⟩:=V;have:=sl_str (d:=d) (ty:=ty) (pos:=pos) (af:=af) (gd:=gd) (H:=H) (lo:=lo) (hi:=z) (i:=i.toNat) (j:=s.data.toList.length) O U (by rw[E];rfl) (by rw[A];exact optN T) (by omega) (a05 _);rw[a0Z (by rw[a0f];omega)]at this;exact this
   ·rename_i k j A E;simp only[a00,a02]at h;obtain⟨rfl,rfl⟩:=h;obtain⟨T,Z⟩:=V;have:=sl_str (d:=d) (ty:=ty) (pos:=pos) (af:=af) (gd:=gd) (H:=H) (lo:=lo) (hi:=z) (i:=0) (j:=j.toNat) O U (by rw[E];exact optN T) (by rw[A];rfl) (a0t _) (by omega);simpa using this
   ·rename_i k i k' j A E;simp only[a00,a02]at h;obtain⟨rfl,rfl⟩:=h;obtain⟨T,Z,q3⟩:=V;exact sl_str (lo:=lo) (hi:=z) (i:=i.toNat) (j:=j.toNat) O U (by rw[E];exact optN (by omega)) (by rw[A];exact optN T) (by omega) (by omega)
   cases h
  cases h
 split at h
 ·simp only[a00,a02]at h;obtain⟨rfl,rfl⟩:=h;refine⟨?_⟩;show ovl (bS P t (ρ x) (lo.map ρ) (z.map ρ) (Option.map ρ none) H) H=_;have Y:bS P t _ (lo.map ρ) (z.map ρ) none H=_:=V;rw[O,Option.map_none,Y];rfl
 cases h
theorem plen_ok{a:Value}(A:ρ x=a)(h:plen P t a=some (v,q)):AP P ρ ⟨d,.call ⟨.builtin .len, #[x], #[t]⟩,ty,pos,af,gd⟩ H (.val v,H):=by
 unfold plen at h;split at h
 ·rename_i s;split at h
  ·rename_i z;simp only[a00,a02]at h;obtain⟨rfl,rfl⟩:=h;obtain⟨⟨s⟩⟩:=s;exact ee (s:=s) A z
  cases h
 ·split at h
  ·rename_i z;simp only[a00,a02]at h;obtain⟨rfl,rfl⟩:=h;refine⟨?_⟩;show ovl (aLen P t (ρ x) H) H=_;rw[A];unfold aLen;rw[z];rfl
  cases h
 cases h
inductive PRes(P:Program)(G0:Nat)(K:bx)(ρ:Operand->Value)(o:Oper)(H:Heap)(v:Value):Prop where
 |val (h:AP P ρ o H (.val v,H))
 |call (g:FuncId) (args:List Value) (h:AP P ρ o H (.enter g args,H)) (hk:eV o.op=true) (hc:C P G0 K g args H fun v' H'=>v'=v/\H'=H)
theorem jD{ρ ρ':Operand->Value}: ∀{l:List Operand},(∀x,x∈l->ρ x=ρ' x)->eP ρ l=eP ρ' l
 | [],_=>rfl
 |x::l,h=>by show ρ x::eP ρ l=ρ' x::eP ρ' l;rw[h x (by simp),jD fun y z=>h y (by simp[z])]
theorem pmm_ok{w:Bool}{y:Operand}{A:Array TypeId}{a b:Value}(E:ρ x=a)(O:ρ y=b)(h:pmm w a b=some (v,q)):AP P ρ ⟨d,.call ⟨.builtin (bif w then .min else .max), #[x,y],A⟩,ty,pos,af,gd⟩ H (.val v,H):=by
 unfold pmm at h;split at h
 ·rename_i k n Y m;simp only[a00,a02]at h;obtain⟨rfl,rfl⟩:=h;have V:([ρ x,ρ y].all fun z=>gY z)=true:=by simp[E,O,gY,cJ]
  cases w with
  |true=>
   refine⟨?_⟩
   show bg P ρ ⟨d,.call ⟨.builtin .min, #[x,y],A⟩,ty,pos,af,gd⟩ H=_
   unfold bg
   have U:((Op.call ⟨.builtin .min, #[x,y],A⟩).operands.toList.all fun x=>gY (ρ x))=true:=by simp[Op.operands,Call.operands,E,O,gY,cJ]
   simp only[U,cond_true]
   have T:aw P (execOp ρ ⟨d,.call ⟨.builtin .min, #[x,y],A⟩,ty,pos,af,gd⟩)=some (.value (.int k (if m<n then m else n))):=by unfold execOp;simp[resolve,invoke,builtin,Builtin.min_,Builtin.min2,E,O]
   rw[T];rfl
  |false=>
   refine⟨?_⟩
   show bg P ρ ⟨d,.call ⟨.builtin .max, #[x,y],A⟩,ty,pos,af,gd⟩ H=_
   unfold bg
   have U:((Op.call ⟨.builtin .max, #[x,y],A⟩).operands.toList.all fun x=>gY (ρ x))=true:=by simp[Op.operands,Call.operands,E,O,gY,cJ]
   simp only[U,cond_true]
   have T:aw P (execOp ρ ⟨d,.call ⟨.builtin .max, #[x,y],A⟩,ty,pos,af,gd⟩)=some (.value (.int k (if m>n then m else n))):=by unfold execOp;simp[resolve,invoke,builtin,Builtin.max_,Builtin.max2,E,O]
   rw[T];rfl
 cases h
theorem pcall_ok{ρ ρ':Operand->Value}{c:Call}(z: ∀x,x∈(Op.call c).operands.toList->ρ x=ρ' x)(h:pcall P G0 K H hi ρ' c=some (v,q))(U:eQ q):
  PRes P G0 K ρ ⟨d,.call c,ty,pos,af,gd⟩ H v:=by
 obtain⟨E,args,A⟩:=c
 cases E with
 |builtin b=>
  cases b with
  |len=>
   obtain⟨A⟩:=A
   obtain⟨args⟩:=args
   simp only[pcall]at h
   split at h
   ·exact .val (plen_ok (z _ (by simp[Op.operands,Call.operands])) h)
   cases h
  |min=>
   obtain⟨args⟩:=args
   simp only[pcall]at h
   split at h
   ·exact .val (pmm_ok (w:=true) (z _ (by simp[Op.operands,Call.operands])) (z _ (by simp[Op.operands,Call.operands])) h)
   cases h
  |max=>
   obtain⟨args⟩:=args
   simp only[pcall]at h
   split at h
   ·exact .val (pmm_ok (w:=false) (z _ (by simp[Op.operands,Call.operands])) (z _ (by simp[Op.operands,Call.operands])) h)
   cases h
  |_=>cases h
 |value f=>
  simp only[pcall]at h
  split at h
  ·rename_i T;simp only[a00,a02]at h;obtain⟨rfl,rfl⟩:=h;refine .call _ _ ⟨?_⟩ rfl U;show fk (ga P (ρ f) (eP ρ args.toList)) H=_;rw[z f (by simp[Op.operands,Call.operands]),jD (ρ':=ρ') (fun x O=>z x (by simp[Op.operands,Call.operands]at O⊢;exact .inr O)),T];rfl
  cases h
 |invoke r m=>cases h
theorem pop_ok{ρ ρ':Operand->Value}{op:Op}(A: ∀x,x∈op.operands.toList->ρ x=ρ' x)(h:pop P G0 K H hi ρ' op=some (v,q))(O:eQ q):
  PRes P G0 K ρ ⟨d,op,ty,pos,af,gd⟩ H v:=by
 cases op with
 |move x=>
  simp only[pop,a00,a02]at h;obtain⟨rfl,rfl⟩:=h
  exact .val (ap_move (A x (by simp[Op.operands])))
 |assign x=>
  simp only[pop,a00,a02]at h;obtain⟨rfl,rfl⟩:=h
  exact .val (jj (A x (by simp[Op.operands])))
 |binOp op t x y yt=>exact .val (pbin_ok (A x (by simp[Op.operands])) (A y (by simp[Op.operands])) h O)
 |unOp op t x=>exact .val (pun_ok (A x (by simp[Op.operands])) h O)
 |convert s t x=>exact .val (pconv_ok (A x (by simp[Op.operands])) h O)
 |load t a=>
  simp only[pop]at h
  split at h
  ·simp only[a00,a02]at h;obtain⟨rfl,rfl⟩:=h;refine .val ⟨?_⟩;show dM P t (ρ a) H=_;rw[A a (by simp[Op.operands])];exact O
  cases h
 |index t x i=>exact .val (pidx_ok (A x (by simp[Op.operands])) (A i (by simp[Op.operands])) h O)
 |indexAddr t x i=>exact .val (pidxA_ok (A x (by simp[Op.operands])) (A i (by simp[Op.operands])) h O)
 |field t x f=>
  simp only[pop,optV]at h
  split at h
  ·rename_i T;simp only[a00,a02]at h;obtain⟨rfl,rfl⟩:=h;exact .val (ap_fv (A x (by simp[Op.operands])) T)
  cases h
 |fieldAddr s x f=>
  simp only[pop,optV]at h
  split at h
  ·rename_i T;simp only[a00,a02]at h;obtain⟨rfl,rfl⟩:=h;refine .val ⟨?_⟩;show ovl (gB P s (ρ x) f) H=_;rw[A x (by simp[Op.operands]),T];rfl
  cases h
 |extract x i=>
  simp only[pop,optV]at h
  split at h
  ·rename_i T;simp only[a00,a02]at h;obtain⟨rfl,rfl⟩:=h;exact .val (ap_ex (A x (by simp[Op.operands])) T)
  cases h
 |build t parts=>
  simp only[pop,optV]at h
  split at h
  ·rename_i z hz;split at h
   ·rename_i T;simp only[a00,a02]at h;obtain⟨rfl,rfl⟩:=h;refine .val (ap_bld ?_ hz T);apply a1t;intro p Z;rw[A p.2 (by simp only[Op.operands,a0l];exact⟨p,by simpa using Z,rfl⟩)]
   cases h
  cases h
 |slice t x lo hi2 mx=>
  cases mx with
  |some _=>simp only[pop]at h;cases h
  |none=>
   simp only[pop]at h
   have U:lo.map ρ=lo.map ρ':=by
    cases lo with
    |none=>rfl
    |some o=>simp only[a1x];rw[A o (by simp[Op.operands])]
   have V:hi2.map ρ=hi2.map ρ':=by
    cases hi2 with
    |none=>rfl
    |some o=>simp only[a1x];rw[A o (by simp[Op.operands])]
   rw[←U,←V]at h
   exact .val (pslice_ok (A x (by simp[Op.operands])) h O)
 |call c=>exact pcall_ok A h O
 |nilCheck x=>
  simp only[pop]at h
  have E:=A x (by simp[Op.operands])
  split at h
  ·rename_i a Y;simp only[a00,a02]at h;obtain⟨rfl,rfl⟩:=h;refine .val ⟨?_⟩;show opNil (ρ x) H=_;rw[E,Y];rfl
  ·rename_i f a c Y;simp only[a00,a02]at h;obtain⟨rfl,rfl⟩:=h;refine .val ⟨?_⟩;show opNil (ρ x) H=_;rw[E,Y];rfl
  cases h
 |makeFunc fn first cap=>
  simp only[pop,a00,a02]at h;obtain⟨rfl,rfl⟩:=h
  refine .val ⟨?_⟩
  show some (AN.val (.func fn (first.map ρ) (cap.map ρ)),H)=_
  have U:first.map ρ=first.map ρ':=a1t fun x E=>A x (by simp[Op.operands]at E⊢;first|exact .inl E|exact .inr E)
  have V:cap.map ρ=cap.map ρ':=a1t fun x E=>A x (by simp[Op.operands]at E⊢;first|exact .inl E|exact .inr E)
  rw[U,V]
 |_=>cases h
end
end Go.R
end
noncomputable section
namespace Go.R
structure SS.Rel(S:SS)(f fr:Fn):Prop where
 sl: ∀t c v,lk S.m t=some (c,v)->fr t=(bif act S.G c then v else undef)
 no: ∀t,lk S.m t=none->fr t=f t
 gs: ∀s g,gl S.G s=some g->(∃c,lk S.m s=some (c,.bool g))\/(lk S.m s=none/\f s= .bool g)
 ks: ∀t c v,lk S.m t=some (c,v)->∀s w,(s,w)∈c->∃g,gl S.G s=some g
theorem gl_add{G:List (Nat×Bool)}{d s:Nat}{g r:Bool}(h:gl G s=some r):gl (iB G d g) s=some r:=by
 unfold iB;split
 ·exact h
 rename_i A;show(bif Nat.beq d s then some g else gl G s)=_;cases z:Nat.beq d s with
 |true=>have:=a04 z;subst this;rw[A]at h;cases h
 |false=>exact h
theorem jb{G:List (Nat×Bool)}{d:Nat}{g:Bool}(h: ∀r,gl G d=some r->r=g):gl (iB G d g) d=some g:=by
 unfold iB;split
 ·rename_i r z;rw[z,h r z]
 show(bif Nat.beq d d then some g else gl G d)=_;rw[a0I];rfl
theorem gl_add_inv{G:List (Nat×Bool)}{d s:Nat}{g r:Bool}(h:gl (iB G d g) s=some r):gl G s=some r\/(s=d/\r=g):=by
 unfold iB at h;split at h
 ·exact .inl h
 have z:(bif Nat.beq d s then some g else gl G s)=some r:=h;cases A:Nat.beq d s with
 |true=>rw[A]at z;exact .inr ⟨(a04 A).symm,(Option.some.inj z).symm⟩
 |false=>rw[A]at z;exact .inl z
theorem kM{G:List (Nat×Bool)}{d:Nat}{g:Bool}: ∀{c:Ch},(∀s w,(s,w)∈c->∃r,gl G s=some r)->act (iB G d g) c=act G c
 | [],_=>rfl
 |(s,w)::c,h=>by
  obtain⟨r,z⟩:=h s w (by simp);show((match gl (iB G d g) s with|some g=>bq g w|none=>false)&&act (iB G d g) c)=((match gl G s with|some g=>bq g w|none=>false)&&act G c)
  rw[gl_add z,z,kM fun s w A=>h s w (by simp[A])]
theorem act_mem{G:List (Nat×Bool)}: ∀{c:Ch} {s:Nat} {w:Bool},act G c=true->memC s w c=true->gl G s=some w
 |(s',w')::c,s,w,h,z=>by
  simp only[act,a03]at h;simp only[memC,a0D,a03]at z;rcases z with⟨T,U⟩|z
  ·have E:=a04 T;have O:=bq_eq U;subst E O;have A:=h.1;split at A
   ·rename_i g V;rw[V,bq_eq A]
   cases A
  exact act_mem h.2 z
 | [],s,w,_,z=>by cases z
theorem act_sub{G:List (Nat×Bool)}: ∀{a c:Ch},act G c=true->subC a c=true->act G a=true
 | [],_,_,_=>rfl
 |(s,w)::a,c,h,hs=>by simp only[subC,a03]at hs;have z:=act_mem h hs.1;simp only[act,z,act_sub h hs.2,a1v];cases w<;>rfl
theorem impl_act{G:List (Nat×Bool)}{p:Prop}: ∀{c:Ch},act G c=true->impl G c p->p
 | [],_,h=>h
 |(s,w)::c,ha,h=>by
  simp only[act,a03]at ha;obtain⟨z,A⟩:=ha;unfold impl at h;split at z
  ·rename_i g E;rw[E]at h;exact impl_act A (h (bq_eq z))
  cases z
section
variable {P:Program} {G0:Nat} {K:bx} {sz:Nat} {Q:Ex->Fn->Heap->Prop} {ops:Array Oper} {os:List Oper} {k:List Fr} {f fr:Fn} {H:Heap} {S S':SS}
theorem SS.Rel.add(h:S.Rel f fr){d:Nat}{g:Bool}(E:(∃c,lk S.m d=some (c,.bool g))\/(lk S.m d=none/\f d= .bool g)):SS.Rel ⟨S.m,iB S.G d g⟩ f fr:=by
 refine⟨fun t c v z=>?_,h.no,fun s r A=>?_,fun t c v z s w O=>?_⟩
 ·rw[h.sl t c v z];show _=bif act (iB S.G d g) c then v else undef
  rw[kM (h.ks t c v z)]
 ·rcases gl_add_inv A with h1|⟨rfl,rfl⟩
  ·exact h.gs s r h1
  exact E
 obtain⟨r,A⟩:=h.ks t c v z s w O;exact⟨r,gl_add A⟩
theorem SS.Rel.same(h:S.Rel f fr){d:Nat}{g:Bool}(T:(∃c,lk S.m d=some (c,.bool g))\/(lk S.m d=none/\f d= .bool g)): ∀r,gl S.G d=some r->r=g:=by
 intro r U;rcases h.gs d r U with⟨c,A⟩|⟨A,O⟩<;>rcases T with⟨V,z⟩|⟨z,E⟩
 ·rw[A]at z;simp only[a00,a02,Value.bool.injEq]at z;exact z.2
 ·rw[A]at z;cases z
 ·rw[A]at z;cases z
 rw[O]at E;simpa using E
structure GOK(ops:Array Oper)(f fr:Fn)(S:SS)(g:Option (Nat×Bool))(c:Ch)(G1:List (Nat×Bool)):Prop where
 rel:SS.Rel ⟨S.m,G1⟩ f fr
 ks: ∀s w,(s,w)∈c->∃g,gl G1 s=some g
 on:act G1 c=true->match g with
  |none=>True
  |some (j,w)=>ca ops fr j=some w
 off:act G1 c=false->match g with
  |none=>False
  |some (j,w)=>ca ops fr j=none\/ca ops fr j=some (!w)
theorem kz(U:S.Rel f fr){g:Option (Nat×Bool)}{c:Ch}{G1:List (Nat×Bool)}(h:kA ops f S g=some (c,G1)):GOK ops f fr S g c G1:=by
 unfold kA at h;split at h
 ·simp only[a00,a02]at h;obtain⟨rfl,rfl⟩:=h;exact⟨U,fun s w E=>by simp at E,fun _=>trivial,fun h=>by cases h⟩
 rename_i j w;split at h
 ·rename_i d hd;have al: ∀(z:Ch) (γ:Bool),((∃c,lk S.m d=some (c,.bool γ))\/(lk S.m d=none/\f d= .bool γ))->(∀s w,(s,w)∈z->∃g,gl S.G s=some g)->(fr d=bif act S.G z then .bool γ else undef)->GOK ops f fr S (some (j,w)) ((d,w)::z) (iB S.G d γ):=by
   intro z γ Y Z A;have hG:=jb (G:=S.G) (d:=d) (g:=γ) (U.same Y);have ha:act (iB S.G d γ) ((d,w)::z)=(bq γ w&&act S.G z):=by show((match gl (iB S.G d γ) d with|some g=>bq g w|none=>false)&&act (iB S.G d γ) z)=_;rw[hG,kM Z]
   have hy: ∀v,fr d=v->ca ops fr j=match v with| .bool b=>some b|_=>none:=by intro v hv;unfold ca;rw[hd];show(match fr d with| .bool b=>some b|_=>none)=_;rw[hv]
   refine⟨U.add Y,fun s w' E=>?_,fun V=>?_,fun O=>?_⟩
   ·rcases a0g.1 E with e|E
    ·injection e with e1 e2;subst e1;exact⟨γ,hG⟩
    obtain⟨r,a3⟩:=Z s w' E;exact⟨r,gl_add a3⟩
   ·rw[ha,a03]at V;rw[V.2]at A;show ca ops fr j=some w;rw[hy _ A,bq_eq V.1];rfl
   rw[ha]at O;show ca ops fr j=none\/ca ops fr j=some (!w);cases hc:act S.G z with
   |false=>rw[hc]at A;left;rw[hy _ A];rfl
   |true=>
    rw[hc]at A O
    right
    rw[hy _ A]
    cases γ<;>cases w<;>first|rfl|cases O
  split at h
  ·rename_i z γ T;simp only[a00,a02]at h;obtain⟨rfl,rfl⟩:=h;exact al z γ (.inl ⟨_,T⟩) (U.ks d z _ T) (U.sl d z _ T)
  ·cases h
  rename_i T;split at h
  ·rename_i γ hf;simp only[a00,a02]at h;obtain⟨rfl,rfl⟩:=h;exact al [] γ (.inr ⟨T,hf⟩) (fun s w E=>by simp at E) (by rw[U.no d T,hf];rfl)
  cases h
 cases h
theorem rel_put{m:List (Nat×Ch×Value)}{G:List (Nat×Bool)}{q q':Option Prop}{c:Ch}{d:Nat}{v:Value}(U:SS.Rel ⟨m,G⟩ f fr)(hk: ∀s w,(s,w)∈c->∃g,gl G s=some g)(h:putS q c G m d v=some (S',q')):
  SS.Rel S' f (upd fr d (bif act G c then v else undef))/\(eQ q'->act G c=true->eQ q):=by
 unfold putS at h
 split at h
 ·cases h
 rename_i hd
 simp only[a00,a02]at h
 obtain⟨rfl,rfl⟩:=h
 refine⟨⟨fun t E v' O=>?_,fun t O=>?_,fun s g V=>?_,fun t E v' O s w Y=>?_⟩,fun hq ha=>?_⟩
 ·have z:(bif Nat.beq d t then some (c,v) else lk m t)=some (E,v'):=O;unfold upd;cases A:Nat.beq d t with
  |true=>
   rw[A]at z
   simp only[cond_true,a00,a02]at z
   obtain⟨rfl,rfl⟩:=z
   rfl
  |false=>rw[A]at z;exact U.sl t E v' z
 ·have z:(bif Nat.beq d t then some (c,v) else lk m t)=none:=O;unfold upd;cases A:Nat.beq d t with
  |true=>rw[A]at z;cases z
  |false=>rw[A]at z;exact U.no t z
 ·have Z:Nat.beq d s=false:=by
   cases A:Nat.beq d s with
   |false=>rfl
   |true=>have:=a04 A;subst this;rw[hd]at V;cases V
  have e:lk ((d,c,v)::m) s=lk m s:=by show(bif Nat.beq d s then some (c,v) else lk m s)=_;rw[Z];rfl
  rcases U.gs s g V with⟨c0,T⟩|T
  ·exact .inl ⟨c0,e.trans T⟩
  exact .inr ⟨e.trans T.1,T.2⟩
 ·have z:(bif Nat.beq d t then some (c,v) else lk m t)=some (E,v'):=O;cases A:Nat.beq d t with
  |true=>
   rw[A]at z
   simp only[cond_true,a00,a02]at z
   obtain⟨rfl,rfl⟩:=z
   exact hk s w Y
  |false=>rw[A]at z;exact U.ks t E v' z s w Y
 cases q with
 |none=>trivial
 |some p=>exact impl_act ha hq
theorem rd_ok(A:S.Rel f fr){c:Ch}(O:act S.G c=true){x:Operand}(T:S.can c x=true):dF fr x=S.rd f x:=by
 cases x with
 |tmp t=>
  show fr t=match lk S.m t with|some x=>x.2|none=>f t
  have h:(match lk S.m t with|some x=>subC x.1 c|none=>true)=true:=T
  cases z:lk S.m t with
  |none=>exact A.no t z
  |some y=>
   obtain⟨E,v⟩:=y
   rw[z]at h
   rw[A.sl t E v z,act_sub O h];rfl
 |_=>rfl
theorem stepS_ok{o:Oper}{q:Option Prop}{hi:Hint}(hr:S.Rel f fr)(h:stepS P G0 K H sz ops f S hi o=some (S',q))(hq:eQ q):
  ∃d c z v,o.dst=some d/\Nat.ble (d+1) sz=true/\o.op.operands.toList.all (bh G0)=true/\kA ops f S o.guard=some (c,z)/\
   (act z c=true->PRes P G0 K (dF fr) ⟨some d,o.op,o.type,o.pos,o.after,none⟩ H v)/\SS.Rel S' f (upd fr d (bif act z c then v else undef)):=by
 unfold stepS at h
 split at h
 ·cases h
 rename_i d hd
 cases O:(Nat.ble (d+1) sz&&o.op.operands.toList.all (bh G0)) with
 |false=>rw[O]at h;cases h
 |true=>
  rw[O]at h
  simp only[cond_true]at h
  rw[a03]at O
  split at h
  ·cases h
  rename_i c z hc
  have E:=kz hr hc
  split at h
  ·rename_i s a b a4;split at h
   ·rename_i cc γ hl;cases A:(subC cc c&&(S.can ((s,true)::c) a&&S.can ((s,false)::c) b)) with
    |false=>rw[A]at h;cases h
    |true=>
     rw[A]at h
     simp only[cond_true]at h
     simp only[a03]at A
     split at h
     ·rename_i v hv;have an:(∃c,lk S.m s=some (c,.bool γ))\/(lk S.m s=none/\f s= .bool γ):= .inl ⟨_,hl⟩;have Y:=SS.Rel.add (S:=⟨S.m,z⟩) E.rel (d:=s) (g:=γ) an;have hG:=jb (G:=z) (d:=s) (g:=γ) (E.rel.same an);have ax: ∀s' w,(s',w)∈c->∃g,gl (iB z s γ) s'=some g:=fun s' w hm=>by obtain⟨r,a8⟩:=E.ks s' w hm;exact⟨r,gl_add a8⟩
      have U:act (iB z s γ) c=act z c:=kM E.ks;obtain⟨Z,_⟩:=rel_put Y ax h;rw[U]at Z;refine⟨d,c,z,v,hd,O.1,O.2,hc,fun T=>?_,Z⟩;refine .val ⟨?_⟩;rw[a4];show eW (dF fr) (.tmp s) a b H=_;have e0:dF fr (.tmp s)= .bool γ:=by have:=E.rel.sl s cc _ hl;rw[act_sub T A.1]at this;exact this
      unfold eW;rw[e0];show some (AN.val (bif γ then dF fr a else dF fr b),H)=_;rw[ppick_ok hv];have V: ∀(w:Bool) (x:Operand),γ=w->S.can ((s,w)::c) x=true->dF fr x=S.rd f x:=by intro w x hw hx;have a9:SS.Rel ⟨S.m,iB z s γ⟩ f fr:=Y;refine rd_ok (S:=⟨S.m,iB z s γ⟩) a9 (c:=(s,w)::c) ?_ hx;show((match gl (iB z s γ) s with|some g=>bq g w|none=>false)&&act (iB z s γ) c)=true;rw[hG,U,T,hw];cases w<;>rfl
      cases γ with
      |true=>rw[cond_true,cond_true,V true a rfl A.2.1]
      |false=>rw[cond_false,cond_false,V false b rfl A.2.2]
     cases h
   cases h
  cases A:o.op.operands.toList.all (S.can c) with
  |false=>rw[A]at h;cases h
  |true=>
   rw[A]at h
   simp only[cond_true]at h
   split at h
   ·rename_i v q0 hp;obtain⟨Z,h2⟩:=rel_put E.rel E.ks h;refine⟨d,c,z,v,hd,O.1,O.2,hc,fun T=>?_,Z⟩;refine pop_ok (fun x hx=>?_) hp (h2 hq T);have:=a0o.1 A x hx;exact rd_ok (S:=⟨S.m,z⟩) E.rel T this
   cases h
theorem wo_do{d:Nat}{o:Oper}{c:Ch}{A:List (Nat×Bool)}{v:Value}(U:o.dst=some d)(E:Nat.ble (d+1) sz=true)(T:o.op.operands.toList.all (bh G0)=true)(O:GOK ops f fr S o.guard c A)
  (V:act A c=true->PRes P G0 K (dF fr) ⟨some d,o.op,o.type,o.pos,o.after,none⟩ H v) (h:WO P G0 K sz ops os k (upd fr d (bif act A c then v else undef)) H Q):WO P G0 K sz ops (o::os) k fr H Q:=by
 obtain⟨Y,op,ty,pos,af,gd⟩:=o
 simp only at U T O V
 subst U
 cases z:act A c with
 |true=>
  rw[z]at h
  have base:WO P G0 K sz ops (⟨some d,op,ty,pos,af,none⟩::os) k fr H Q:=by
   cases V z with
   |val hv=>exact ad hv T E h
   |call g args he _ hc=>exact wo_callG he T E hc (by rintro v' H' ⟨rfl,rfl⟩;exact h)
  cases gd with
  |none=>exact base
  |some jw=>
   obtain⟨j,w⟩:=jw
   exact aC (O.on z) rfl base
 |false=>
  rw[z]at h
  have:=O.off z
  cases gd with
  |none=>exact absurd this id
  |some jw=>
   obtain⟨j,w⟩:=jw
   rcases this with h1|h1
   ·exact cF h1 E h
   exact wo_gf h1 rfl E h
def bnD:ID->Bool
 | .x []=>true
 | .x _=>false
 |_=>true
theorem okD_r{i:Nat}: ∀{D:List (Nat×ID)},D.all (fun e=>bnD e.2)=true->okD ops i .r D
 | [],_=>trivial
 |(j,e)::D,h=>by
  simp only[a0J,a03]at h;refine⟨.inr ?_,okD_r h.2⟩;cases e with
  |x W=>
   cases W with
   |nil=>trivial
   |cons a b=>exact absurd h.1 (by simp[bnD])
  |_=>trivial
theorem okD_x{i:Nat}: ∀{D:List (Nat×ID)},D.all (fun e=>bnD e.2)=true->okD ops i (.x []) D
 | [],_=>trivial
 |(j,e)::D,h=>by
  simp only[a0J,a03]at h;refine⟨.inr ?_,okD_x h.2⟩;cases e with
  |x W=>
   cases W with
   |nil=>exact⟨trivial,trivial⟩
   |cons a b=>exact absurd h.1 (by simp[bnD])
  |l b=>exact a0y
  |q S=>exact fun b z=>absurd z a0y
  |_=>trivial
theorem wf_weak{D:List (Nat×ID)}{i j:Nat}{e:ID}(T: ∀g,e.fits g->fb g=true)(h:WF2 P G0 K sz ops ((j,.r)::D) i os k f H Q):WF2 P G0 K sz ops ((j,e)::D) i os k f H Q:=⟨fun t fs U z=>by
 refine h.out t fs U ?_;cases fs with
 |nil=>exact absurd z id
 |cons x fs=>
  obtain⟨a,g⟩:=x
  obtain⟨A,E,O⟩:=z
  exact⟨A,T g E,O⟩⟩
theorem wf_callx{d:Tmp}{op:Op}{ty:TypeId}{pos:String}{af:Array Edge}{D:List (Nat×ID)}{i:Nat}{v:Value}{g:FuncId}{args:List Value}(ha:AP P (dF f) ⟨some d,op,ty,pos,af,none⟩ {H with log:=[]} (.enter g args,{H with log:=[]}))(ho:op.operands.toList.all (bh G0)=true)(hd:Nat.ble (d+1) sz=true)(hk:eV op=true)
  (hc:C P G0 K g args {H with log:=[]} fun v' H'=>v'=v/\H'={H with log:=[]}) (Z:okD ops i (.x []) D)
  (h:WF2 P G0 K sz ops ((i,.x [])::D) (i+1) os k (upd f d v) H Q):WF2 P G0 K sz ops D i (⟨some d,op,ty,pos,af,none⟩::os) k f H Q:=⟨fun t fs V T=>by
 obtain⟨A,v',H2,Y,rfl,rfl⟩:=hc.out
 obtain⟨O,h1,h2⟩:=gX (s:=⟨t,sz,{H with log:=[]}⟩) (d:=some d) (v:=v') hd
 have hi:=bP (ops:=ops) (f:=f) (o:=⟨some d,op,ty,pos,af,none⟩) (n:=H.next) (log:=[]) (W:=[]) rfl hk (fun b hb=>by simp at hb) t sz H V
 obtain⟨z,e,s',h3,h4⟩:=h.out O ((i,dU ops ⟨some d,op,ty,pos,af,none⟩ ⟨t,sz,H⟩ H.next [])::fs) (by rw[h2,V];rfl) ⟨rfl,hi,T⟩
 refine⟨Nat.max A z,e,s',?_,h4⟩
 have al:step P G0 (call P G0 K (Nat.max A z)) ops ⟨some d,op,ty,pos,af,none⟩ ⟨t,sz,{H with log:=[]}⟩=some ⟨O,sz,{H with log:=[]}⟩:=by unfold step aY;simp only[cond_true,ho,ek,V,ha.eq,eA (a1b A z) _ _ _ _ Y];exact h1
 unfold bf fG
 rw[al]
 simp only[du hi T Z,cond_true,dg,a0U]
 refine dA (a12 (a0K A z)) k _ _ (fun x E=>?_) _ h3
 cases U:bf P G0 (call P G0 K z) ops (i+1) ((i,dU ops ⟨some d,op,ty,pos,af,none⟩ ⟨t,sz,H⟩ H.next [])::fs) os ⟨O,sz,H⟩ with
 |none=>rw[U]at E;cases E
 |some y=>
  have:=ej (eA (P:=P) (G:=G0) (K:=K) (a0K A z)) _ _ _ _ _ U
  rw[U]at E
  show dx (bf P G0 (call P G0 K (Nat.max A z)) ops (i+1) _ os ⟨O,sz,H⟩)=_
  rw[this];exact E⟩
theorem wf_do{D:List (Nat×ID)}{i d:Nat}{o:Oper}{c:Ch}{O:List (Nat×Bool)}{v:Value}(V:D.all (fun e=>bnD e.2)=true)(Y:o.dst=some d)(A:Nat.ble (d+1) sz=true)(T:o.op.operands.toList.all (bh G0)=true)(z:GOK ops f fr S o.guard c O)
  (Z:act O c=true->PRes P G0 K (dF fr) ⟨some d,o.op,o.type,o.pos,o.after,none⟩ {H with log:=[]} v) (h:WF2 P G0 K sz ops ((i,.r)::D) (i+1) os k (upd fr d (bif act O c then v else undef)) H Q):WF2 P G0 K sz ops D i (o::os) k fr H Q:=by
 obtain⟨an,op,ty,pos,af,gd⟩:=o
 simp only at Y T z Z
 subst Y
 cases E:act O c with
 |true=>
  rw[E]at h
  have base:WF2 P G0 K sz ops D i (⟨some d,op,ty,pos,af,none⟩::os) k fr H Q:=by
   cases Z E with
   |val hv=>exact a6 (id:= .r) hv T A (did_r fun b A=>by simp at A) (okD_r V) h
   |call g args he hk hc=>
    exact wf_callx he T A hk hc (okD_x V) (wf_weak (fun g z=>by obtain⟨w,rfl,hw⟩:=z;cases w with
     |nil=>rfl
     |cons a b=>exact absurd (hw a (by simp)) a0y) h)
  cases gd with
  |none=>exact base
  |some jw=>
   obtain⟨j,w⟩:=jw
   exact az (z.on E) rfl base
 |false=>
  rw[E]at h
  have:=z.off E
  cases gd with
  |none=>exact absurd this id
  |some jw=>
   obtain⟨j,w⟩:=jw
   have U:=wf_weak (e:= .v) (fun g z=>by rw[show g= .v from z];rfl) h
   rcases this with h1|h1
   ·exact wf_gn h1 A U
   exact ak h1 rfl A U
theorem holds_and{q:Option Prop}{p:Prop}(h:andO q p):eQ q/\p:=by
 cases q with
 |none=>exact⟨trivial,h⟩
 |some q=>exact h
theorem wo_row{hs:List (Nat×Hint)}: ∀{a:List Oper} {i:Nat} {S S':SS} {p:Prop} {fr:Fn},rgL P G0 K H sz ops f hs i a S=some (S',p)->p->S.Rel f fr->
  (∀z,S'.Rel f z->WO P G0 K sz ops os k z H Q)->WO P G0 K sz ops (a++os) k fr H Q
 | [],i,S,S',p,fr,h,_,hr,hk=>by simp only[rgL,a00,a02]at h;obtain⟨rfl,_⟩:=h;exact hk fr hr
 |o::a,i,S,S',p,fr,h,hp,hr,hk=>by
  unfold rgL at h;split at h
  ·cases h
  rename_i S1 q Z;split at h
  ·cases h
  rename_i S2 p2 h2;simp only[a00,a02]at h;obtain⟨rfl,rfl⟩:=h;obtain⟨hq,A⟩:=holds_and hp;obtain⟨d,c,G1,v,E,O,T,U,V,Y⟩:=stepS_ok hr Z hq;exact wo_do E O T (kz hr U) V (wo_row h2 A Y hk)
def rs(i:Nat):List Oper->List (Nat×ID)->List (Nat×ID)
 | [],D=>D
 |_::a,D=>rs (i+1) a ((i,.r)::D)
theorem wf_row{hs:List (Nat×Hint)}: ∀{a:List Oper} {i:Nat} {D:List (Nat×ID)} {S S':SS} {p:Prop} {fr:Fn},D.all (fun e=>bnD e.2)=true->rgL P G0 K {H with log:=[]} sz ops f hs i a S=some (S',p)->p->S.Rel f fr->
  (∀z,S'.Rel f z->WF2 P G0 K sz ops (rs i a D) (i+a.length) os k z H Q)->WF2 P G0 K sz ops D i (a++os) k fr H Q
 | [],i,D,S,S',p,fr,_,h,_,hr,hk=>by simp only[rgL,a00,a02]at h;obtain⟨rfl,_⟩:=h;exact hk fr hr
 |o::a,i,D,S,S',p,fr,hD,h,hp,hr,hk=>by
  unfold rgL at h;split at h
  ·cases h
  rename_i S1 q h1;split at h
  ·cases h
  rename_i S2 p2 h2;simp only[a00,a02]at h;obtain⟨rfl,rfl⟩:=h;obtain⟨hq,A⟩:=holds_and hp;obtain⟨d,c,G1,v,O,T,U,V,Y,Z⟩:=stepS_ok hr h1 hq;refine wf_do hD O T U (kz hr V) Y (wf_row (by simp only[a0J,hD,a1v];rfl) h2 A Z fun z E=>?_);have:=hk z E;rw[a07,show i+(a.length+1)=i+1+a.length by omega]at this;exact this
theorem fins_ok{m:List (Nat×Ch×Value)}{G:List (Nat×Bool)}(A:SS.Rel ⟨m,G⟩ f fr): ∀{z:List Nat} {l:List (Nat×Value)},fins m z=some l->aX fr l
 | [],l,h=>by simp only[fins,a00]at h;subst h;trivial
 |d::z,l,h=>by
  unfold fins at h;split at h
  ·rename_i v l' E O;simp only[a00]at h;subst h;exact⟨by have:=A.sl d [] v E;exact this,fins_ok A O⟩
  cases h
theorem rel_leaves{m:List (Nat×Ch×Value)}{G:List (Nat×Bool)}(T:SS.Rel ⟨m,G⟩ f fr){lo hi:Nat}{ex:List Nat}(h:m.all (fun e=>inR lo hi ex e.1)=true):Leaves lo hi ex f fr:=⟨fun j O=>by
 refine T.no j ?_;have A: ∀(m:List (Nat×Ch×Value)),m.all (fun e=>inR lo hi ex e.1)=true->lk m j=none:=by
  intro m;induction m with
  |nil=>intro _;rfl
  |cons e m ih=>
   obtain⟨s,x⟩:=e
   intro z
   simp only[a0J,a03]at z
   show(bif Nat.beq s j then some x else lk m j)=none
   cases E:Nat.beq s j with
   |true=>have:=a04 E;subst this;rw[O]at z;cases z.1
   |false=>exact ih z.2
 exact A m h⟩
theorem rel0:SS.Rel ⟨[],[]⟩ f f:=⟨fun t c v h=>(by cases h),fun _ _=>rfl,fun s g h=>(by cases h),fun t c v h=>(by cases h)⟩
theorem top_ok{i:Nat}{a:List Oper}{hs:List (Nat×Hint)}{lo hi:Nat}{ex E:List Nat}{l:List (Nat×Value)}{p:Prop}(h:fK P G0 K H sz ops f i a hs lo hi ex E=some (l,p)):
  ∃S,rgL P G0 K H sz ops f hs i a ⟨[],[]⟩=some (S,p)/\∀fr,S.Rel f fr->∃g,fr=jZ (hav lo hi ex g f) l:=by
 unfold fK at h
 split at h
 ·cases h
 rename_i S U O
 cases z:S.m.all (fun e=>inR lo hi ex e.1) with
 |false=>rw[z]at h;cases h
 |true=>
  rw[z]at h
  simp only[cond_true]at h
  split at h
  ·rename_i l' T;simp only[a00,a02]at h;obtain⟨rfl,rfl⟩:=h;refine⟨S,O,fun fr A=>⟨fr,?_⟩⟩;rw[←(rel_leaves A z).eq,gf (fins_ok A T)]
  cases h
theorem wk_rg{id:Nat}(hs:List (Nat×Hint))(lo hi:Nat)(ex:List Nat){z:List Nat}{l:List (Nat×Value)}{p:Prop}(h:fK P G0 K H sz ops f 0 ops.toList hs lo hi ex z=some (l,p))(T:p)
  (O: ∀g,WK P G0 K sz .skip k (jZ (hav lo hi ex g f) l) H Q):WK P G0 K sz (.region id ops false) k f H Q:=by
 obtain⟨S,A,E⟩:=top_ok h
 refine aa ?_
 have:=wo_row (os:=[]) (k:=k) (Q:=Q) A T rel0 (fun fr U=>by obtain⟨g,rfl⟩:=E fr U;exact ay (O g))
 rwa [a0N]at this
theorem wk_rgD{id:Nat}(z:(iO ops&&P.follows .mixedOrders)=true)(hs:List (Nat×Hint))(lo hi:Nat)(ex:List Nat){A:List Nat}{l:List (Nat×Value)}{p:Prop}(h:fK P G0 K {H with log:=[]} sz ops f 0 ops.toList hs lo hi ex A=some (l,p))(U:p)
  (T: ∀g,WK P G0 K sz .skip k (jZ (hav lo hi ex g f) l) H Q):WK P G0 K sz (.region id ops true) k f H Q:=by
 obtain⟨S,E,O⟩:=top_ok h
 refine aK z ?_
 have:=wf_row (os:=[]) (k:=k) (Q:=Q) (D:=[]) rfl E U rel0 (fun fr z=>by obtain⟨g,rfl⟩:=O fr z;exact aW (T g))
 rwa [a0N]at this
theorem wo_rg(n i:Nat)(hs:List (Nat×Hint))(lo hi:Nat)(ex:List Nat){os:List Oper}{z:List Nat}{l:List (Nat×Value)}{p:Prop}(h:fK P G0 K H sz ops f i (gg os n) hs lo hi ex z=some (l,p))(T:p)
  (O: ∀g,WO P G0 K sz ops (gx os n) k (jZ (hav lo hi ex g f) l) H Q):WO P G0 K sz ops os k f H Q:=by
 obtain⟨S,A,E⟩:=top_ok h
 have:=wo_row (os:=gx os n) (k:=k) (Q:=Q) A T rel0 (fun fr U=>by obtain⟨g,rfl⟩:=E fr U;exact O g)
 rwa [bT,cn,List.take_append_drop]at this
end
end Go.R
end
noncomputable section
namespace Go.R
def foc:Nat->Code->List Fr->Code×List Fr
 |0,c,k=>(c,k)
 |n+1,.seq a b,k=>foc n a (.seq b::k)
 |n+1,.block id b,k=>foc n b (.block id::k)
 |n+1,.skip,.seq b::k=>foc n b k
 |n+1,.skip,.block _::k=>foc n .skip k
 |n+1,.exit id,.seq _::k=>foc n (.exit id) k
 |n+1,.exit id,.block id'::k=>bif Nat.beq id id' then foc n .skip k else foc n (.exit id) k
 |_+1,c,k=>(c,k)
section
variable {P:Program} {G:Nat} {K:bx} {sz:Nat} {Q:Ex->Fn->Heap->Prop} {f:Fn} {H:Heap}
theorem wk_foc': ∀(n:Nat) (c:Code) (k:List Fr),WK P G K sz (foc n c k).1 (foc n c k).2 f H Q->WK P G K sz c k f H Q:=by
 intro n;induction n with
 |zero=>intro c k h;exact h
 |succ n ih=>
  intro c k h
  cases c with
  |seq a b=>exact aH (ih _ _ h)
  |block id b=>exact eC (ih _ _ h)
  |skip=>
   cases k with
   |nil=>exact h
   |cons x k=>
    cases x with
    |seq b=>exact aj (ih _ _ h)
    |block id=>exact dP (ih _ _ h)
  |exit id=>
   cases k with
   |nil=>exact h
   |cons x k=>
    cases x with
    |seq b=>exact cI (ih _ _ h)
    |block id'=>
     have z:WK P G K sz (bif Nat.beq id id' then foc n .skip k else foc n (.exit id) k).1 (bif Nat.beq id id' then foc n .skip k else foc n (.exit id) k).2 f H Q:=h
     cases A:Nat.beq id id' with
     |true=>
      have:=a04 A
      subst this
      rw[A]at z
      exact dQ (ih _ _ z)
     |false=>
      rw[A]at z
      exact hT A (ih _ _ z)
  |_=>exact h
variable {c c1 c2:Code} {k k1 k2:List Fr}
theorem am(n:Nat)(z:foc n c k=(c1,k1))(h:WK P G K sz c1 k1 f H Q):WK P G K sz c k f H Q:=wk_foc' n c k (by rw[z];exact h)
theorem wk_if(n m:Nat){x:Operand}{a b:Code}{v:Bool}(U:dF f x= .bool v)(O:bh G x=true)(z:foc n a k=(c1,k1))(A:foc m b k=(c2,k2))(T:v=true->WK P G K sz c1 k1 f H Q)(E:v=false->WK P G K sz c2 k2 f H Q):WK P G K sz (.cond x a b) k f H Q:=
 cr U O (fun h=>am n z (T h)) (fun h=>am m A (E h))
theorem bu(n:Nat){x:Operand}{a b:Code}{v:Bool}(O:dF f x= .bool v)(E:v=true)(A:bh G x=true)(z:foc n a k=(c1,k1))(h:WK P G K sz c1 k1 f H Q):WK P G K sz (.cond x a b) k f H Q:=wk_true O E A (am n z h)
theorem fD(n:Nat){x:Operand}{a b:Code}{v:Bool}(O:dF f x= .bool v)(E:v=false)(A:bh G x=true)(z:foc n b k=(c1,k1))(h:WK P G K sz c1 k1 f H Q):WK P G K sz (.cond x a b) k f H Q:=jX O E A (am n z h)
theorem wr(n:Nat){id:Nat}{ops:Array Oper}(hs:List (Nat×Hint))(lo hi:Nat)(ex:List Nat)(l:List (Nat×Value)){p:Prop}(E:p)(h:fK P G K H sz ops f 0 ops.toList hs lo hi ex (eP Prod.fst l)=some (l,p))(z:foc n .skip k=(c1,k1))
  (A: ∀g,WK P G K sz c1 k1 (jZ (hav lo hi ex g f) l) H Q):WK P G K sz (.region id ops false) k f H Q:=wk_rg hs lo hi ex h E fun g=>am n z (A g)
theorem wrD(n:Nat){id:Nat}{ops:Array Oper}(hs:List (Nat×Hint))(lo hi:Nat)(ex:List Nat)(l:List (Nat×Value)){p:Prop}(E:p)(O:(iO ops&&P.follows .mixedOrders)=true)(h:fK P G K {H with log:=[]} sz ops f 0 ops.toList hs lo hi ex (eP Prod.fst l)=some (l,p))(z:foc n .skip k=(c1,k1))
  (A: ∀g,WK P G K sz c1 k1 (jZ (hav lo hi ex g f) l) H Q):WK P G K sz (.region id ops true) k f H Q:=wk_rgD O hs lo hi ex h E fun g=>am n z (A g)
theorem wro(n i:Nat){ops:Array Oper}{os z:List Oper}(hs:List (Nat×Hint))(lo hi:Nat)(ex:List Nat)(l:List (Nat×Value)){p:Prop}(O:p)(h:fK P G K H sz ops f i (gg os n) hs lo hi ex (eP Prod.fst l)=some (l,p))(A:gx os n=z)
  (E: ∀g,WO P G K sz ops z k (jZ (hav lo hi ex g f) l) H Q):WO P G K sz ops os k f H Q:=wo_rg n i hs lo hi ex h O (by rw[A];exact E)
theorem ab(n:Nat){ops:Array Oper}(z:foc n .skip k=(c1,k1))(h:WK P G K sz c1 k1 f H Q):WO P G K sz ops [] k f H Q:=ay (am n z h)
end
theorem vA{a b:Prop}(h:a)(k:b):a/\b:=⟨h,k⟩
theorem vi{n:Int}(h: -9223372036854775808<=n/\n<9223372036854775808:=by first|(dsimp only;omega)|omega):rng .i64 n:=h
section
variable {P:Program} {G:Nat} {K:bx} {H:Heap} {F:Fz} {B:Base} {L R:List Fp}
theorem ld1{b o i:Nat}{cs:List Value}{w:Value}{t:TypeId}(hc:HC H.get b o cs)(A:fC P t=some false)(E:cs[i]?=some w):LDv P H t (.pointer (some ⟨b,o+i,none⟩)) w:=by obtain⟨all,O,T,h,z⟩:=hc.get E;show ovl (H.loadV P t ⟨b,o+i,none⟩) H=_;unfold Heap.loadV;rw[A];simp only;unfold Heap.cellAt;simp only[h,gk,z];rfl
theorem ldN{b o i n:Nat}{cs l:List Value}{t:TypeId}(hc:HC H.get b o cs)(O:fC P t=some true)(hs:ei P t=some n)(T:Nat.ble (i+n) cs.length=true)(h:gg (gx cs i) n=l):LDv P H t (.pointer (some ⟨b,o+i,none⟩)) (.agg ⟨l⟩):=by obtain⟨all,U,V,z,A,E⟩:=hc.part (a0a T);rw[bT,cn]at h;show ovl (H.loadV P t ⟨b,o+i,none⟩) H=_;unfold Heap.loadV;rw[O];simp only[hs];unfold Heap.loadN;rw[←h];simp only[z,bT,cn,bC,A,E,a0I,cond_true];rfl
theorem hc0{b o:Nat}{cs:List Value}(h:HC H.get b o cs):HC ({H with log:=[]}:Heap).get b o cs:=h
theorem cq{f:FuncId}{args:List Value}{Q:Value->Heap->Prop}{v:Value}(h:C P G K f args H Q)(z: ∀v' H',Q v' H'->v'=v/\H'=H):C P G K f args H fun v' H'=>v'=v/\H'=H:=h.mono z
section
variable {α:Type} [Rp α] {v:Value} {l:List α}
theorem Sv.view{get:Nat->Option AObj}(h:Sv F get v l): ∃cf:Nat->List Value,∀(j:Nat),(∀d:α,j<l.length->Rp.rep F (cf j) (l.getD j d)/\HC get (sB v) (sO v+j *Rp.sz α) (cf j))/\(l.length<=j->cf j=[]):=by
 have A: ∀j,∃cs,(∀(d:α),j<l.length->Rp.rep F cs (l.getD j d)/\HC get (sB v) (sO v+j *Rp.sz α) cs)/\(l.length<=j->cs=[]):=by
  intro j;by_cases z:j<l.length
  ·obtain⟨cs,O,T⟩:=h.at (a09 z);refine⟨cs,fun d _=>⟨?_,T⟩,fun h=>absurd h (by omega)⟩;rw[a08,a09 z];exact O
  exact⟨[],fun _ E=>absurd E z,fun _=>rfl⟩
 exact⟨fun j=>(A j).choose,fun j=>(A j).choose_spec⟩
abbrev VW(F:Fz)(get:Nat->Option AObj)(v:Value)(l:List α)(cf:Nat->List Value)(j:Nat):Prop:=(∀d:α,j<l.length->Rp.rep F (cf j) (l.getD j d)/\HC get (sB v) (sO v+j *Rp.sz α) (cf j))/\(l.length<=j->cf j=[])
theorem Sv.ix{get:Nat->Option AObj}(h:Sv F get v l){j:Int}(E:0<=j:=by first|(dsimp only;omega)|omega)(z:j<l.length:=by first|(dsimp only;omega)|omega):IX v j:=by
 rcases h with⟨_,rfl⟩|⟨b,A,k,o,rfl,U,cs,T,ro,rfl,V,O,Y,Z⟩
 ·simp at z;omega
 exact⟨b,A,_,k,rfl,E,z,O⟩
end
def sA:Value->Option Addr
 | .slice a _ _=>a
 |_=>none
def sK:Value->Nat
 | .slice _ _ k=>k
 |_=>0
abbrev cA(cs:List Value)(i:Nat):Option Addr:=sA (cs.getD i undef)
abbrev cK(cs:List Value)(i:Nat):Nat:=sK (cs.getD i undef)
end
theorem bF{α:Type}{l:List α}{j:Nat}{d:α}(h:l.length<=j):l.getD j d=d:=by rw[a08,a18 h];rfl
section
variable {F:Fz} {get:Nat->Option AObj} {v:Value} {cf:Nat->List Value} {j:Nat}
theorem vS{l:List Str}(h:VW F get v l cf j)(E:j<l.length:=by first|(dsimp only;omega)|omega):HC get (sB v) (sO v+j *Rp.sz Str) [.string ⟨⟨(l.getD j default).b⟩⟩]:=by obtain⟨A,z⟩:=h.1 default E;rw[show cf j=_ from A]at z;exact z
end
section
variable {P:Program} {t:TypeId} {fs:Array Field} {xs ys:List Value} {bs:List Bool}
theorem agNe(A:xs.all cJ=true)(E:ys.all cJ=true)(hu:P.underlying t=some (.struct fs))(hs:P.stoodInHeld t=false)(Z:P.eqGuardType P.depth t=false)(h:EqFs P 9999 ⟨xs⟩ ⟨ys⟩ fs.toList bs):AGB P .neq t (.agg ⟨xs⟩) (.agg ⟨ys⟩) (.bool (!bs.all id)):=by
 intro ρ x y yt d ty pos af gd H z O;refine⟨?_⟩;show aBin P ρ _ .neq t (ρ x) y H=_;rw[z];show bg P ρ _ H=_;unfold bg;have V:((Op.binOp .neq t x y yt).operands.toList.all fun x=>gY (ρ x))=true:=by simp[Op.operands,z,O,gn A,gn E]
 simp only[V,cond_true];have Y:aw P (execOp ρ ⟨d,.binOp .neq t x y yt,ty,pos,af,gd⟩)=some (.value (Value.bool (!bs.all id))):=by
  unfold execOp;simp only[z,O,aF];have T:aw P (eqGuard .neq t x y (.agg ⟨xs⟩) (.agg ⟨ys⟩))=some ():=by simp[eqGuard,Z]
  have U:aw P (binOp .neq t (.agg ⟨xs⟩) (.agg ⟨ys⟩))=some (Value.bool (!bs.all id)):=by show aw P (Op.equal t (.agg ⟨xs⟩) (.agg ⟨ys⟩)>>=fun b=>(Pure.pure (Value.bool (!b)):Sem Value))=_;rw[aF,show Op.equal t (.agg ⟨xs⟩) (.agg ⟨ys⟩)=Op.equalIn (9999+1) t (.agg ⟨xs⟩) (.agg ⟨ys⟩) from rfl,eq_struct hu hs h];rfl
  simp only[T,U,a0e];rfl
 rw[Y];rfl
end
end Go.R
end
noncomputable section
namespace Go.R
section
variable {B:Base} {F:Fz} {H:Heap} {L R:List Fp} {x:Fp}
theorem HS.first(h:HS B F H (x::L) R):HS B F H [x] R:=HS.sub h (by simp)
theorem HS.didW{z:Heap}{W:List Nat}(h:HS (.of {z with log:=[]} W) F H L R): ∀b,b∈H.log->z.next<=b\/b∈W:=fun b A=>by
 rcases h.log b A with h1|h1|h1
 ·simp[Base.of]at h1
 ·exact .inl h1
 exact .inr h1
end
end Go.R
end
namespace Go.R
theorem aS{P:Program}{ρ:Operand->Value}{d:Option Tmp}{ty:TypeId}{pos:String}{af:Array Edge}{gd:Option (Nat×Bool)}{H:Heap}{x:Operand}{a:Addr}(h:ρ x= .pointer (some a)):AP P ρ ⟨d,.nilCheck x,ty,pos,af,gd⟩ H (.val (.pointer (some a)),H):=by refine⟨?_⟩;show opNil (ρ x) H=_;rw[h];rfl
end Go.R
namespace Go.R
end Go.R
namespace Go.R
theorem HS.nin{B:Base}{F:Fz}{H:Heap}{L R:List Fp}(h:HS B F H L R){i j:Nat}{p q:Fp}(hi:L[i]?=some p)(V:L[j]?=some q)(E:i≠j){b:Nat}(U:b∈p.map Prod.fst):b∉q.map Prod.fst:=by
 intro Y;have hc:=h.callOwn hi;have z:=hc.nd;have O:q∈L.set i []:=by refine a0h (i:=j) ?_;rw[List.getElem?_set_ne E];exact V
 simp only[a0E,a0U,a0z,a0V,a1c]at z;refine z.2.2 b U b ?_ rfl;obtain⟨⟨T,o⟩,A,rfl⟩:=a0l.1 Y;exact a0l.2 ⟨(T,o),a0F.2 ⟨q,List.mem_append_left _ O,A⟩,rfl⟩
end Go.R
namespace Go.R
end Go.R
noncomputable section
set_option linter.unusedVariables false
namespace Go.R
open Go
section
variable {P:Program} {G:Nat} {K:bx} {sz:Nat} {Q:Ex->Fn->Heap->Prop} {ops:Array Oper} {D:List (Nat×ID)} {i:Nat} {os:List Oper} {k k1 k2:List Fr} {c c1 c2:Code} {f:Fn} {H H1:Heap} {v:Value}
variable {d:Tmp} {ty:TypeId} {pos:String} {af:Array Edge} {x y:Operand}
theorem zi(n m:Nat){a b:Code}{v:Bool}(O:v=true->WK P G K sz c1 k1 f H Q)(A:v=false->WK P G K sz c2 k2 f H Q)(T:dF f x= .bool v:=by rfl)(E:bh G x=true:=by rfl)(h:foc n a k=(c1,k1):=by rfl)(z:foc m b k=(c2,k2):=by rfl):WK P G K sz (.cond x a b) k f H Q:=wk_if n m T E h z O A
theorem zd(n m:Nat){a b:Code}{p:Prop}{i:Decidable p}(T:p->WK P G K sz c1 k1 f H Q)(E: ¬p->WK P G K sz c2 k2 f H Q)(U:dF f x= .bool (@decide p i):=by rfl)(O:bh G x=true:=by rfl)(z:foc n a k=(c1,k1):=by rfl)(A:foc m b k=(c2,k2):=by rfl):WK P G K sz (.cond x a b) k f H Q:=wk_if n m U O z A (fun h=>T (of_decide_eq_true h)) fun h=>E (of_decide_eq_false h)
theorem za(v:Value)(h:WO P G K sz ops os k (upd f d v) H Q)(E:dF f x=v:=by rfl)(A:(Op.assign x).operands.toList.all (bh G)=true:=by rfl)(z:Nat.ble (d+1) sz=true:=by rfl):WO P G K sz ops (⟨some d,.assign x,ty,pos,af,none⟩::os) k f H Q:=wa v E A z h
theorem zm(v:Value)(h:WO P G K sz ops os k (upd f d v) H Q)(E:dF f x=v:=by rfl)(A:(Op.move x).operands.toList.all (bh G)=true:=by rfl)(z:Nat.ble (d+1) sz=true:=by rfl):WO P G K sz ops (⟨some d,.move x,ty,pos,af,none⟩::os) k f H Q:=wm v E A z h
theorem zfm(v:Value)(h:WF2 P G K sz ops ((i,.v)::D) (i+1) os k (upd f d v) H Q)(E:dF f x=v:=by rfl)(A:(Op.move x).operands.toList.all (bh G)=true:=by rfl)(z:Nat.ble (d+1) sz=true:=by rfl):WF2 P G K sz ops D i (⟨some d,.move x,ty,pos,af,none⟩::os) k f H Q:=fm v E A z h
theorem zc{args:Array Operand}{z:Array TypeId}{g:FuncId}{fn:Func}{l:List Value}{R:Value->Heap->Prop}(hc:C P G K g l H R)(h: ∀v A,R v A->WO P G K sz ops os k (upd f d v) A Q)(T:P.funcs[g]?=some fn:=by rfl)(E:(fn.body.isSome&& !(fn.name== "runtime.NumGoroutine"))=true:=by rfl)(U:eP (dF f) args.toList=l:=by rfl)(V:(Op.call ⟨.value (.func g),args,z⟩).operands.toList.all (bh G)=true:=by rfl)(O:Nat.ble (d+1) sz=true:=by rfl):
  WO P G K sz ops (⟨some d,.call ⟨.value (.func g),args,z⟩,ty,pos,af,none⟩::os) k f H Q:=wo_call (bk T E U) V O hc h
theorem zp{s:TypeId}{b o n:Nat}(z:Nat)(h:WF2 P G K sz ops ((i,.v)::D) (i+1) os k (upd f d (.pointer (some ⟨b,z,none⟩))) H Q)(T:dF f x= .pointer (some ⟨b,o,none⟩):=by rfl)(A:gB P s (.pointer (some ⟨b,o,none⟩)) n=some (.pointer (some ⟨b,z,none⟩)):=by rfl)(O:(Op.fieldAddr s x n).operands.toList.all (bh G)=true:=by rfl)(E:Nat.ble (d+1) sz=true:=by rfl):WF2 P G K sz ops D i (⟨some d,.fieldAddr s x n,ty,pos,af,none⟩::os) k f H Q:=a6 (bQ T A) O E (did_v rfl) (fA _) h
theorem zl{t:TypeId}{b o A:Nat}(j:Nat){cs:List Value}{w:Value}(hc:HC ({H with log:=[]}:Heap).get b o cs)(h:WF2 P G K sz ops ((i,.l b)::D) (i+1) os k (upd f d w) H Q)(z:dF f x= .pointer (some ⟨b,A,none⟩):=by rfl)(E:fC P t=some false:=by rfl)(T:A=o+j:=by rfl)(Y:cs[j]?=some w:=by rfl)(V:(Op.load t x).operands.toList.all (bh G)=true:=by rfl)(O:Nat.ble (d+1) sz=true:=by rfl)(U:okB ops i (.l b) D=true:=by rfl):WF2 P G K sz ops D i (⟨some d,.load t x,ty,pos,af,none⟩::os) k f H Q:=a6 (bJ (H:={H with log:=[]}) z E hc T Y) V O (fB z) (kb U) h
theorem zx(α:Type) [Rp α]{t e:TypeId}{V:IntKind}{F:Fz}{l:List α}(j:Nat)(hs:Sv F ({H with log:=[]}:Heap).get v l)(h:WF2 P G K sz ops ((i,.v)::D) (i+1) os k (upd f d (.pointer (some ⟨sB v,sO v+j *Rp.sz α,none⟩))) H Q)(A:(j:Int)<l.length:=by first|(dsimp only;omega)|omega)(T:dF f x=v:=by rfl)(hi:dF f y= .int V (j:Int):=by rfl)(O:P.underlying t=some (.slice e):=by rfl)(U:ei P e=some (Rp.sz α):=by rfl)(E:(Op.indexAddr t x y).operands.toList.all (bh G)=true:=by rfl)(z:Nat.ble (d+1) sz=true:=by rfl):
  WF2 P G K sz ops D i (⟨some d,.indexAddr t x y,ty,pos,af,none⟩::os) k f H Q:=a6 (ap_idxV (H:={H with log:=[]}) T hi O U hs (by omega) A) E z (did_v rfl) (fA _) h
theorem zy(α:Type) [Rp α]{t e:TypeId}{Y:IntKind}{F:Fz}{l:List α}(j:Int)(hs:Sv F ({H with log:=[]}:Heap).get v l)(h:WF2 P G K sz ops ((i,.v)::D) (i+1) os k (upd f d (.pointer (some ⟨sB v,sO v+j.toNat *Rp.sz α,none⟩))) H Q)(z:0<=j:=by first|(dsimp only;omega)|omega)(E:j<l.length:=by first|(dsimp only;omega)|omega)(U:dF f x=v:=by rfl)(hi:dF f y= .int Y j:=by rfl)(T:P.underlying t=some (.slice e):=by rfl)(V:ei P e=some (Rp.sz α):=by rfl)(O:(Op.indexAddr t x y).operands.toList.all (bh G)=true:=by rfl)(A:Nat.ble (d+1) sz=true:=by rfl):
  WF2 P G K sz ops D i (⟨some d,.indexAddr t x y,ty,pos,af,none⟩::os) k f H Q:=a6 (ap_idxV (H:={H with log:=[]}) U hi T V hs z E) O A (did_v rfl) (fA _) h
end
end Go.R
end
noncomputable section
namespace Go.R
section
variable {B:Base} {F F':Fz} {H:Heap} {L R:List Fp}
end
structure Hd where
 a:Option Addr
 n:Nat
 k:Nat
instance :Inhabited Hd:=⟨⟨none,0,0⟩⟩
def Hd.v(h:Hd):Value:= .slice h.a h.n h.k
instance :Rp Hd where
 sz:=1
 rep _ cs h:=cs=[.slice h.a h.n h.k]
 len:=by rintro F cs x rfl;rfl
 one:=by rintro F cs x rfl;rfl
 mono:=by intro F F' cs x _ h;exact h
def FAM{ι β:Type}(Ch:Fz->ι->β->Fp->Prop)(F:Fz):List ι->List β->Fp->Prop
 | [],[],p=>p=[]
 |h::hs,x::xs,p=> ∃q r,p=q++r/\Ch F h x q/\FAM Ch F hs xs r
 |_,_,_=>False
section
variable {ι β:Type} {Ch:Fz->ι->β->Fp->Prop} {F F':Fz}
end
section
variable {α:Type} [Rp α] {F F':Fz}
theorem SR.nin{B:Base}{H:Heap}{L R:List Fp}{v:Value}{l:List α}{i j:Nat}{p:Fp}(h:SR F v l)(s:HS B F H L R)(hi:L[i]?=some p)(T:j<l.length):sB v∉p.map Prod.fst:=by
 rcases h with⟨_,rfl⟩|⟨b,Y,k,o,rfl,E,_⟩
 ·simp at T
 intro U;obtain⟨⟨z,V⟩,O,e⟩:=a0l.1 U;have A:z=b:=e;subst A;have:=(s.own p (.inl (a0h hi)) z V O).2.2;rw[E]at this;cases this
class Ri(α:Type) [Rp α]:Prop where
 ind: ∀{F F':Fz} {cs:List Value} {x:α},Rp.rep F cs x->Rp.rep F' cs x
instance :Ri Int:=⟨fun h=>h⟩
instance :Ri Bool:=⟨fun h=>h⟩
instance :Ri Str:=⟨fun h=>h⟩
instance :Ri U64:=⟨fun h=>h⟩
instance :Ri UInt8:=⟨fun h=>h⟩
instance :Ri Hd:=⟨fun h=>h⟩
end
class HasHd(ι:Type) where
 hd:ι->Hd
instance :HasHd Hd:=⟨fun h=>h⟩
def OH{ι α:Type} [HasHd ι] [Rp α](F:Fz)(h:ι)(l:List α)(p:Fp):Prop:=OS F (HasHd.hd h).v l p
abbrev SF{ι α:Type} [HasHd ι] [Rp α](F:Fz)(hs:List ι)(ls:List (List α))(p:Fp):Prop:=FAM (OH (ι:=ι) (α:=α)) F hs ls p
section
variable {ι α:Type} [HasHd ι] [Rp α] {F F':Fz} {B:Base} {H:Heap} {L R:List Fp} {hs:List ι} {ls:List (List α)} {p:Fp}
def SB(F:Fz)(hs:List ι)(ls:List (List α))(i:Nat)(E:Fp):Prop:= ∀F',F.le F'->∀h l' A,OH F' h l' A->∃z,z.Perm (E++A)/\SF F' (hs.set i h) (ls.set i l') z
end
section
variable {ι α:Type} [HasHd ι] [Inhabited ι] [Rp α] {F F':Fz} {B:Base} {H:Heap} {L R:List Fp} {hs:List ι} {ls:List (List α)} {p:Fp}
end
section
variable {α:Type} [Rp α] {F F':Fz} {B:Base} {H:Heap} {L R:List Fp}
end
end Go.R
end
noncomputable section
namespace Go.R
section
variable {α:Type} [Rp α] {P:Program} {ρ:Operand->Value} {d:Option Tmp} {ty:TypeId} {pos:String} {af:Array Edge} {gd:Option (Nat×Bool)} {B:Base} {F:Fz} {H:Heap} {L R:List Fp} {v:Value} {l:List α} {p:Fp}
def At(α:Type) [Rp α](v:Value)(n i:Nat)(a:Option Addr):Prop:=n<=i\/a=some ⟨sB v,sO v+i *Rp.sz α,none⟩
def cpL(l:List α)(i:Nat)(h:List α):List α:=l.take i++(h.take (l.length-i)++l.drop (i+min h.length (l.length-i)))
end
end Go.R
end
noncomputable section
namespace Go.R
def tb(a:Int)(i:Nat):Bool:=a.toNat.testBit i
abbrev u64r(a:Int):Prop:=0<=a/\a<18446744073709551616
def bitOf(s:List U64)(n:Nat):Bool:=tb (s.getD (n/64) default).n (n%64)
def uniB(s t:List U64)(k:Nat)(w:List U64):Prop:=w.length=s.length/\∀i,bitOf w i=(bitOf s i||(decide (i<64 *k)&&bitOf t i))
def lstK(s:List U64)(m:Nat):List Int:=List.map (fun i:Nat=>(i:Int)) ((List.range m).filter (bitOf s))
def lstV(s:List U64):List Int:=lstK s (64 *s.length)
end Go.R
end
noncomputable section
namespace Go.R
open Go.RowKit Go.WideShapes Go.ChangeShapes
section
variable {X:Type} {enc:TypeId×Value->X} {P:Program} {w:World} {μ:Emb} {H:Heap}
def EmC(enc:TypeId×Value->X)(P:Program)(w:World)(t:TypeId)(α:Type) [Rp α](B:DataW X->α->Prop):Prop:=
 ∀{μ:Emb} {H:Heap} {n:Nat} {cs:List Value} {x:DataW X×List MemPlace},Em w μ H->DataW.trod enc P w 0 (fun _=>true) true n t cs=some x->
  ∃μ' H' c y,Em w μ' H'/\EmLe μ H μ' H'/\LRel μ' c cs/\Rp.rep H'.get c (y:α)/\B x.1 y
def LB{α:Type}(B:DataW X->α->Prop)(d:DataW X)(l:List α):Prop:=
 l.length<=maxLen/\∃(D:Nat->DataW X) (rest:List (DataW X)),(d= .slice ((List.range l.length).map D) rest\/(d= .nil/\l=[]))/\∀i y,l[i]?=some y->B (D i) y
end
end Go.R
end
noncomputable section
namespace Go.R
open Go.ChangeShapes
section
variable {H:Type} {enc:TypeId×Value->H}
end
end Go.R
end
noncomputable section
set_option linter.unusedVariables false
namespace Go.R
structure Eqs(s s':St):Prop where
 t:cE s.tmps=cE s'.tmps
 n:s.size=s'.size
 h:s.heap=s'.heap
def CgS(f g:St->Option (Ex×St)):Prop:= ∀s z,Eqs s z->∀e r,f s=some (e,r)->∃h,g z=some (e,h)/\Eqs r h
section
variable {P:Program} {G:Nat} {cf:bY} {ops:Array Oper}
end
def tabT(args:List Value):List (Nat×Value)->Tr Value
 | []=>ep 0 args .nil
 |(i,v)::l=>lset (tabT args l) i v
def endsTrue(d:Nat)(r:Option (Ex×St)):Bool:=match r with
 |some (.normal,s)=>(match cE s.tmps d with| .bool b=>b|_=>false)
 |some (.ret,s)=>(match cE s.tmps d with| .bool b=>b|_=>false)
 |_=>false
end Go.R
end
noncomputable section
set_option linter.unusedVariables false
namespace Go.R
structure PtrT where
 b:Nat
 deriving Inhabited
instance :Rp PtrT where
 sz:=1
 rep F cs x:=cs=[.pointer (some ⟨x.b,0,none⟩)]
 len:=by rintro F cs x rfl;rfl
 one:=by rintro F cs x rfl;rfl
 mono:=by intro F F' cs x _ h;exact h
section
variable {B:Base} {F F':Fz} {H:Heap} {L R:List Fp}
end
section
variable {P:Program} {G:Nat} {K:bx} {sz:Nat} {Q:Ex->Fn->Heap->Prop} {ops:Array Oper} {D:List (Nat×ID)} {i:Nat} {os:List Oper} {k:List Fr} {f:Fn} {H:Heap}
end
section
variable {ι β:Type} {Ch:Fz->ι->β->Fp->Prop} {F:Fz}
end
end Go.R
end
noncomputable section
set_option linter.unusedVariables false
namespace Go.R
open Go
theorem RL.imp{α:Type}{i j:Rp α}{F:Fz}(h: ∀cs x,i.rep F cs x->j.rep F cs x): ∀{l:List α} {cs:List Value}, @RL α i F cs l-> @RL α j F cs l
 | [],_,k=>k
 |_::_,_,⟨c,r,e,h1,h2⟩=>⟨c,r,e,h _ _ h1,RL.imp h h2⟩
theorem SR.imp{α:Type}{i j:Rp α}{F:Fz}(z:i.sz=j.sz)(h: ∀cs x,i.rep F cs x->j.rep F cs x){v:Value}{l:List α}(k: @SR α i F v l): @SR α j F v l:=by
 rcases k with k|⟨b,off,n,o,h1,h2,cs,opn,ro,h3,h4,h5,h6,h7⟩
 ·exact .inl k
 exact .inr ⟨b,off,n,o,h1,h2,cs,opn,ro,h3,by rw[←z];exact h4,h5,by rw[←z];exact RL.imp h h6,by rw[←z];exact h7⟩
structure Lv(α:Type)(n:Nat) where
 r:Fz->List Value->α->Prop
 len: ∀{F:Fz} {cs:List Value} {x:α},r F cs x->cs.length=n
 one: ∀{F:Fz} {cs:List Value} {x:α},r F cs x->allL Value.oneCell' cs=true
 mono: ∀{F F':Fz} {cs:List Value} {x:α},F.le F'->r F cs x->r F' cs x
abbrev Lv.rp{α:Type}{n:Nat}(r:Lv α n):Rp α:=⟨n,r.r,r.len,r.one,r.mono⟩
abbrev rpOf{α:Type}{n:Nat}(r:Nat->Lv α n):Rp α:=⟨n,fun F cs x=> ∃d,(r d).r F cs x,fun⟨d,h⟩=>(r d).len h,fun⟨d,h⟩=>(r d).one h,fun hF ⟨d,h⟩=>⟨d,(r d).mono hF h⟩⟩
theorem RL.unif{α:Type}{n:Nat}{r:Nat->Lv α n}{F:Fz}(z: ∀d cs x,(r d).r F cs x->(r (d+1)).r F cs x): ∀{l:List α} {cs:List Value}, @RL α (rpOf r) F cs l->∃d,∀e,d<=e-> @RL α (r e).rp F cs l
 | [],_,h=>⟨0,fun _ _=>h⟩
 |x::l,_,⟨c,t,e,⟨d,h1⟩,h2⟩=>by
  obtain⟨A,E⟩:=RL.unif z h2;have up: ∀e,d<=e->(r e).r F c x:=fun e O=>by
   induction e with
   |zero=>
    have:d=0:=by omega
    subst this;exact h1
   |succ e ih=>
    rcases a0c e d with h|h
    ·have:d=e+1:=by omega
     subst this;exact h1
    exact z _ _ _ (ih h)
  exact⟨max d A,fun q T=>⟨c,t,e,up q (by omega),E q (by omega)⟩⟩
theorem SR.unif{α:Type}{n:Nat}{r:Nat->Lv α n}{F:Fz}(A: ∀d cs x,(r d).r F cs x->(r (d+1)).r F cs x){v:Value}{l:List α}(k: @SR α (rpOf r) F v l): ∃d,∀e,d<=e-> @SR α (r e).rp F v l:=by
 rcases k with k|⟨b,off,n,o,h1,h2,cs,opn,ro,h3,h4,h5,h6,h7⟩
 ·exact⟨0,fun _ _=> .inl k⟩
 obtain⟨d,h⟩:=RL.unif A h6;exact⟨d,fun e z=> .inr ⟨b,off,n,o,h1,h2,cs,opn,ro,h3,h4,h5,h e z,h7⟩⟩
end Go.R
end
namespace Go.R
abbrev iI(n:Int):Value:= .int .i64 n
abbrev pT(b o:Nat):Value:= .pointer (some ⟨b,o,none⟩)
abbrev fP(b:Nat)(l:List Value):Fp:=[(b,.cells l none false)]
abbrev sL(a:Option Addr)(n k:Nat):Value:= .slice a n k
abbrev aG(l:List Value):Value:= .agg ⟨l⟩
theorem fT{a b c:Fz}(h:a.le b)(k:b.le c):a.le c:=Fz.le_trans h k
theorem fR{a:Fz}:a.le a:=Fz.le_refl a
theorem wR{P:Program}{G:Nat}{K:bx}{sz:Nat}{Q:Ex->Fn->Heap->Prop}{f:Fn}{H:Heap}{c1:Code}{k k1:List Fr}(n:Nat){id:Nat}{ops:Array Oper}(hs:List (Nat×Hint))(lo hi:Nat)(ex:List Nat)(l:List (Nat×Value)){p:Prop}(E:p)(z:foc n .skip k=(c1,k1))(A: ∀g,WK P G K sz c1 k1 (jZ (hav lo hi ex g f) l) H Q)(h:fK P G K H sz ops f 0 ops.toList hs lo hi ex (eP Prod.fst l)=some (l,p):=by kernel_rfl):WK P G K sz (.region id ops false) k f H Q:=wr n hs lo hi ex l E h z A
theorem wRD{P:Program}{G:Nat}{K:bx}{sz:Nat}{Q:Ex->Fn->Heap->Prop}{f:Fn}{H:Heap}{c1:Code}{k k1:List Fr}(n:Nat){id:Nat}{ops:Array Oper}(hs:List (Nat×Hint))(lo hi:Nat)(ex:List Nat)(l:List (Nat×Value)){p:Prop}(E:p)(O:(iO ops&&P.follows .mixedOrders)=true)(z:foc n .skip k=(c1,k1))(A: ∀g,WK P G K sz c1 k1 (jZ (hav lo hi ex g f) l) H Q)(h:fK P G K {H with log:=[]} sz ops f 0 ops.toList hs lo hi ex (eP Prod.fst l)=some (l,p):=by kernel_rfl):WK P G K sz (.region id ops true) k f H Q:=wrD n hs lo hi ex l E O h z A
theorem wRo{P:Program}{G:Nat}{K:bx}{sz:Nat}{Q:Ex->Fn->Heap->Prop}{f:Fn}{H:Heap}{k:List Fr}(n i:Nat){ops:Array Oper}{os z:List Oper}(hs:List (Nat×Hint))(lo hi:Nat)(ex:List Nat)(l:List (Nat×Value)){p:Prop}(O:p)(A:gx os n=z)(E: ∀g,WO P G K sz ops z k (jZ (hav lo hi ex g f) l) H Q)(h:fK P G K H sz ops f i (gg os n) hs lo hi ex (eP Prod.fst l)=some (l,p):=by kernel_rfl):WO P G K sz ops os k f H Q:=wro n i hs lo hi ex l O h A E
theorem wT{P:Program}{G:Nat}{K:bx}{sz:Nat}{Q:Ex->Fn->Heap->Prop}{f:Fn}{H:Heap}{c1:Code}{k k1:List Fr}(n:Nat){id:Nat}{ops:Array Oper}(hs:List (Nat×Hint))(lo hi:Nat)(ex:List Nat)(l:List (Nat×Value))(z:foc n .skip k=(c1,k1))(A: ∀g,WK P G K sz c1 k1 (jZ (hav lo hi ex g f) l) H Q)(h:fK P G K H sz ops f 0 ops.toList hs lo hi ex (eP Prod.fst l)=some (l,True):=by kernel_rfl):WK P G K sz (.region id ops false) k f H Q:=wR n hs lo hi ex l trivial z A h
theorem wU{P:Program}{G:Nat}{K:bx}{sz:Nat}{Q:Ex->Fn->Heap->Prop}{f:Fn}{H:Heap}{c1:Code}{k k1:List Fr}(n:Nat){id:Nat}{ops:Array Oper}(hs:List (Nat×Hint))(lo hi:Nat)(ex:List Nat)(l:List (Nat×Value)){p:Prop}(E:p)(z:foc n .skip k=(c1,k1))(A: ∀g,WK P G K sz c1 k1 (jZ (hav lo hi ex g f) l) H Q)(h:fK P G K H sz ops f 0 ops.toList hs lo hi ex (eP Prod.fst l)=some (l,p/\True):=by kernel_rfl):WK P G K sz (.region id ops false) k f H Q:=wR n hs lo hi ex l ⟨E,trivial⟩ z A h
theorem wTo{P:Program}{G:Nat}{K:bx}{sz:Nat}{Q:Ex->Fn->Heap->Prop}{f:Fn}{H:Heap}{k:List Fr}(n i:Nat){ops:Array Oper}{os z:List Oper}(hs:List (Nat×Hint))(lo hi:Nat)(ex:List Nat)(l:List (Nat×Value))(A:gx os n=z)(E: ∀g,WO P G K sz ops z k (jZ (hav lo hi ex g f) l) H Q)(h:fK P G K H sz ops f i (gg os n) hs lo hi ex (eP Prod.fst l)=some (l,True):=by kernel_rfl):WO P G K sz ops os k f H Q:=wRo n i hs lo hi ex l trivial A E h
theorem wUo{P:Program}{G:Nat}{K:bx}{sz:Nat}{Q:Ex->Fn->Heap->Prop}{f:Fn}{H:Heap}{k:List Fr}(n i:Nat){ops:Array Oper}{os z:List Oper}(hs:List (Nat×Hint))(lo hi:Nat)(ex:List Nat)(l:List (Nat×Value)){p:Prop}(O:p)(A:gx os n=z)(E: ∀g,WO P G K sz ops z k (jZ (hav lo hi ex g f) l) H Q)(h:fK P G K H sz ops f i (gg os n) hs lo hi ex (eP Prod.fst l)=some (l,p/\True):=by kernel_rfl):WO P G K sz ops os k f H Q:=wRo n i hs lo hi ex l ⟨O,trivial⟩ A E h
end Go.R
