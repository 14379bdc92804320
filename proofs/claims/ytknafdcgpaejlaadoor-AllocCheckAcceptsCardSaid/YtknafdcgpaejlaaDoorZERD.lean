/-
 Symbolic runs by computation, arguments as data, the laid table, families of owned slices. No condition beyond those that each statement names.
-/
import Derived.Test.YtknafdcgpaejlaaDoorZERC
import Derived.Laws.Bits128
import Derived.OpenShut
import Derived.ReadAgain
import Derived.Test.YtknafdcgpaejlaaDoorZERB
import Derived.Deep.Slices
import Derived.JoinedCond
import Derived.LaidLaws
import Derived.KernelRfl
noncomputable section
namespace Go.R
section
variable {P:Program} {f:Fn} {H:Heap} {rs:List ResultVar} {l:List Value}
theorem rN:cg P f H []=some []:=rfl
theorem rT{t:Tmp}{v:Value}(hv:f t=v)(h:cg P f H rs=some l):cg P f H (.tmp t::rs)=some (v::l):=by unfold cg;rw[h,hv]
theorem rC{a:Tmp}{t:TypeId}{p:Addr}{v:Value}(ha:f a= .pointer (some p))(hv:H.loadV P t p=some v)(h:cg P f H rs=some l):cg P f H (.cell a t::rs)=some (v::l):=by unfold cg;rw[ha];simp only[hv,h]
theorem ldVN{t:TypeId}{b n:Nat}{cs:List Value}(ha:gc P t=some true)(hs:dw P t=some n)(hc:HC H.get b 0 cs)(hn:cs.length=n):H.loadV P t ⟨b,0,none⟩=some (.agg ⟨cs⟩):=by obtain⟨all,opn,ro,h1,h2⟩:=hc;unfold Heap.loadV;rw[ha];simp only[hs];unfold Heap.loadN;rw[a15]at h2;subst hn;simp only[h1,ce,ct,bT,a15,h2,a0Z,cond_true]
end
section
variable {α:Type} [Rp α] {P:Program} {ρ:Operand->Value} {d:Option Tmp} {ty:TypeId} {pos:String} {af:Array Edge} {gd:Option (Nat×Bool)} {B:Base} {F:Fz} {H:Heap} {L R:List Fp} {v:Value} {l:List α} {p:Fp}
theorem ap_boolNe{t yt:TypeId}{x y:Operand}{a b:Bool}(hx:ρ x= .bool a)(hy:ρ y= .bool b)(hrun: ∀a b:Bool,aB P (dR .neq t x y a b)=some (.value (.bool (a !=b)))):AP P ρ ⟨d,.binOp .neq t x y yt,ty,pos,af,gd⟩ H (.val (.bool (a !=b)),H):=by
 refine⟨?_⟩;show aBin P ρ _ .neq t (ρ x) y H=_;rw[hx];show bw P ρ _ H=_;unfold bw;have h1:((Op.binOp .neq t x y yt).operands.toList.all fun x=>gF (ρ x))=true:=by simp[Op.operands,hx,hy,gF,noA0]
 simp only[h1,cond_true];have h2:aB P (execOp ρ ⟨d,.binOp .neq t x y yt,ty,pos,af,gd⟩)=some (.value (.bool (a !=b))):=by rw[←hrun a b];unfold execOp dR;simp only[hx,hy]
 rw[h2];rfl
theorem OS.len'{F:Fz}{a:Option Addr}{n k:Nat}{l:List α}{p:Fp}(h:OS F (.slice a n k) l p):l.length=n:=by obtain⟨a',k',e⟩:=h.shape;injection e with _ e _;exact e.symm
theorem OS.norm{F:Fz}{a:Option Addr}{n k:Nat}{l:List α}{p:Fp}(h:OS F (.slice a n k) l p):OS F (.slice a l.length k) l p:=by rw[h.len'];exact h
theorem ap_ixG{x i:Operand}{t:TypeId}{cs:Array Value}{w r:Value}(hx:ρ x= .agg cs)(hi:ρ i=w)(h:aB P (Instr.index t (.agg cs) w)=some r):AP P ρ ⟨d,.index t x i,ty,pos,af,gd⟩ H (.val r,H):=by refine⟨?_⟩;show j5 P t (ρ x) (ρ i) H=_;rw[hx,hi];show lift P (Instr.index t (.agg cs) w) H=_;unfold lift;rw[h]
end
section
variable {α:Type} [Rp α] {P:Program} {ρ:Operand->Value} {d:Option Tmp} {ty:TypeId} {pos:String} {af:Array Edge} {gd:Option (Nat×Bool)} {B:Base} {F:Fz} {H:Heap} {L R:List Fp} {v:Value} {l:List α} {p:Fp} {t e:TypeId} {x:Operand} {i j q:Nat}
theorem rs_cutd{lo:Option Operand}(h:SR F v l)(hs:HS B F H L R)(hx:ρ x=v)(ht:P.underlying t=some (.slice e))(hz:dw P e=some (Rp.sz α))(h2:ca 0 (lo.map ρ)=some i)(hij:i<=l.length):
  ∃r:Rs,AP P ρ ⟨d,.slice t x lo none none,ty,pos,af,gd⟩ H (.val r.v,r.H)/\(∃a k,r.v= .slice a (l.drop i).length k/\r.H=H/\SR F (.slice a (l.drop i).length k) (l.drop i)):=by
 have:=rs_cut (d:=d) (ty:=ty) (pos:=pos) (af:=af) (gd:=gd) (hi:=none) h hs hx ht hz optN0 h2 hij (a09 _)
 rwa [a0h (a09 _)]at this
theorem rs_cutt{hi:Option Operand}(h:SR F v l)(hs:HS B F H L R)(hx:ρ x=v)(ht:P.underlying t=some (.slice e))(hz:dw P e=some (Rp.sz α))(h1:ca l.length (hi.map ρ)=some j)(hj:j<=l.length):
  ∃r:Rs,AP P ρ ⟨d,.slice t x none hi none,ty,pos,af,gd⟩ H (.val r.v,r.H)/\(∃a k,r.v= .slice a (l.take j).length k/\r.H=H/\SR F (.slice a (l.take j).length k) (l.take j)):=by
 have:=rs_cut (d:=d) (ty:=ty) (pos:=pos) (af:=af) (gd:=gd) (lo:=none) h hs hx ht hz h1 optN0 (a0C _) hj
 rwa [a15]at this
end
end Go.R
end
noncomputable section
namespace Go.R
theorem w64_in(n:Int):in64 (IntKind.i64.wrap n):=by rw[IntKind.wrap_i64];constructor<;>omega
theorem u64_eq(n:Int):IntKind.u64.wrap n=n%18446744073709551616:=rfl
abbrev bv(n:Int):BitVec 64:=BitVec.ofInt 64 n
theorem bv_toNat(a:Int):((bv a).toNat:Int)=a%18446744073709551616:=by rw[bv,BitVec.toNat_ofInt];omega
end Go.R
end
noncomputable section
namespace Go.R
def decD(d:Nat):UInt8:=UInt8.ofNat (48+d)
def dec(n:Nat):List UInt8:=if n<10 then [decD n] else dec (n/10)++[decD (n%10)]
def isDig(c:UInt8):Bool:=decide (48<=c.toNat)&&decide (c.toNat<=57)
def valA(n:Nat)(c:UInt8):Nat:=10*n+(c.toNat-48)
def val(l:List UInt8):Nat:=l.foldl valA 0
def okNum(t:List UInt8):Bool:=decide (1<=t.length)&&decide (t.length<=19)&&t.all isDig&&(t.headD 0 !=48||t.length==1)
def posS(s:List UInt8)(most:Nat):Option Nat:=if okNum s=true/\val s<=most then some (val s) else none
def parseS(s:List UInt8):Option Int:=
 if s.headD 0=45 then(match posS s.tail 9223372036854775808 with
  |some 0=>none
  |some n=>some (-(n:Int))
  |none=>none)
 else(match posS s 9223372036854775807 with
  |some n=>some (n:Int)
  |none=>none)
def textS(n:Int):List UInt8:=if n<0 then 45::dec n.natAbs else dec n.toNat
end Go.R
end
noncomputable section
namespace Go.R
open Go.RowKit Go.WideShapes Go.ChangeShapes
structure Em(w:World)(μ:Emb)(H:Heap):Prop where
 rel:WRel μ H w
 ro: ∀b o,H.get b=some o->o.rw=false
 wf:WF H
 dom: ∀b,H.next<=b->μ b=none
 log:H.log=[]
section
variable {w:World} {μ:Emb} {H:Heap}
theorem Em.lt(h:Em w μ H){b:Nat}{o:AObj}(hb:H.get b=some o):b<H.next:=by
 rcases a0j b H.next with h1|h1
 ·exact h1
 rw[h.wf b h1]at hb;cases hb
theorem Em.add(h:Em w μ H){c sh:Nat}{cs:List Value}(hc:c<w.heap.size)(hcells: ∀(i:Nat) v,cs[i]?=some v->∃v',w.cell? ⟨c,sh+i,none⟩=some v'/\VRel μ v v'):
  Em w (μ.set H.next ⟨c,sh,none,0⟩) (H.push (.cells cs none true)):=by
 have hext:=Emb.set_ext (μ:=μ) (b:=H.next) ⟨c,sh,none,0⟩ (h.dom _ (a09 _))
 have hget: ∀b o,(H.push (.cells cs none true)).get b=some o->(b=H.next/\o= .cells cs none true)\/(b≠H.next/\H.get b=some o):=by
  intro b o hb;by_cases e:b=H.next
  ·subst e;rw[Heap.get_push_same]at hb;exact .inl ⟨rfl,(Option.some.inj hb).symm⟩
  rw[Heap.get_push_ne _ _ (Ne.symm e)]at hb;exact .inr ⟨e,hb⟩
 have hro: ∀b o,(H.push (.cells cs none true)).get b=some o->o.rw=false:=by
  intro b o hb;rcases hget b o hb with⟨_,rfl⟩|⟨_,h1⟩
  ·rfl
  exact h.ro b o h1
 refine⟨⟨fun b l o hb ho=>?_,fun b1 b2 l1 l2 o1 o2 _ _ _ h3 _ h5 _=>?_⟩,hro,fun b hb=>?_,fun b hb=>?_,h.log⟩
 ·rcases hget b o ho with⟨rfl,rfl⟩|⟨hne,ho'⟩
  ·rw[Emb.set_same]at hb;obtain rfl:=Option.some.inj hb;refine⟨rfl,rfl,hc,fun i v hv=>?_⟩;obtain⟨v',h1,h2⟩:=hcells i v hv;exact⟨v',h1,h2.mono hext⟩
  rcases Emb.set_inv hb with⟨e,_⟩|⟨_,hb'⟩
  ·exact absurd e hne
  exact(h.rel.obj b l o hb' ho').keep hext (a09 _) (fun _=>rfl)
 ·rw[hro b1 o1 h3]at h5;cases h5
 ·have hb':H.next+1<=b:=hb;rw[Heap.get_push_ne _ _ (by omega)];exact h.wf b (by omega)
 have hb':H.next+1<=b:=hb
 unfold Emb.set
 rw[if_neg (by omega)];exact h.dom b (by omega)
theorem Em.hs(h:Em w μ H):HS (.of H []) H.get H [] []:=
 ⟨fun b o hb=>⟨hb,h.lt hb⟩,fun p hp=>by simp at hp,by simp,a09 _,fun b hb=> .inl hb,fun p hp=>by simp at hp⟩
end
structure EmLe(μ:Emb)(H:Heap)(μ':Emb)(H':Heap):Prop where
 emb: ∀b l,μ b=some l->μ' b=some l
 heap:Fz.le H.get H'.get
theorem EmLe.refl(μ:Emb)(H:Heap):EmLe μ H μ H:=⟨fun _ _ h=>h,fun _ _ h=>h⟩
theorem EmLe.add{w:World}{μ:Emb}{H:Heap}(h:Em w μ H)(l:Loc)(o:AObj):EmLe μ H (μ.set H.next l) (H.push o):=
 ⟨Emb.set_ext l (h.dom _ (a09 _)),fun b x hb=>by rw[Heap.get_push_ne _ _ (Nat.ne_of_gt (h.lt hb))];exact hb⟩
section
variable {X:Type} {enc:TypeId×Value->X} {P:Program} {w:World} {μ:Emb} {H:Heap}
theorem wf_in64{n:Int}(h:(Lit.int .i64 n).wf=true):in64 n:=by simp[Lit.wf,IntKind.min,IntKind.max,IntKind.signed,IntKind.bits]at h;exact⟨by omega,by omega⟩
theorem RL_ints{F:Fz}: ∀(l:List Int),(∀n∈l,in64 n)->RL F (l.map fun n=>Value.int .i64 n) l
 | [],_=>rfl
 |n::l,h=>⟨[.int .i64 n],l.map fun n=>Value.int .i64 n,rfl,⟨rfl,h n (by simp)⟩,RL_ints l fun m hm=>h m (by simp[hm])⟩
theorem em_ints{base:Nat}{t e:TypeId}{v:Value}{d:DataW X}{ps:List MemPlace}(h:Em w μ H)(ht:P.underlying t=some (.slice e))(he:P.underlying e=some (.int .i64))(hc:P.cellsOf e=1)(hval:Value.okWide P w .any base t v)
  (hd:DataW.Trod enc P w 0 (fun _=>true) true t v d ps):
  ∃μ' H' a k,∃l:List Int,Em w μ' H'/\EmLe μ H μ' H'/\VRel μ' (.slice a l.length k) v/\SR H'.get (.slice a l.length k) l/\(l.length<=maxLen)/\(∃rest,d= .slice (Go.ChangeShapes.lits .i64 l) rest\/d= .nil/\l=[]):=by
 obtain⟨a,len,cap,rfl⟩:=okWide_slice ht hval
 obtain⟨fuel,hf⟩:=hd
 rcases Go.ChangeShapes.open_ints ht he hc hf with⟨h1,hx⟩|⟨a',len',cap',zs,h1,_,hlc,hcm,hlen,hx,hcell,hwf⟩
 ·simp[Value.cells]at h1;obtain⟨rfl,rfl,rfl⟩:=h1;simp only[a03]at hx;exact⟨μ,H,none,0,[],h,.refl _ _,.atom _ rfl,.nil,a0C _,[],.inr ⟨hx.1,rfl⟩⟩
 simp[Value.cells]at h1
 obtain⟨rfl,rfl,rfl⟩:=h1
 have hsh:a'.spot=none/\a'.block<w.heap.size:=by
  have hv2:Cell.ok P w .any base t (.slice (some a') len cap):=by have:=hval;unfold Value.okWide at this;rw[ht]at this;simp only at this;unfold Cell.okWide at this;rw[ht]at this;exact this
  unfold Cell.ok at hv2;rw[ht]at hv2;obtain⟨_,_,_,hsp,row,cells,hs,_⟩:=hv2;refine⟨hsp,?_⟩;unfold World.shape? at hs;split at hs
  ·rename_i heq;exact(a0D.1 heq).1
  cases hs
 obtain⟨c,off,sp⟩:=a'
 obtain⟨rfl,hcl⟩:=hsh
 simp only[if_true]at hlen
 have hall: ∀n∈zs.take len,in64 n:=fun n hn=>wf_in64 (hwf n (a1r hn))
 have hl:(zs.take len).length=len:=by rw[a0q];omega
 have hA:=h.add (c:=c) (sh:=off) (cs:=(zs.take len).map fun n=>Value.int .i64 n) hcl (fun i v hv=>by
  rw[a1g]at hv;cases hq:(zs.take len)[i]? with
  |none=>rw[hq]at hv;cases hv
  |some n=>
   rw[hq]at hv
   obtain rfl:=Option.some.inj hv
   have hi:=(a0u.1 hq).1
   have hcq:=hcell i (by rw[hl]at hi;omega)
   have hn:zs.getD i 0=n:=by
    rw[a0y]at hq;split at hq
    ·rw[a01,hq];rfl
    cases hq
   refine⟨_,?_,.atom _ rfl⟩
   rw[hn]at hcq
   rw[←hcq]
   congr 1
   unfold Addr.add
   split
   ·rename_i h0;subst h0;rfl
   rfl)
 refine⟨_,_,some ⟨H.next,0,none⟩,cap,zs.take len,hA,.add h _ _,?_,?_,by rw[hl];omega,zs.drop len|>Go.ChangeShapes.lits .i64,.inl ?_⟩
 ·rw[hl];have:=VRel.sliceC (μ:=μ.set H.next ⟨c,off,none,0⟩) H.next 0 len cap ⟨c,off,none,0⟩ (Emb.set_same _ _ _) rfl;simpa using this
 ·refine .inr ⟨H.next,0,cap,_,rfl,Heap.get_push_same _ _,_,none,true,rfl,fun hx=>(by cases hx),(by rw[hl];exact hlc),?_,.inl rfl⟩;have e1:((zs.take len).map fun n=>Value.int .i64 n).length=(zs.take len).length*Rp.sz Int:=by rw[a1B];show _=_*1;omega
  rw[a15,←e1,a1d];exact RL_ints _ hall
 simp only[a03]at hx
 exact hx.1
end
section
variable {X:Type} {enc:TypeId×Value->X} {P:Program}
theorem hO{w w':World}{base:Nat}{spare:Nat->Bool}{held:Bool}: ∀{ts:List TypeId} {vs:List Value} {ds:List (DataW X)} {ps:List MemPlace},DataW.TrodAll enc P w base spare held ts vs ds ps->(∀p∈ps,w.sameAt w' p)->DataW.TrodAll enc P w' base spare held ts vs ds ps
 | [],[],[],_,h,_=>h
 |_::_,_::_,_::_,_,⟨p,q,⟨n,h1⟩,h2,e⟩,hs=>⟨p,q,⟨n,DataW.trod_carry n _ _ _ h1 fun x hx=>hs x (by rw[e];exact List.mem_append_left _ hx)⟩,hO h2 fun x hx=>hs x (by rw[e];exact List.mem_append_right _ hx),e⟩
theorem post_law{f:Func}{s:ChangeSpec}{apart fresh handsOn again:Bool}{W W':World}{args:Array Value}{ds gs:List (DataW X)}{before:List MemPlace}{tb:TypeId}
  (K:Kids P (· <P.types.size)) (full: ∀t e,t<P.types.size->P.underlying t=some (.slice e)->0<P.cellsOf e) (hpar: ∀t∈f.params.toList,t<P.types.size)
  (hW:DataW.Whole enc P f.params.toList s.vars apart W args.toList ds gs before) (hvar:s.vars=[]) (hres:f.resultTypes= #[tb]) (htb:P.underlying tb=some .bool)
  (hfn:s.fn X (ds++gs)={results:=[.lit (.bool true)],args:=ds}) (hb:Below W.heap.size W W'):s.post enc P f apart fresh handsOn again W args (.bool true) W':=by
 have hlt: ∀p∈before,p.block<W.heap.size:=fun p hp=>by simpa using hW.lt p hp
 have hW':=hW
 obtain⟨p,q,hA,hV,rfl,hfz,hnd⟩:=hW
 have hq:q=[]/\gs=[]:=by
  rw[hvar]at hV;cases gs with
  |nil=>exact⟨hV,rfl⟩
  |cons _ _=>exact absurd hV id
 obtain⟨rfl,rfl⟩:=hq
 refine lw (pa:=p) (pv:=[]) hW' (fun b sp hd=>?_) (fun sp hsp=>?_) (fun sp _=>?_) rfl hb ?_
 ·rw[hfn,hres];exact trodAll_cons_mk (shut_bool htb true) rfl
 ·rw[hfn];refine DataW.TrodAll.respare K full hpar (hO hA fun x hx=>hb.same (hlt x (by simpa using hx))) fun x hx=>hsp x (by simpa using hx)
 ·rw[hvar,hfn];rfl
 rw[hres]
 intro j t r h1 h2
 exact ok_one (f:=f) hres rfl (okWide_bool_mk htb true) j t r (by rw[hres];exact h1) (by rw[hres];exact h2)
end
end Go.R
end
noncomputable section
namespace Go.R
open Go
section
variable {P:Program} {d:Nat} {t:TypeId}
theorem eqI{k:IntKind}{a b:Int}(hu:P.underlying t=some (.int k)):aB P (Op.equalIn (d+1) t (.int k a) (.int k b))=some (a==b):=by simp[Op.equalIn,underlying,hu]
theorem eqB{a b:Bool}(hu:P.underlying t=some .bool):aB P (Op.equalIn (d+1) t (.bool a) (.bool b))=some (a==b):=by simp[Op.equalIn,underlying,hu]
structure EqF(P:Program)(d:Nat)(xs ys:Array Value)(f:Field)(b:Bool):Prop where
 named:f.name≠ "_"
 ok: ∃u v,aB P (part f.type xs f.offset)=some u/\aB P (part f.type ys f.offset)=some v/\aB P (Op.equalIn d f.type u v)=some b
inductive EqFs(P:Program)(d:Nat)(xs ys:Array Value):List Field->List Bool->Prop
 |nil:EqFs P d xs ys [] []
 |cons {f b fs bs}:EqF P d xs ys f b->EqFs P d xs ys fs bs->EqFs P d xs ys (f::fs) (b::bs)
def eqLoop(d:Nat)(xs ys:Array Value)(fs:List Field):Sem (Option Bool×Unit):=
 forIn fs ((none:Option Bool),()) fun f (_:Option Bool×Unit)=>
  if f.name≠ "_" then do
   if !(←Op.equalIn d f.type (←part f.type xs f.offset) (←part f.type ys f.offset)) then pure (ForInStep.done (some false,()))
   else pure (ForInStep.yield (none,()))
  else pure (ForInStep.yield (none,()))
theorem eq_loop{xs ys:Array Value}{fs:List Field}{bs:List Bool}(h:EqFs P d xs ys fs bs):
  aB P (eqLoop d xs ys fs)=some (if bs.all id=true then none else some false,()):=by
 induction h with
 |nil=>simp[eqLoop]
 | @cons f b fs bs hf _ ih=>
  obtain⟨hn,u,v,h1,h2,h3⟩:=hf
  unfold eqLoop at ih⊢
  rw[List.forIn_cons,if_pos hn]
  simp only[aN,h1,h2,h3,a0o]
  cases b
  ·simp
  simp only[a1y,a0K,if_false,bQ,a0o,ih]
  simp
theorem eq_struct{fs:Array Field}{xs ys:Array Value}{bs:List Bool}(hu:P.underlying t=some (.struct fs))(hs:P.stoodInHeld t=false)
  (h:EqFs P d xs ys fs.toList bs):aB P (Op.equalIn (d+1) t (.agg xs) (.agg ys))=some (bs.all id):=by
 simp only[Op.equalIn,underlying,aN,ed,a0o,hu,bQ,hs,a0K,if_false]
 rw[←Array.forIn_toList]
 have:=eq_loop h
 unfold eqLoop at this
 rw[this]
 cases bs.all id<;>rfl
end
section
variable {P:Program} {ρ:Operand->Value} {d:Option Tmp} {ty:TypeId} {pos:String} {af:Array Edge} {gd:Option (Nat×Bool)} {H:Heap}
theorem gP{cs:List Value}(h:cs.all noA0=true):gF (.agg ⟨cs⟩)=true:=h
theorem ap_agEq{t yt:TypeId}{x y:Operand}{xs ys:List Value}{fs:Array Field}{bs:List Bool}(hx:ρ x= .agg ⟨xs⟩)(hy:ρ y= .agg ⟨ys⟩)
  (hax:xs.all noA0=true) (hay:ys.all noA0=true)
  (hu:P.underlying t=some (.struct fs)) (hs:P.stoodInHeld t=false) (hg:P.eqGuardType P.depth t=false)
  (h:EqFs P 9999 ⟨xs⟩ ⟨ys⟩ fs.toList bs):AP P ρ ⟨d,.binOp .eql t x y yt,ty,pos,af,gd⟩ H (.val (.bool (bs.all id)),H):=by
 refine⟨?_⟩
 show aBin P ρ _ .eql t (ρ x) y H=_
 rw[hx]
 show bw P ρ _ H=_
 unfold bw
 have h1:((Op.binOp .eql t x y yt).operands.toList.all fun x=>gF (ρ x))=true:=by simp[Op.operands,hx,hy,gP hax,gP hay]
 simp only[h1,cond_true]
 have h2:aB P (execOp ρ ⟨d,.binOp .eql t x y yt,ty,pos,af,gd⟩)=some (.value (Value.bool (bs.all id))):=by
  unfold execOp;simp only[hx,hy,aN];have e1:aB P (eqGuard .eql t x y (.agg ⟨xs⟩) (.agg ⟨ys⟩))=some ():=by simp[eqGuard,hg]
  have e2:aB P (binOp .eql t (.agg ⟨xs⟩) (.agg ⟨ys⟩))=some (Value.bool (bs.all id)):=by show aB P (Op.equal t (.agg ⟨xs⟩) (.agg ⟨ys⟩)>>=fun b=>(Pure.pure (Value.bool b):Sem Value))=_;rw[aN,show Op.equal t (.agg ⟨xs⟩) (.agg ⟨ys⟩)=Op.equalIn (9999+1) t (.agg ⟨xs⟩) (.agg ⟨ys⟩) from rfl,eq_struct hu hs h];rfl
  simp only[e1,e2,a0o];rfl
 rw[h2];rfl
end
end Go.R
end
noncomputable section
namespace Go.R
open Go.RowKit
def tcell(n:Nat):AObj:= .cells [.slice (some ⟨1,0,none⟩) n n] none true
open Classical in
def KT(lim ex n:Nat)(cells:List Value):bN:=fun f args H=>match args with
 | []=>bif (Nat.ble f lim&&Nat.beq f ex) then(if H.get 0=some (tcell n)/\H.get 1=some (.cells cells none true) then some (.bool true) else none) else none
 |_=>none
theorem kt_ok{P:Program}{lim ex n fuel:Nat}{cells:List Value}(h:saysTrue (call P 1 noneKnown fuel ex [] (tabHeap n cells))=true)(hat:cells.all noA0=true)(hne:cells≠ [])(hn0:0<n:=by decide):KnownOK P 1 (KT lim ex n cells):=by
 intro f args H v hk;unfold KT at hk;split at hk
 ·cases hq:(Nat.ble f lim&&Nat.beq f ex) with
  |false=>rw[hq]at hk;cases hk
  |true=>
   rw[hq]at hk
   simp only[cond_true]at hk
   split at hk
   ·rename_i hT;obtain rfl:=Option.some.inj hk;obtain rfl:=a07 (Bool.and_eq_true_iff.1 hq).2;refine⟨rfl,rfl,fun μ cargs w hc hG hw=>?_⟩;obtain rfl:cargs= #[]:=by cases cargs;simp_all
    obtain⟨l0,hl0,hc0,hs0⟩:=hG 0 (Nat.zero_lt_succ _);obtain⟨_,_,_,h4⟩:=hw.obj 0 l0 _ hl0 hT.1;obtain⟨v',hv',hr⟩:=h4 0 _ rfl;obtain⟨l1,hl1,hor⟩:=hr.slice_inv;obtain⟨ho1,_,_,h5⟩:=hw.obj 1 l1 _ hl1 hT.2;have e1:v'= .slice (some ⟨l1.c,l1.sh+0,none⟩) n n:=by
     rcases hor with⟨_,e⟩|⟨e,o',k',hx,_⟩|⟨hz,_,_⟩
     rotate_right
     ·omega
     ·exact e
     rw[ho1]at hx;cases hx
    subst e1;rw[hc0,hs0]at hv';refine iW none_ok h hat (c:=l1.c) (o:=l1.sh+0) hv' hne fun i v hv=>?_
    obtain⟨v'',h6,h7⟩:=h5 i v hv;rw[h7.eq0 (a0w.1 hat v (a0k hv))]at h6;simpa using h6
   cases hk
 cases hk
theorem Em.tab{w:World}{n c o:Nat}{cells:List Value}(hat:cells.all noA0=true)(hne:cells≠ [])
  (h0:w.cell? ⟨0,0,none⟩=some (.slice (some ⟨c,o,none⟩) n n)) (h1: ∀i v,cells[i]?=some v->w.cell? ⟨c,o+i,none⟩=some v):
  ∃μ,Em w μ (tabHeap n cells)/\GRel μ 1:=by
 have hlt: ∀{a:Addr} {v:Value},w.cell? a=some v->a.block<w.heap.size:=by
  intro a v hv;unfold World.cell? at hv;split at hv
  ·rename_i heq;exact(a0D.1 heq).1
  cases hv
 let μ:Emb:=fun b=>if b=1 then some ⟨c,o,none,0⟩ else if b=0 then some ⟨0,0,none,0⟩ else none
 have hro: ∀b x,(tabHeap n cells).get b=some x->x.rw=false:=by
  intro b x hx;rw[cw]at hx;split at hx
  ·injection hx with hx;subst hx;rfl
  split at hx
  ·injection hx with hx;subst hx;rfl
  cases hx
 refine⟨μ,⟨⟨fun b l x hb hx=>?_,fun b1 b2 l1 l2 o1 o2 _ _ _ h3 _ h5 _=>?_⟩,hro,fun b hb=>?_,fun b hb=>?_,rfl⟩,fun g hg=>?_⟩
 ·rw[cw]at hx;by_cases e1:b=1
  ·subst e1;rw[if_pos rfl]at hx;injection hx with hx;subst hx;have hb':l=⟨c,o,none,0⟩:=(Option.some.inj hb).symm;subst hb';refine⟨rfl,rfl,?_,fun i v hv=>⟨v,h1 i v hv,.atom v (a0w.1 hat v (a0k hv))⟩⟩;cases cells with
   |nil=>exact absurd rfl hne
   |cons v r=>exact hlt (h1 0 v rfl)
  rw[if_neg e1]at hx;by_cases e0:b=0
  ·subst e0;rw[if_pos rfl]at hx;injection hx with hx;subst hx;have hb':l=⟨0,0,none,0⟩:=(Option.some.inj hb).symm;subst hb';refine⟨rfl,rfl,hlt h0,fun i v hv=>?_⟩;cases i with
   |zero=>
    simp only[a0X,a00]at hv;subst hv
    exact⟨_,h0,.sliceC 1 0 n n ⟨c,o,none,0⟩ rfl rfl⟩
   |succ i=>simp at hv
  rw[if_neg e0]at hx;cases hx
 ·rw[hro b1 o1 h3]at h5;cases h5
 ·have hb':2<=b:=hb;rw[cw,if_neg (by omega),if_neg (by omega)]
 ·have hb':2<=b:=hb;show(if b=1 then _ else if b=0 then _ else none)=none;rw[if_neg (by omega),if_neg (by omega)]
 have:g=0:=by omega
 subst this
 exact⟨⟨0,0,none,0⟩,rfl,rfl,rfl⟩
theorem walk_of_EmG{P:Program}{G:Nat}{K:bN}{w:World}{μ:Emb}{H:Heap}(hK:KnownOK P G K)(h:Em w μ H)(hG:GRel μ G){f:FuncId}{args:List Value}{cargs:Array Value}(ha:LRel μ args cargs.toList)(hc:C P G K f args H fun v _=>v= .bool true):
  Calls P f cargs w fun e w'=>e= .returned (.bool true)/\Below w.heap.size w w':=by
 obtain⟨n,v,H',h1,rfl⟩:=hc.out
 obtain⟨_,hcall⟩:=call_ok hK n f args H (.bool true) H' h1 h.wf
 refine(hcall μ w cargs ha hG h.rel (fun b hb _=>h.dom b hb)).mono ?_
 rintro e w' ⟨μ',v',rfl,hr,hp⟩
 rw[hr.eq2 rfl]
 exact⟨rfl,hp.os,hp.tape,hp.out,hp.grow,fun k hk=>hp.keep k hk fun b l x _ hx hrw=>by rw[h.ro b x hx]at hrw;cases hrw⟩
structure TB(n:Nat)(cells:List Value)(F:Fz):Prop where
 at0:F 0=some (tcell n)
 at1:F 1=some (.cells cells none true)
section
variable {n:Nat} {cells:List Value} {F F':Fz}
theorem TB.mono(h:TB n cells F)(hl:Fz.le F F'):TB n cells F':=⟨hl _ _ h.at0,hl _ _ h.at1⟩
theorem TB.start:TB n cells (tabHeap n cells).get:=⟨by rw[cw,if_neg (by omega),if_pos rfl];rfl,by rw[cw,if_pos rfl]⟩
theorem TB.known{lim ex:Nat}{H:Heap}(h:TB n cells H.get)(hl:Nat.ble ex lim=true):KT lim ex n cells ex [] H=some (.bool true):=by show(bif (Nat.ble ex lim&&Nat.beq ex ex) then _ else _)=_;rw[hl,a0Z,a1K,cond_true,if_pos ⟨h.at0,h.at1⟩]
theorem TB.heap{B:Base}{H:Heap}{L R:List Fp}(h:TB n cells F)(hs:HS B F H L R):TB n cells H.get:=⟨(hs.fz _ _ h.at0).1,(hs.fz _ _ h.at1).1⟩
theorem TB.hc{get:Nat->Option AObj}(h:TB n cells get):HC get 0 0 [.slice (some ⟨1,0,none⟩) n n]:=⟨_,none,true,h.at0,rfl⟩
theorem TB.sr{α:Type} [Rp α]{l:List α}(h:TB n cells F)(hl:l.length=n)(hr:RL F cells l):SR F (.slice (some ⟨1,0,none⟩) l.length n) l:=by refine .inr ⟨1,0,n,_,rfl,h.at1,_,none,true,rfl,fun hx=>(by cases hx),Nat.le_of_eq hl,?_,.inl rfl⟩;have e1:cells.length=l.length*Rp.sz α:=hr.length;rw[a15,←e1,a1d];exact hr
end
end Go.R
end
noncomputable section
set_option linter.unusedVariables false
set_option linter.unusedSimpArgs false
namespace Go.R
inductive Hint where
 |p
 |w
 |e (n:Int)
 |o (v:Value)
abbrev Ch:=List (Nat×Bool)
def bq:Bool->Bool->Bool
 |true,b=>b
 |false,b=> !b
theorem bq_eq{a b:Bool}(h:bq a b=true):a=b:=by cases a<;>cases b<;>first|rfl|cases h
def gl:List (Nat×Bool)->Nat->Option Bool
 | [],_=>none
 |(s,g)::G,t=>bif Nat.beq s t then some g else gl G t
def act(G:List (Nat×Bool)):Ch->Bool
 | []=>true
 |(s,w)::c=>(match gl G s with|some g=>bq g w|none=>false)&&act G c
def memC(s:Nat)(w:Bool):Ch->Bool
 | []=>false
 |(s',w')::c=>(Nat.beq s' s&&bq w' w)||memC s w c
def subC:Ch->Ch->Bool
 | [],_=>true
 |(s,w)::a,c=>memC s w c&&subC a c
def lk:List (Nat×Ch×Value)->Nat->Option (Ch×Value)
 | [],_=>none
 |(s,x)::m,t=>bif Nat.beq s t then some x else lk m t
structure SS where
 m:List (Nat×Ch×Value)
 G:List (Nat×Bool)
def SS.rd(S:SS)(f:Fn):Operand->Value
 | .tmp t=>match lk S.m t with
  |some x=>x.2
  |none=>f t
 | .const v=>v
 | .global g=> .pointer (some ⟨g,0,none⟩)
 | .func i=> .func (.func i) #[] #[]
def SS.can(S:SS)(c:Ch):Operand->Bool
 | .tmp t=>match lk S.m t with
  |some x=>subC x.1 c
  |none=>true
 |_=>true
def impl(G:List (Nat×Bool)):Ch->Prop->Prop
 | [],p=>p
 |(s,w)::c,p=>match gl G s with
  |some g=>g=w->impl G c p
  |none=>True
def jn(G:List (Nat×Bool))(s:Nat)(g:Bool):List (Nat×Bool):=match gl G s with
 |some _=>G
 |none=>(s,g)::G
def fB:Option Prop->Prop
 |none=>True
 |some p=>p
def andO(q:Option Prop)(p:Prop):Prop:=match q with
 |none=>p
 |some q=>q/\p
def rng(k:IntKind)(n:Int):Prop:=match k with
 | .i64=> -9223372036854775808<=n/\n<9223372036854775808
 | .u64=>0<=n/\n<18446744073709551616
 | .u8=>0<=n/\n<256
 |k=>k.wrap n=n
theorem rng_wrap{k:IntKind}{n:Int}(h:rng k n):k.wrap n=n:=by
 cases k with
 |i64=>exact w_i64 h
 |u64=>exact w_u64 h
 |u8=>exact w_u8 h
 |_=>exact h
def kq:IntKind->IntKind->Bool
 | .i64,.i64=>true
 | .u64,.u64=>true
 | .u8,.u8=>true
 | .i32,.i32=>true
 | .u32,.u32=>true
 |_,_=>false
theorem kq_eq{k k':IntKind}(h:kq k k'=true):k'=k:=by cases k<;>cases k'<;>first|rfl|cases h
abbrev VP:=Option (Value×Option Prop)
def ari(h:Hint)(k:IntKind)(n:Int):VP:=match h with
 | .w=>some (.int k (k.wrap n),none)
 | .e m=>some (.int k m,some (n=m/\rng k m))
 |_=>some (.int k n,some (rng k n))
def bi(h:Hint)(k:IntKind)(n:Int):VP:=match h with
 | .e m=>some (.int k m,some (n=m))
 |_=>some (.int k n,none)
def withP(p:Prop):VP->VP
 |some (v,none)=>some (v,some p)
 |some (v,some q)=>some (v,some (p/\q))
 |none=>none
def pint(h:Hint)(op:BinOp)(k:IntKind)(x y:Int):VP:=match op with
 | .add=>ari h k (x+y)
 | .sub=>ari h k (x-y)
 | .mul=>ari h k (x*y)
 | .quo=>withP (y≠0) (ari h k (x.tdiv y))
 | .rem=>withP (y≠0) (bi h k (x.tmod y))
 | .and=>bi h k (aT .and k x y)
 | .or=>bi h k (aT .or k x y)
 | .xor=>bi h k (aT .xor k x y)
 | .andNot=>bi h k (aT .andNot k x y)
 | .eql=>some (.bool (x==y),none)
 | .neq=>some (.bool (x !=y),none)
 | .lss=>some (.bool (decide (x<y)),none)
 | .leq=>some (.bool (decide (x<=y)),none)
 | .gtr=>some (.bool (decide (y<x)),none)
 | .geq=>some (.bool (decide (y<=x)),none)
 |_=>none
def AGB(P:Program)(op:BinOp)(t:TypeId)(a b v:Value):Prop:= ∀(ρ:Operand->Value) (x y:Operand) (yt:TypeId) (d:Option Tmp) (ty:TypeId) (pos:String) (af:Array Edge) (gd:Option (Nat×Bool)) (H:Heap),ρ x=a->ρ y=b->AP P ρ ⟨d,.binOp op t x y yt,ty,pos,af,gd⟩ H (.val v,H)
def isBT(P:Program)(t:TypeId):Bool:=match P.underlying t with
 |some .bool=> !P.eqGuardType P.depth t
 |_=>false
def pbin(P:Program)(h:Hint)(op:BinOp)(t:TypeId)(a b:Value):VP:=match a,b with
 | .int k x,.int k' y=>match op with
  | .shl=>withP (0<=y) (bi h k (k.wrap (x*2^(Nat.min y.toNat k.bits))))
  | .shr=>withP (0<=y) (bi h k (x.fdiv (2^(Nat.min y.toNat k.bits))))
  |op=>bif kq k k' then pint h op k x y else none
 | .string x,.string y=>match op with
  | .eql=>some (.bool (x.data.toList==y.data.toList),none)
  | .neq=>some (.bool (x.data.toList !=y.data.toList),none)
  | .lss=>some (.bool (Op.bytesLess x.data.toList y.data.toList),none)
  | .leq=>some (.bool (Op.bytesLess x.data.toList y.data.toList||x.data.toList==y.data.toList),none)
  | .add=>some (.string ⟨⟨x.data.toList++y.data.toList⟩⟩,some (x.data.toList.length+y.data.toList.length<=1099511627776))
  |_=>none
 | .bool x,.bool y=>bif isBT P t then match op with
  | .eql=>some (.bool (x==y),none)
  | .neq=>some (.bool (x !=y),none)
  |_=>none else none
 | .agg x,.agg y=>match h with
  | .o v=>some (v,some (AGB P op t (.agg x) (.agg y) v))
  |_=>none
 | .pointer a,.pointer b=>match nilEq P t (.pointer a) (.pointer b),op with
  |some r,.eql=>some (.bool r,none)
  |some r,.neq=>some (.bool (!r),none)
  |_,_=>none
 | .slice a n k,.slice b n' k'=>match nilEq P t (.slice a n k) (.slice b n' k'),op with
  |some r,.eql=>some (.bool r,none)
  |some r,.neq=>some (.bool (!r),none)
  |_,_=>none
 |_,_=>none
def pun(h:Hint)(op:UnOp)(v:Value):VP:=match op,v with
 | .not,.bool b=>some (.bool (!b),none)
 | .neg,.int k n=>ari h k (0-n)
 | .xor,.int k n=>bi h k (bits .xor k (if k.signed then-1 else k.max) n)
 |_,_=>none
def pconv(P:Program)(H:Heap)(h:Hint)(s t:TypeId)(v:Value):VP:=match v with
 | .int _ n=>match P.underlying s,P.underlying t with
  |some _,some (.int k')=>ari h k' n
  |_,_=>none
 | .slice a n k=>match h with
  | .o v=>some (v,some (fE P s t a n H=some v))
  |_=>none
 |_=>none
def ppick(g:Bool)(a b:Value):Option Value:=match a,b with
 | .bool x,.bool y=>some (.bool (bif g then x else y))
 | .int k x,.int k' y=>bif kq k k' then some (.int k (bif g then x else y)) else none
 | .string x,.string y=>some (.string ⟨⟨bif g then x.data.toList else y.data.toList⟩⟩)
 |_,_=>none
def LDv(P:Program)(H:Heap)(t:TypeId)(a w:Value):Prop:=dX P t a H=some (.val w,H)
def IX(v:Value)(j:Int):Prop:= ∃b o n k,v= .slice (some ⟨b,o,none⟩) n k/\0<=j/\j<n/\n<=k
def pidx(P:Program)(t:TypeId)(a i:Value):VP:=match a,i with
 | .string s,.int _ j=>match P.underlying t with
  |some .string=>some (.int .u8 ((s.data.toList.getD j.toNat 0).toNat:Int),some (0<=j/\j<s.data.toList.length))
  |_=>none
 | .agg x,w=>match aB P (Instr.index t (.agg x) w) with
  |some r=>some (r,none)
  |none=>none
 |_,_=>none
def pidxA(P:Program)(t:TypeId)(a i:Value):VP:=match a,i with
 | .slice x n k,.int _ j=>match P.underlying t with
  |some (.slice e)=>match dw P e with
   |some z=>some (.pointer (some ⟨sB (.slice x n k),sO (.slice x n k)+j.toNat*z,none⟩),some (IX (.slice x n k) j))
   |none=>none
  |_=>none
 | .pointer (some ⟨b,o,none⟩),.int _ j=>match P.underlying t with
  |some (.array n e)=>match dw P e with
   |some z=>some (.pointer (some ⟨b,o+j.toNat*z,none⟩),some (0<=j/\j<n))
   |none=>none
  |_=>none
 |_,_=>none
def pslice(P:Program)(H:Heap)(h:Hint)(t:TypeId)(x:Value)(lo hi:Option Value):VP:=match x with
 | .string s=>match P.underlying t with
  |some .string=>match lo,hi with
   |none,none=>some (.string s,none)
   |some (.int _ i),none=>some (.string ⟨⟨s.data.toList.drop i.toNat⟩⟩,some (0<=i/\i<=s.data.toList.length))
   |none,some (.int _ j)=>some (.string ⟨⟨s.data.toList.take j.toNat⟩⟩,some (0<=j/\j<=s.data.toList.length))
   |some (.int _ i),some (.int _ j)=>some (.string ⟨⟨(s.data.toList.drop i.toNat).take (j.toNat-i.toNat)⟩⟩,some (0<=i/\i<=j/\j<=s.data.toList.length))
   |_,_=>none
  |_=>none
 |x=>match h with
  | .o v=>some (v,some (bx P t x lo hi none H=some v))
  |_=>none
def plen(P:Program)(t:TypeId)(x:Value):VP:=match x with
 | .string s=>match P.underlying t with
  |some .string=>some (.int .i64 (s.data.toList.length:Int),none)
  |_=>none
 | .slice _ n _=>match P.underlying t with
  |some (.slice _)=>some (.int .i64 (n:Int),none)
  |_=>none
 |_=>none
def pmm(w:Bool)(a b:Value):VP:=match a,b with
 | .int k x,.int _ y=>some (.int k (bif w then(if y<x then y else x) else(if y>x then y else x)),none)
 |_,_=>none
def pcall(P:Program)(G0:Nat)(K:bN)(H:Heap)(h:Hint)(ρ:Operand->Value)(c:Call):VP:=match c.callee with
 | .builtin .len=>match c.argTypes.toList,c.args.toList with
  | [t],[x]=>plen P t (ρ x)
  |_,_=>none
 | .builtin .min=>match c.args.toList with
  | [x,y]=>pmm true (ρ x) (ρ y)
  |_=>none
 | .builtin .max=>match c.args.toList with
  | [x,y]=>pmm false (ρ x) (ρ y)
  |_=>none
 | .value f=>match fg P (ρ f) (eQ ρ c.args.toList),h with
  |some (.enter g args),.o v=>some (v,some (C P G0 K g args H fun v' H'=>v'=v/\H'=H))
  |_,_=>none
 |_=>none
def optV{α:Type}(r:Option α):Option (α×Option Prop):=match r with
 |some v=>some (v,none)
 |none=>none
def pop(P:Program)(G0:Nat)(K:bN)(H:Heap)(h:Hint)(ρ:Operand->Value)(op:Op):VP:=match op with
 | .move x=>some (ρ x,none)
 | .assign x=>some (ρ x,none)
 | .binOp op t x y _=>pbin P h op t (ρ x) (ρ y)
 | .unOp op _ x=>pun h op (ρ x)
 | .convert s t x=>pconv P H h s t (ρ x)
 | .load t a=>match h with
  | .o v=>some (v,some (LDv P H t (ρ a) v))
  |_=>none
 | .index t x i=>pidx P t (ρ x) (ρ i)
 | .indexAddr t x i=>pidxA P t (ρ x) (ρ i)
 | .field t x f=>optV (gE P t (ρ x) f)
 | .fieldAddr s x f=>optV (hN P s (ρ x) f)
 | .extract x i=>optV (fW (ρ x) i)
 | .build t parts=>match du P t with
  |some _=>optV (aB P (Instr.build t (parts.map fun p=>(p.1,ρ p.2))))
  |none=>none
 | .slice t x lo hi none=>pslice P H h t (ρ x) (lo.map ρ) (hi.map ρ)
 | .call c=>pcall P G0 K H h ρ c
 | .nilCheck x=>match ρ x with
  | .pointer (some a)=>some (.pointer (some a),none)
  | .func (.func f) a c=>some (.func (.func f) a c,none)
  |_=>none
 | .makeFunc fn first cap=>some (.func fn (first.map ρ) (cap.map ρ),none)
 |_=>none
def lJ(ops:Array Oper)(f:Fn)(S:SS):Option (Nat×Bool)->Option (Ch×List (Nat×Bool))
 |none=>some ([],S.G)
 |some (j,w)=>match (ops[j]?).bind (·.dst) with
  |some d=>match lk S.m d with
   |some (c,.bool g)=>some ((d,w)::c,jn S.G d g)
   |some _=>none
   |none=>match f d with
    | .bool g=>some ([(d,w)],jn S.G d g)
    |_=>none
  |none=>none
def putS(q:Option Prop)(c:Ch)(G:List (Nat×Bool))(m:List (Nat×Ch×Value))(d:Nat)(v:Value):Option (SS×Option Prop):=
 match gl G d with
 |some _=>none
 |none=>some (⟨(d,c,v)::m,G⟩,match q with
  |none=>none
  |some p=>some (impl G c p))
def stepS(P:Program)(G0:Nat)(K:bN)(H:Heap)(sz:Nat)(ops:Array Oper)(f:Fn)(S:SS)(h:Hint)(o:Oper):Option (SS×Option Prop):=
 match o.dst with
 |none=>none
 |some d=>
  bif Nat.ble (d+1) sz&&o.op.operands.toList.all (bB G0) then
   match lJ ops f S o.guard with
   |none=>none
   |some (c,G1)=>
    match o.op with
    | .pick (.tmp s) a b=>
     match lk S.m s with
     |some (cc,.bool g)=>
      bif subC cc c&&(S.can ((s,true)::c) a&&S.can ((s,false)::c) b) then
       match ppick g (S.rd f a) (S.rd f b) with
       |some v=>putS none c (jn G1 s g) S.m d v
       |none=>none
      else none
     |_=>none
    |op=>
     bif op.operands.toList.all (S.can c) then
      match pop P G0 K H h (S.rd f) op with
      |some (v,q)=>putS q c G1 S.m d v
      |none=>none
     else none
  else none
def hintAt:List (Nat×Hint)->Nat->Hint
 | [],_=> .p
 |(i,h)::l,j=>bif Nat.beq i j then h else hintAt l j
def rgL(P:Program)(G0:Nat)(K:bN)(H:Heap)(sz:Nat)(ops:Array Oper)(f:Fn)(hs:List (Nat×Hint)):Nat->List Oper->SS->Option (SS×Prop)
 |_,[],S=>some (S,True)
 |i,o::os,S=>match stepS P G0 K H sz ops f S (hintAt hs i) o with
  |none=>none
  |some (S1,q)=>match rgL P G0 K H sz ops f hs (i+1) os S1 with
   |none=>none
   |some (S2,p)=>some (S2,andO q p)
def fins(m:List (Nat×Ch×Value)):List Nat->Option (List (Nat×Value))
 | []=>some []
 |d::ds=>match lk m d,fins m ds with
  |some ([],v),some l=>some ((d,v)::l)
  |_,_=>none
def gj(P:Program)(G0:Nat)(K:bN)(H:Heap)(sz:Nat)(ops:Array Oper)(f:Fn)(i:Nat)(os:List Oper)(hs:List (Nat×Hint))(lo hi:Nat)(ex:List Nat)(ds:List Nat):Option (List (Nat×Value)×Prop):=
 match rgL P G0 K H sz ops f hs i os ⟨[],[]⟩ with
 |none=>none
 |some (S,p)=>bif S.m.all (fun e=>inR lo hi ex e.1) then
   match fins S.m ds with
   |some l=>some (l,p)
   |none=>none
  else none
end Go.R
end
noncomputable section
namespace Go.R
section
variable {P:Program} {G0:Nat} {K:bN} {H:Heap} {ρ:Operand->Value} {d:Option Tmp} {ty:TypeId} {pos:String} {af:Array Edge} {gd:Option (Nat×Bool)} {v:Value} {q:Option Prop} {hi:Hint}
theorem kV{k:IntKind}{n:Int}(h:ari hi k n=some (v,q))(hq:fB q):v= .int k (k.wrap n):=by
 unfold ari at h;split at h
 ·simp only[a00,a03]at h;exact h.1.symm
 ·simp only[a00,a03]at h;obtain⟨rfl,rfl⟩:=h;obtain⟨rfl,h2⟩:=hq;rw[rng_wrap h2]
 simp only[a00,a03]at h;obtain⟨rfl,rfl⟩:=h;rw[rng_wrap hq]
theorem bi_ok{k:IntKind}{n:Int}(h:bi hi k n=some (v,q))(hq:fB q):v= .int k n:=by
 unfold bi at h;split at h
 ·simp only[a00,a03]at h;obtain⟨rfl,rfl⟩:=h;have hq':n=_:=hq;rw[hq']
 simp only[a00,a03]at h;exact h.1.symm
theorem i5{p:Prop}{r:VP}(h:withP p r=some (v,q))(hq:fB q):p/\∃q',r=some (v,q')/\fB q':=by
 match r,h with
 |some (v',none),h=>
  simp only[withP,a00,a03]at h
  obtain⟨rfl,rfl⟩:=h
  exact⟨hq,none,rfl,trivial⟩
 |some (v',some p'),h=>
  simp only[withP,a00,a03]at h
  obtain⟨rfl,rfl⟩:=h
  exact⟨hq.1,some p',rfl,hq.2⟩
 |none,h=>simp[withP]at h
theorem beq0{b:Int}(hb:b≠0):(b==0)=false:=by simpa using hb
variable {x y:Operand} {t yt:TypeId}
theorem pint_ok{op:BinOp}{k:IntKind}{a b:Int}(hx:ρ x= .int k a)(hy:ρ y= .int k b)(h:pint hi op k a b=some (v,q))(hq:fB q):
  AP P ρ ⟨d,.binOp op t x y yt,ty,pos,af,gd⟩ H (.val v,H):=by
 have go: ∀{v':Value},jO op=false->kF op k a b=some v'->AP P ρ ⟨d,.binOp op t x y yt,ty,pos,af,gd⟩ H (.val v',H):=by intro v' hs hv;exact iQ hx hy (by rw[hs,ej];exact hv)
 cases op with
 |add=>rw[kV (n:=a+b) h hq];exact go rfl rfl
 |sub=>rw[kV (n:=a-b) h hq];exact go rfl rfl
 |mul=>rw[kV (n:=a*b) h hq];exact go rfl rfl
 |quo=>
  obtain⟨h1,q',h2,h3⟩:=i5 (p:=b≠0) (r:=ari hi k (a.tdiv b)) h hq
  rw[kV h2 h3]
  exact go rfl (by show(bif b==0 then none else some (Value.int k (k.wrap (a.tdiv b))))=_;rw[beq0 h1];rfl)
 |rem=>
  obtain⟨h1,q',h2,h3⟩:=i5 (p:=b≠0) (r:=bi hi k (a.tmod b)) h hq
  rw[bi_ok h2 h3]
  exact go rfl (by show(bif b==0 then none else some (Value.int k (a.tmod b)))=_;rw[beq0 h1];rfl)
 |and=>rw[bi_ok (n:=aT .and k a b) h hq];exact go rfl rfl
 |or=>rw[bi_ok (n:=aT .or k a b) h hq];exact go rfl rfl
 |xor=>rw[bi_ok (n:=aT .xor k a b) h hq];exact go rfl rfl
 |andNot=>rw[bi_ok (n:=aT .andNot k a b) h hq];exact go rfl rfl
 |shl=>cases h
 |shr=>cases h
 |_=>
  simp only[pint,a00,a03]at h
  obtain⟨rfl,_⟩:=h
  exact go rfl rfl
theorem bool_run{a b:Bool}(h:isBT P t=true):aB P (dR .eql t x y a b)=some (.value (.bool (a==b)))/\aB P (dR .neq t x y a b)=some (.value (.bool (a !=b))):=by
 unfold isBT at h;split at h
 ·rename_i hu;have hg:P.eqGuardType P.depth t=false:=by simpa using h
  have e1:aB P (eqGuard .eql t x y (.bool a) (.bool b))=some ():=by simp[eqGuard]
  have e2:aB P (eqGuard .neq t x y (.bool a) (.bool b))=some ():=by simp[eqGuard]
  have e3:aB P (Op.equal t (.bool a) (.bool b))=some (a==b):=eqB (d:=9999) hu;constructor
  ·unfold dR;simp only[aN,e1,a0o];have:aB P (binOp .eql t (.bool a) (.bool b))=some (Value.bool (a==b)):=by show aB P (Op.equal t (.bool a) (.bool b)>>=fun b=>(Pure.pure (Value.bool b):Sem Value))=_;rw[aN,e3];rfl
   rw[this];rfl
  unfold dR;simp only[aN,e2,a0o];have:aB P (binOp .neq t (.bool a) (.bool b))=some (Value.bool (a !=b)):=by show aB P (Op.equal t (.bool a) (.bool b)>>=fun b=>(Pure.pure (Value.bool (!b)):Sem Value))=_;rw[aN,e3];rfl
  rw[this];rfl
 cases h
theorem pbin_ok{op:BinOp}{a b:Value}(hx:ρ x=a)(hy:ρ y=b)(h:pbin P hi op t a b=some (v,q))(hq:fB q):
  AP P ρ ⟨d,.binOp op t x y yt,ty,pos,af,gd⟩ H (.val v,H):=by
 have nilc: ∀(a b:Value) (r:Bool),ρ x=a->ρ y=b->(∃p,a= .pointer p)\/(∃p n k,a= .slice p n k)->nilEq P t a b=some r->(op= .eql->v= .bool r)->(op= .neq->v= .bool (!r))->(op= .eql\/op= .neq)->
   AP P ρ ⟨d,.binOp op t x y yt,ty,pos,af,gd⟩ H (.val v,H):=by
  intro a b r hx hy ha hr h1 h2 h3
  refine⟨?_⟩
  show aBin P ρ _ op t (ρ x) y H=_
  have:aBin P ρ ⟨d,.binOp op t x y yt,ty,pos,af,gd⟩ op t (ρ x) y H=nilBin op (nilEq P t a b) H:=by rw[hx];rcases ha with⟨p,rfl⟩|⟨p,n,k,rfl⟩<;>(rw[←hy];rfl)
  rw[this,hr]
  rcases h3 with rfl|rfl
  ·rw[h1 rfl];rfl
  rw[h2 rfl];rfl
 unfold pbin at h
 split at h
 ·--integers
  split at h
  ·obtain⟨h1,q',h2,h3⟩:=i5 h hq;rw[bi_ok h2 h3];exact ap_shl hx hy h1
  ·obtain⟨h1,q',h2,h3⟩:=i5 h hq;rw[bi_ok h2 h3];exact ap_shr hx hy h1
  rename_i k a k' b _ _ _;cases hk:kq k k' with
  |false=>rw[hk]at h;cases h
  |true=>
   rw[hk]at h
   have:=kq_eq hk;subst this
   exact pint_ok hx hy h hq
 ·split at h<;>simp only[a00,a03,reduceCtorEq]at h
  ·obtain⟨rfl,_⟩:=h;exact ap_eqS hx hy
  ·obtain⟨rfl,_⟩:=h;exact ap_neS hx hy
  ·obtain⟨rfl,_⟩:=h;exact ap_ltS hx hy
  ·obtain⟨rfl,_⟩:=h;exact ap_leS hx hy
  obtain⟨rfl,rfl⟩:=h;exact ap_addS hx hy hq
 ·cases hbt:isBT P t with
  |false=>rw[hbt]at h;cases h
  |true=>
   rw[hbt]at h
   simp only[cond_true]at h
   split at h<;>simp only[a00,a03,reduceCtorEq]at h
   ·obtain⟨rfl,_⟩:=h;exact ap_boolEq hx hy (fun a b=>(bool_run hbt).1)
   obtain⟨rfl,_⟩:=h;exact ap_boolNe hx hy (fun a b=>(bool_run hbt).2)
 ·split at h<;>simp only[a00,a03,reduceCtorEq]at h;obtain⟨rfl,rfl⟩:=h;exact hq ρ x y yt d ty pos af gd H hx hy
 ·split at h<;>simp only[a00,a03,reduceCtorEq]at h
  ·rename_i hr;obtain⟨rfl,_⟩:=h;exact nilc _ _ _ hx hy (.inl ⟨_,rfl⟩) hr (fun _=>rfl) (fun e=>by cases e) (.inl rfl)
  rename_i hr;obtain⟨rfl,_⟩:=h;exact nilc _ _ _ hx hy (.inl ⟨_,rfl⟩) hr (fun e=>by cases e) (fun _=>rfl) (.inr rfl)
 ·split at h<;>simp only[a00,a03,reduceCtorEq]at h
  ·rename_i hr;obtain⟨rfl,_⟩:=h;exact nilc _ _ _ hx hy (.inr ⟨_,_,_,rfl⟩) hr (fun _=>rfl) (fun e=>by cases e) (.inl rfl)
  rename_i hr;obtain⟨rfl,_⟩:=h;exact nilc _ _ _ hx hy (.inr ⟨_,_,_,rfl⟩) hr (fun e=>by cases e) (fun _=>rfl) (.inr rfl)
 cases h
theorem pun_ok{op:UnOp}{a:Value}(hx:ρ x=a)(h:pun hi op a=some (v,q))(hq:fB q):AP P ρ ⟨d,.unOp op t x,ty,pos,af,gd⟩ H (.val v,H):=by
 unfold pun at h;split at h
 ·simp only[a00,a03]at h;obtain⟨rfl,_⟩:=h;exact ap_not hx
 ·rw[kV h hq];exact ap_neg hx
 ·rw[bi_ok h hq];exact ap_cpl hx
 cases h
theorem pconv_ok{s:TypeId}{a:Value}(hx:ρ x=a)(h:pconv P H hi s t a=some (v,q))(hq:fB q):AP P ρ ⟨d,.convert s t x,ty,pos,af,gd⟩ H (.val v,H):=by
 unfold pconv at h;split at h
 ·split at h
  ·rename_i h1 h2;rw[kV h hq];exact ap_conv hx h1 h2
  cases h
 ·split at h
  ·simp only[a00,a03]at h;obtain⟨rfl,rfl⟩:=h;refine⟨?_⟩;show ff P ρ _ s t (ρ x) H=_;rw[hx];show ovl (fE P s t _ _ H) H=_;have hq':fE P s t _ _ H=_:=hq;rw[hq'];rfl
  cases h
 cases h
theorem ppick_ok{g:Bool}{a b v:Value}(h:ppick g a b=some v):v=bif g then a else b:=by
 unfold ppick at h;split at h
 ·simp only[a00]at h;subst h;cases g<;>rfl
 ·rename_i k x k' y;cases hk:kq k k' with
  |false=>rw[hk]at h;cases h
  |true=>
   rw[hk]at h
   have:=kq_eq hk;subst this
   simp only[cond_true,a00]at h;subst h;cases g<;>rfl
 ·simp only[a00]at h;subst h;cases g<;>rfl
 cases h
theorem pidx_ok{i:Operand}{a b:Value}(hx:ρ x=a)(hi':ρ i=b)(h:pidx P t a b=some (v,q))(hq:fB q):AP P ρ ⟨d,.index t x i,ty,pos,af,gd⟩ H (.val v,H):=by
 unfold pidx at h;split at h
 ·rename_i s _ j;split at h
  ·rename_i h1;simp only[a00,a03]at h;obtain⟨rfl,rfl⟩:=h;obtain⟨q1,q2⟩:=hq;obtain⟨⟨s⟩⟩:=s;have q3:j<(s.length:Int):=q2;exact ap_idxS (s:=s) hx hi' h1 q1 (aM (by omega))
  cases h
 ·split at h
  ·rename_i h1;simp only[a00,a03]at h;obtain⟨rfl,rfl⟩:=h;exact ap_ixG hx hi' h1
  cases h
 cases h
theorem pidxA_ok{i:Operand}{a b:Value}(hx:ρ x=a)(hi':ρ i=b)(h:pidxA P t a b=some (v,q))(hq:fB q):AP P ρ ⟨d,.indexAddr t x i,ty,pos,af,gd⟩ H (.val v,H):=by
 unfold pidxA at h;split at h
 ·split at h
  ·rename_i h1;split at h
   ·rename_i h2;simp only[a00,a03]at h;obtain⟨rfl,rfl⟩:=h;obtain⟨b,o,n,k,e,q1,q2,q3⟩:=hq;cases e
    exact iR hx hi' h1 h2 q1 q2 q3
   cases h
  cases h
 ·split at h
  ·rename_i h1;split at h
   ·rename_i h2;simp only[a00,a03]at h;obtain⟨rfl,rfl⟩:=h;obtain⟨q1,q2⟩:=hq;refine⟨?_⟩;rename_i kk j n e z _;obtain⟨m,rfl⟩:=a16 q1;show ovl (cW P t (ρ x) (ρ i)) H=_;rw[hx,hi'];unfold cW;rw[h1];have h3:Nat.ble (m+1) n=true:=a0v (by omega);show ovl (match dw P e with|some sz=>bif Nat.ble (m+1) n then some (.pointer (some ⟨_,_+m*sz,none⟩)) else none|none=>none) H=_;rw[h2];simp only[h3,cond_true];rfl
   cases h
  cases h
 cases h
theorem sl_str{lo hi:Option Operand}{s:ByteArray}{i j:Nat}(hx:ρ x= .string s)(ht:P.underlying t=some .string)(h1:ca s.data.toList.length (hi.map ρ)=some j)(h2:ca 0 (lo.map ρ)=some i)(hij:i<=j)(hj:j<=s.data.toList.length):
  AP P ρ ⟨d,.slice t x lo hi none,ty,pos,af,gd⟩ H (.val (.string ⟨⟨(s.data.toList.drop i).take (j-i)⟩⟩),H):=by
 obtain⟨⟨s⟩⟩:=s
 exact ap_slS hx ht h1 h2 hij hj
theorem pslice_ok{lo hi2:Option Operand}{a:Value}(hx:ρ x=a)(h:pslice P H hi t a (lo.map ρ) (hi2.map ρ)=some (v,q))(hq:fB q):AP P ρ ⟨d,.slice t x lo hi2 none,ty,pos,af,gd⟩ H (.val v,H):=by
 unfold pslice at h;split at h
 ·rename_i s;split at h
  ·rename_i h1;split at h
   ·rename_i e1 e2;simp only[a00,a03]at h;obtain⟨rfl,rfl⟩:=h;have:=sl_str (d:=d) (ty:=ty) (pos:=pos) (af:=af) (gd:=gd) (H:=H) (lo:=lo) (hi:=hi2) (i:=0) (j:=s.data.toList.length) hx h1 (by rw[e2];rfl) (by rw[e1];rfl) (a0C _) (a09 _);rw[a15,Nat.sub_zero,a1d]at this;exact this
   ·rename_i k i e1 e2;simp only[a00,a03]at h;obtain⟨rfl,rfl⟩:=h;obtain⟨q1,q2⟩:=hq;have:=sl_str (d:=d) (ty:=ty) (pos:=pos) (af:=af) (gd:=gd) (H:=H) (lo:=lo) (hi:=hi2) (i:=i.toNat) (j:=s.data.toList.length) hx h1 (by rw[e2];rfl) (by rw[e1];exact optN q1) (by omega) (a09 _);rw[a0h (by rw[a0H];omega)]at this;exact this
   ·rename_i k j e1 e2;simp only[a00,a03]at h;obtain⟨rfl,rfl⟩:=h;obtain⟨q1,q2⟩:=hq;have:=sl_str (d:=d) (ty:=ty) (pos:=pos) (af:=af) (gd:=gd) (H:=H) (lo:=lo) (hi:=hi2) (i:=0) (j:=j.toNat) hx h1 (by rw[e2];exact optN q1) (by rw[e1];rfl) (a0C _) (by omega);simpa using this
   ·rename_i k i k' j e1 e2;simp only[a00,a03]at h;obtain⟨rfl,rfl⟩:=h;obtain⟨q1,q2,q3⟩:=hq;exact sl_str (lo:=lo) (hi:=hi2) (i:=i.toNat) (j:=j.toNat) hx h1 (by rw[e2];exact optN (by omega)) (by rw[e1];exact optN q1) (by omega) (by omega)
   cases h
  cases h
 split at h
 ·simp only[a00,a03]at h;obtain⟨rfl,rfl⟩:=h;refine⟨?_⟩;show ovl (bx P t (ρ x) (lo.map ρ) (hi2.map ρ) (Option.map ρ none) H) H=_;have hq':bx P t _ (lo.map ρ) (hi2.map ρ) none H=_:=hq;rw[hx,a1V,hq'];rfl
 cases h
theorem plen_ok{a:Value}(hx:ρ x=a)(h:plen P t a=some (v,q)):AP P ρ ⟨d,.call ⟨.builtin .len, #[x], #[t]⟩,ty,pos,af,gd⟩ H (.val v,H):=by
 unfold plen at h;split at h
 ·rename_i s;split at h
  ·rename_i h1;simp only[a00,a03]at h;obtain⟨rfl,rfl⟩:=h;obtain⟨⟨s⟩⟩:=s;exact ap_lenS (s:=s) hx h1
  cases h
 ·split at h
  ·rename_i h1;simp only[a00,a03]at h;obtain⟨rfl,rfl⟩:=h;refine⟨?_⟩;show ovl (aLen P t (ρ x) H) H=_;rw[hx];unfold aLen;rw[h1];rfl
  cases h
 cases h
inductive PRes(P:Program)(G0:Nat)(K:bN)(ρ:Operand->Value)(o:Oper)(H:Heap)(v:Value):Prop where
 |val (h:AP P ρ o H (.val v,H))
 |call (g:FuncId) (args:List Value) (h:AP P ρ o H (.enter g args,H)) (hk:eI o.op=true) (hc:C P G0 K g args H fun v' H'=>v'=v/\H'=H)
theorem kA{ρ ρ':Operand->Value}: ∀{l:List Operand},(∀x,x∈l->ρ x=ρ' x)->eQ ρ l=eQ ρ' l
 | [],_=>rfl
 |x::l,h=>by show ρ x::eQ ρ l=ρ' x::eQ ρ' l;rw[h x (by simp),kA fun y hy=>h y (by simp[hy])]
theorem pmm_ok{w:Bool}{y:Operand}{ats:Array TypeId}{a b:Value}(hx:ρ x=a)(hy:ρ y=b)(h:pmm w a b=some (v,q)):AP P ρ ⟨d,.call ⟨.builtin (bif w then .min else .max), #[x,y],ats⟩,ty,pos,af,gd⟩ H (.val v,H):=by
 unfold pmm at h;split at h
 ·rename_i k n k' m;simp only[a00,a03]at h;obtain⟨rfl,rfl⟩:=h;have h1:([ρ x,ρ y].all fun z=>gF z)=true:=by simp[hx,hy,gF,noA0]
  cases w with
  |true=>
   refine⟨?_⟩
   show bw P ρ ⟨d,.call ⟨.builtin .min, #[x,y],ats⟩,ty,pos,af,gd⟩ H=_
   unfold bw
   have h3:((Op.call ⟨.builtin .min, #[x,y],ats⟩).operands.toList.all fun x=>gF (ρ x))=true:=by simp[Op.operands,Call.operands,hx,hy,gF,noA0]
   simp only[h3,cond_true]
   have h2:aB P (execOp ρ ⟨d,.call ⟨.builtin .min, #[x,y],ats⟩,ty,pos,af,gd⟩)=some (.value (.int k (if m<n then m else n))):=by unfold execOp;simp[resolve,invoke,builtin,Builtin.min_,Builtin.min2,hx,hy]
   rw[h2];rfl
  |false=>
   refine⟨?_⟩
   show bw P ρ ⟨d,.call ⟨.builtin .max, #[x,y],ats⟩,ty,pos,af,gd⟩ H=_
   unfold bw
   have h3:((Op.call ⟨.builtin .max, #[x,y],ats⟩).operands.toList.all fun x=>gF (ρ x))=true:=by simp[Op.operands,Call.operands,hx,hy,gF,noA0]
   simp only[h3,cond_true]
   have h2:aB P (execOp ρ ⟨d,.call ⟨.builtin .max, #[x,y],ats⟩,ty,pos,af,gd⟩)=some (.value (.int k (if m>n then m else n))):=by unfold execOp;simp[resolve,invoke,builtin,Builtin.max_,Builtin.max2,hx,hy]
   rw[h2];rfl
 cases h
theorem pcall_ok{ρ ρ':Operand->Value}{c:Call}(hρ: ∀x,x∈(Op.call c).operands.toList->ρ x=ρ' x)(h:pcall P G0 K H hi ρ' c=some (v,q))(hq:fB q):
  PRes P G0 K ρ ⟨d,.call c,ty,pos,af,gd⟩ H v:=by
 obtain⟨cal,args,ats⟩:=c
 cases cal with
 |builtin b=>
  cases b with
  |len=>
   obtain⟨ats⟩:=ats
   obtain⟨args⟩:=args
   simp only[pcall]at h
   split at h
   ·exact .val (plen_ok (hρ _ (by simp[Op.operands,Call.operands])) h)
   cases h
  |min=>
   obtain⟨args⟩:=args
   simp only[pcall]at h
   split at h
   ·exact .val (pmm_ok (w:=true) (hρ _ (by simp[Op.operands,Call.operands])) (hρ _ (by simp[Op.operands,Call.operands])) h)
   cases h
  |max=>
   obtain⟨args⟩:=args
   simp only[pcall]at h
   split at h
   ·exact .val (pmm_ok (w:=false) (hρ _ (by simp[Op.operands,Call.operands])) (hρ _ (by simp[Op.operands,Call.operands])) h)
   cases h
  |_=>cases h
 |value f=>
  simp only[pcall]at h
  split at h
  ·rename_i h1;simp only[a00,a03]at h;obtain⟨rfl,rfl⟩:=h;refine .call _ _ ⟨?_⟩ rfl hq;show eZ (fg P (ρ f) (eQ ρ args.toList)) H=_;rw[hρ f (by simp[Op.operands,Call.operands]),kA (ρ':=ρ') (fun x hx=>hρ x (by simp[Op.operands,Call.operands]at hx⊢;exact .inr hx)),h1];rfl
  cases h
 |invoke r m=>cases h
theorem pop_ok{ρ ρ':Operand->Value}{op:Op}(hρ: ∀x,x∈op.operands.toList->ρ x=ρ' x)(h:pop P G0 K H hi ρ' op=some (v,q))(hq:fB q):
  PRes P G0 K ρ ⟨d,op,ty,pos,af,gd⟩ H v:=by
 cases op with
 |move x=>
  simp only[pop,a00,a03]at h;obtain⟨rfl,rfl⟩:=h
  exact .val (ap_move (hρ x (by simp[Op.operands])))
 |assign x=>
  simp only[pop,a00,a03]at h;obtain⟨rfl,rfl⟩:=h
  exact .val (j3 (hρ x (by simp[Op.operands])))
 |binOp op t x y yt=>exact .val (pbin_ok (hρ x (by simp[Op.operands])) (hρ y (by simp[Op.operands])) h hq)
 |unOp op t x=>exact .val (pun_ok (hρ x (by simp[Op.operands])) h hq)
 |convert s t x=>exact .val (pconv_ok (hρ x (by simp[Op.operands])) h hq)
 |load t a=>
  simp only[pop]at h
  split at h
  ·simp only[a00,a03]at h;obtain⟨rfl,rfl⟩:=h;refine .val ⟨?_⟩;show dX P t (ρ a) H=_;rw[hρ a (by simp[Op.operands])];exact hq
  cases h
 |index t x i=>exact .val (pidx_ok (hρ x (by simp[Op.operands])) (hρ i (by simp[Op.operands])) h hq)
 |indexAddr t x i=>exact .val (pidxA_ok (hρ x (by simp[Op.operands])) (hρ i (by simp[Op.operands])) h hq)
 |field t x f=>
  simp only[pop,optV]at h
  split at h
  ·rename_i h1;simp only[a00,a03]at h;obtain⟨rfl,rfl⟩:=h;exact .val (ap_fv (hρ x (by simp[Op.operands])) h1)
  cases h
 |fieldAddr s x f=>
  simp only[pop,optV]at h
  split at h
  ·rename_i h1;simp only[a00,a03]at h;obtain⟨rfl,rfl⟩:=h;refine .val ⟨?_⟩;show ovl (hN P s (ρ x) f) H=_;rw[hρ x (by simp[Op.operands]),h1];rfl
  cases h
 |extract x i=>
  simp only[pop,optV]at h
  split at h
  ·rename_i h1;simp only[a00,a03]at h;obtain⟨rfl,rfl⟩:=h;exact .val (ap_ex (hρ x (by simp[Op.operands])) h1)
  cases h
 |build t parts=>
  simp only[pop,optV]at h
  split at h
  ·rename_i z hz;split at h
   ·rename_i h1;simp only[a00,a03]at h;obtain⟨rfl,rfl⟩:=h;refine .val (ap_bld ?_ hz h1);apply a27;intro p hp;rw[hρ p.2 (by simp only[Op.operands,a0r];exact⟨p,by simpa using hp,rfl⟩)]
   cases h
  cases h
 |slice t x lo hi2 mx=>
  cases mx with
  |some _=>simp only[pop]at h;cases h
  |none=>
   simp only[pop]at h
   have e1:lo.map ρ=lo.map ρ':=by
    cases lo with
    |none=>rfl
    |some o=>simp only[a1T];rw[hρ o (by simp[Op.operands])]
   have e2:hi2.map ρ=hi2.map ρ':=by
    cases hi2 with
    |none=>rfl
    |some o=>simp only[a1T];rw[hρ o (by simp[Op.operands])]
   rw[←e1,←e2]at h
   exact .val (pslice_ok (hρ x (by simp[Op.operands])) h hq)
 |call c=>exact pcall_ok hρ h hq
 |nilCheck x=>
  simp only[pop]at h
  have hx:=hρ x (by simp[Op.operands])
  split at h
  ·rename_i a ha;simp only[a00,a03]at h;obtain⟨rfl,rfl⟩:=h;refine .val ⟨?_⟩;show opNil (ρ x) H=_;rw[hx,ha];rfl
  ·rename_i f a c ha;simp only[a00,a03]at h;obtain⟨rfl,rfl⟩:=h;refine .val ⟨?_⟩;show opNil (ρ x) H=_;rw[hx,ha];rfl
  cases h
 |makeFunc fn first cap=>
  simp only[pop,a00,a03]at h;obtain⟨rfl,rfl⟩:=h
  refine .val ⟨?_⟩
  show some (AN.val (.func fn (first.map ρ) (cap.map ρ)),H)=_
  have e1:first.map ρ=first.map ρ':=a27 fun x hx=>hρ x (by simp[Op.operands]at hx⊢;first|exact .inl hx|exact .inr hx)
  have e2:cap.map ρ=cap.map ρ':=a27 fun x hx=>hρ x (by simp[Op.operands]at hx⊢;first|exact .inl hx|exact .inr hx)
  rw[e1,e2]
 |_=>cases h
end
end Go.R
end
noncomputable section
namespace Go.R
structure SS.Rel(S:SS)(f fr:Fn):Prop where
 sl: ∀t c v,lk S.m t=some (c,v)->fr t=(bif act S.G c then v else undef)
 no: ∀t,lk S.m t=none->fr t=f t
 gs: ∀s g,gl S.G s=some g->(∃c,lk S.m s=some (c,.bool g))\/(lk S.m s=none/\f s= .bool g)
 ks: ∀t c v,lk S.m t=some (c,v)->∀s w,(s,w)∈c->∃g,gl S.G s=some g
theorem gl_add{G:List (Nat×Bool)}{d s:Nat}{g r:Bool}(h:gl G s=some r):gl (jn G d g) s=some r:=by
 unfold jn;split
 ·exact h
 rename_i hn;show(bif Nat.beq d s then some g else gl G s)=_;cases hb:Nat.beq d s with
 |true=>have:=a07 hb;subst this;rw[hn]at h;cases h
 |false=>exact h
theorem jQ{G:List (Nat×Bool)}{d:Nat}{g:Bool}(h: ∀r,gl G d=some r->r=g):gl (jn G d g) d=some g:=by
 unfold jn;split
 ·rename_i r hr;rw[hr,h r hr]
 show(bif Nat.beq d d then some g else gl G d)=_;rw[a0Z];rfl
theorem gl_add_inv{G:List (Nat×Bool)}{d s:Nat}{g r:Bool}(h:gl (jn G d g) s=some r):gl G s=some r\/(s=d/\r=g):=by
 unfold jn at h;split at h
 ·exact .inl h
 have h':(bif Nat.beq d s then some g else gl G s)=some r:=h;cases hb:Nat.beq d s with
 |true=>rw[hb]at h';exact .inr ⟨(a07 hb).symm,(Option.some.inj h').symm⟩
 |false=>rw[hb]at h';exact .inl h'
theorem lU{G:List (Nat×Bool)}{d:Nat}{g:Bool}: ∀{c:Ch},(∀s w,(s,w)∈c->∃r,gl G s=some r)->act (jn G d g) c=act G c
 | [],_=>rfl
 |(s,w)::c,h=>by
  obtain⟨r,hr⟩:=h s w (by simp);show((match gl (jn G d g) s with|some g=>bq g w|none=>false)&&act (jn G d g) c)=((match gl G s with|some g=>bq g w|none=>false)&&act G c)
  rw[gl_add hr,hr,lU fun s w hm=>h s w (by simp[hm])]
theorem act_mem{G:List (Nat×Bool)}: ∀{c:Ch} {s:Nat} {w:Bool},act G c=true->memC s w c=true->gl G s=some w
 |(s',w')::c,s,w,h,hm=>by
  simp only[act,a0d]at h;simp only[memC,a0F,a0d]at hm;rcases hm with⟨h1,h2⟩|hm
  ·have e1:=a07 h1;have e2:=bq_eq h2;subst e1 e2;have h3:=h.1;split at h3
   ·rename_i g hg;rw[hg,bq_eq h3]
   cases h3
  exact act_mem h.2 hm
 | [],s,w,_,hm=>by cases hm
theorem act_sub{G:List (Nat×Bool)}: ∀{a c:Ch},act G c=true->subC a c=true->act G a=true
 | [],_,_,_=>rfl
 |(s,w)::a,c,h,hs=>by simp only[subC,a0d]at hs;have h1:=act_mem h hs.1;simp only[act,h1,act_sub h hs.2,a1K];cases w<;>rfl
theorem impl_act{G:List (Nat×Bool)}{p:Prop}: ∀{c:Ch},act G c=true->impl G c p->p
 | [],_,h=>h
 |(s,w)::c,ha,h=>by
  simp only[act,a0d]at ha;obtain⟨h1,h2⟩:=ha;unfold impl at h;split at h1
  ·rename_i g hg;rw[hg]at h;exact impl_act h2 (h (bq_eq h1))
  cases h1
section
variable {P:Program} {G0:Nat} {K:bN} {sz:Nat} {Q:Ex->Fn->Heap->Prop} {ops:Array Oper} {os:List Oper} {k:List Fr} {f fr:Fn} {H:Heap} {S S':SS}
theorem SS.Rel.add(h:S.Rel f fr){d:Nat}{g:Bool}(hd:(∃c,lk S.m d=some (c,.bool g))\/(lk S.m d=none/\f d= .bool g)):SS.Rel ⟨S.m,jn S.G d g⟩ f fr:=by
 refine⟨fun t c v ht=>?_,h.no,fun s r hr=>?_,fun t c v ht s w hm=>?_⟩
 ·rw[h.sl t c v ht];show _=bif act (jn S.G d g) c then v else undef
  rw[lU (h.ks t c v ht)]
 ·rcases gl_add_inv hr with h1|⟨rfl,rfl⟩
  ·exact h.gs s r h1
  exact hd
 obtain⟨r,hr⟩:=h.ks t c v ht s w hm;exact⟨r,gl_add hr⟩
theorem SS.Rel.same(h:S.Rel f fr){d:Nat}{g:Bool}(hd:(∃c,lk S.m d=some (c,.bool g))\/(lk S.m d=none/\f d= .bool g)): ∀r,gl S.G d=some r->r=g:=by
 intro r hr;rcases h.gs d r hr with⟨c,h1⟩|⟨h1,h2⟩<;>rcases hd with⟨c',h3⟩|⟨h3,h4⟩
 ·rw[h1]at h3;simp only[a00,a03,Value.bool.injEq]at h3;exact h3.2
 ·rw[h1]at h3;cases h3
 ·rw[h1]at h3;cases h3
 rw[h2]at h4;simpa using h4
structure GOK(ops:Array Oper)(f fr:Fn)(S:SS)(g:Option (Nat×Bool))(c:Ch)(G1:List (Nat×Bool)):Prop where
 rel:SS.Rel ⟨S.m,G1⟩ f fr
 ks: ∀s w,(s,w)∈c->∃g,gl G1 s=some g
 on:act G1 c=true->match g with
  |none=>True
  |some (j,w)=>cr ops fr j=some w
 off:act G1 c=false->match g with
  |none=>False
  |some (j,w)=>cr ops fr j=none\/cr ops fr j=some (!w)
theorem lI(hr:S.Rel f fr){g:Option (Nat×Bool)}{c:Ch}{G1:List (Nat×Bool)}(h:lJ ops f S g=some (c,G1)):GOK ops f fr S g c G1:=by
 unfold lJ at h;split at h
 ·simp only[a00,a03]at h;obtain⟨rfl,rfl⟩:=h;exact⟨hr,fun s w hm=>by simp at hm,fun _=>trivial,fun h=>by cases h⟩
 rename_i j w;split at h
 ·rename_i d hd;have key: ∀(c0:Ch) (γ:Bool),((∃c,lk S.m d=some (c,.bool γ))\/(lk S.m d=none/\f d= .bool γ))->(∀s w,(s,w)∈c0->∃g,gl S.G s=some g)->(fr d=bif act S.G c0 then .bool γ else undef)->GOK ops f fr S (some (j,w)) ((d,w)::c0) (jn S.G d γ):=by
   intro c0 γ hdd hks hfr;have hG:=jQ (G:=S.G) (d:=d) (g:=γ) (hr.same hdd);have ha:act (jn S.G d γ) ((d,w)::c0)=(bq γ w&&act S.G c0):=by show((match gl (jn S.G d γ) d with|some g=>bq g w|none=>false)&&act (jn S.G d γ) c0)=_;rw[hG,lU hks]
   have hy: ∀v,fr d=v->cr ops fr j=match v with| .bool b=>some b|_=>none:=by intro v hv;unfold cr;rw[hd];show(match fr d with| .bool b=>some b|_=>none)=_;rw[hv]
   refine⟨hr.add hdd,fun s w' hm=>?_,fun hon=>?_,fun hoff=>?_⟩
   ·rcases a0n.1 hm with e|hm
    ·injection e with e1 e2;subst e1;exact⟨γ,hG⟩
    obtain⟨r,hr'⟩:=hks s w' hm;exact⟨r,gl_add hr'⟩
   ·rw[ha,a0d]at hon;rw[hon.2]at hfr;show cr ops fr j=some w;rw[hy _ hfr,bq_eq hon.1];rfl
   rw[ha]at hoff;show cr ops fr j=none\/cr ops fr j=some (!w);cases hc:act S.G c0 with
   |false=>rw[hc]at hfr;left;rw[hy _ hfr];rfl
   |true=>
    rw[hc]at hfr hoff
    right
    rw[hy _ hfr]
    cases γ<;>cases w<;>first|rfl|cases hoff
  split at h
  ·rename_i c0 γ hl;simp only[a00,a03]at h;obtain⟨rfl,rfl⟩:=h;exact key c0 γ (.inl ⟨_,hl⟩) (hr.ks d c0 _ hl) (hr.sl d c0 _ hl)
  ·cases h
  rename_i hl;split at h
  ·rename_i γ hf;simp only[a00,a03]at h;obtain⟨rfl,rfl⟩:=h;exact key [] γ (.inr ⟨hl,hf⟩) (fun s w hm=>by simp at hm) (by rw[hr.no d hl,hf];rfl)
  cases h
 cases h
theorem rel_put{m:List (Nat×Ch×Value)}{G:List (Nat×Bool)}{q q':Option Prop}{c:Ch}{d:Nat}{v:Value}(hr:SS.Rel ⟨m,G⟩ f fr)(hk: ∀s w,(s,w)∈c->∃g,gl G s=some g)(h:putS q c G m d v=some (S',q')):
  SS.Rel S' f (upd fr d (bif act G c then v else undef))/\(fB q'->act G c=true->fB q):=by
 unfold putS at h
 split at h
 ·cases h
 rename_i hd
 simp only[a00,a03]at h
 obtain⟨rfl,rfl⟩:=h
 refine⟨⟨fun t c' v' ht=>?_,fun t ht=>?_,fun s g hg=>?_,fun t c' v' ht s w hm=>?_⟩,fun hq ha=>?_⟩
 ·have ht':(bif Nat.beq d t then some (c,v) else lk m t)=some (c',v'):=ht;unfold upd;cases hb:Nat.beq d t with
  |true=>
   rw[hb]at ht'
   simp only[cond_true,a00,a03]at ht'
   obtain⟨rfl,rfl⟩:=ht'
   rfl
  |false=>rw[hb]at ht';exact hr.sl t c' v' ht'
 ·have ht':(bif Nat.beq d t then some (c,v) else lk m t)=none:=ht;unfold upd;cases hb:Nat.beq d t with
  |true=>rw[hb]at ht';cases ht'
  |false=>rw[hb]at ht';exact hr.no t ht'
 ·have hne:Nat.beq d s=false:=by
   cases hb:Nat.beq d s with
   |false=>rfl
   |true=>have:=a07 hb;subst this;rw[hd]at hg;cases hg
  have e:lk ((d,c,v)::m) s=lk m s:=by show(bif Nat.beq d s then some (c,v) else lk m s)=_;rw[hne];rfl
  rcases hr.gs s g hg with⟨c0,h0⟩|h0
  ·exact .inl ⟨c0,e.trans h0⟩
  exact .inr ⟨e.trans h0.1,h0.2⟩
 ·have ht':(bif Nat.beq d t then some (c,v) else lk m t)=some (c',v'):=ht;cases hb:Nat.beq d t with
  |true=>
   rw[hb]at ht'
   simp only[cond_true,a00,a03]at ht'
   obtain⟨rfl,rfl⟩:=ht'
   exact hk s w hm
  |false=>rw[hb]at ht';exact hr.ks t c' v' ht' s w hm
 cases q with
 |none=>trivial
 |some p=>exact impl_act ha hq
theorem rd_ok(hr:S.Rel f fr){c:Ch}(ha:act S.G c=true){x:Operand}(hx:S.can c x=true):dq fr x=S.rd f x:=by
 cases x with
 |tmp t=>
  show fr t=match lk S.m t with|some x=>x.2|none=>f t
  have hx':(match lk S.m t with|some x=>subC x.1 c|none=>true)=true:=hx
  cases hl:lk S.m t with
  |none=>exact hr.no t hl
  |some y=>
   obtain⟨c',v⟩:=y
   rw[hl]at hx'
   rw[hr.sl t c' v hl,act_sub ha hx'];rfl
 |_=>rfl
theorem stepS_ok{o:Oper}{q:Option Prop}{hi:Hint}(hr:S.Rel f fr)(h:stepS P G0 K H sz ops f S hi o=some (S',q))(hq:fB q):
  ∃d c G1 v,o.dst=some d/\Nat.ble (d+1) sz=true/\o.op.operands.toList.all (bB G0)=true/\lJ ops f S o.guard=some (c,G1)/\
   (act G1 c=true->PRes P G0 K (dq fr) ⟨some d,o.op,o.type,o.pos,o.after,none⟩ H v)/\SS.Rel S' f (upd fr d (bif act G1 c then v else undef)):=by
 unfold stepS at h
 split at h
 ·cases h
 rename_i d hd
 cases hb:(Nat.ble (d+1) sz&&o.op.operands.toList.all (bB G0)) with
 |false=>rw[hb]at h;cases h
 |true=>
  rw[hb]at h
  simp only[cond_true]at h
  rw[a0d]at hb
  split at h
  ·cases h
  rename_i c G1 hc
  have hg:=lI hr hc
  split at h
  ·rename_i s a b hop;split at h
   ·rename_i cc γ hl;cases hb2:(subC cc c&&(S.can ((s,true)::c) a&&S.can ((s,false)::c) b)) with
    |false=>rw[hb2]at h;cases h
    |true=>
     rw[hb2]at h
     simp only[cond_true]at h
     simp only[a0d]at hb2
     split at h
     ·rename_i v hv;have hds:(∃c,lk S.m s=some (c,.bool γ))\/(lk S.m s=none/\f s= .bool γ):= .inl ⟨_,hl⟩;have hrel:=SS.Rel.add (S:=⟨S.m,G1⟩) hg.rel (d:=s) (g:=γ) hds;have hG:=jQ (G:=G1) (d:=s) (g:=γ) (hg.rel.same hds);have hks2: ∀s' w,(s',w)∈c->∃g,gl (jn G1 s γ) s'=some g:=fun s' w hm=>by obtain⟨r,hr'⟩:=hg.ks s' w hm;exact⟨r,gl_add hr'⟩
      have hact:act (jn G1 s γ) c=act G1 c:=lU hg.ks;obtain⟨h1,_⟩:=rel_put hrel hks2 h;rw[hact]at h1;refine⟨d,c,G1,v,hd,hb.1,hb.2,hc,fun ha=>?_,h1⟩;refine .val ⟨?_⟩;rw[hop];show fw (dq fr) (.tmp s) a b H=_;have e0:dq fr (.tmp s)= .bool γ:=by have:=hg.rel.sl s cc _ hl;rw[act_sub ha hb2.1]at this;exact this
      unfold fw;rw[e0];show some (AN.val (bif γ then dq fr a else dq fr b),H)=_;rw[ppick_ok hv];have hcan: ∀(w:Bool) (x:Operand),γ=w->S.can ((s,w)::c) x=true->dq fr x=S.rd f x:=by intro w x hw hx;have hr2:SS.Rel ⟨S.m,jn G1 s γ⟩ f fr:=hrel;refine rd_ok (S:=⟨S.m,jn G1 s γ⟩) hr2 (c:=(s,w)::c) ?_ hx;show((match gl (jn G1 s γ) s with|some g=>bq g w|none=>false)&&act (jn G1 s γ) c)=true;rw[hG,hact,ha,hw];cases w<;>rfl
      cases γ with
      |true=>rw[cond_true,cond_true,hcan true a rfl hb2.2.1]
      |false=>rw[cond_false,cond_false,hcan false b rfl hb2.2.2]
     cases h
   cases h
  cases hb2:o.op.operands.toList.all (S.can c) with
  |false=>rw[hb2]at h;cases h
  |true=>
   rw[hb2]at h
   simp only[cond_true]at h
   split at h
   ·rename_i v q0 hp;obtain⟨h1,h2⟩:=rel_put hg.rel hg.ks h;refine⟨d,c,G1,v,hd,hb.1,hb.2,hc,fun ha=>?_,h1⟩;refine pop_ok (fun x hx=>?_) hp (h2 hq ha);have:=a0w.1 hb2 x hx;exact rd_ok (S:=⟨S.m,G1⟩) hg.rel ha this
   cases h
theorem wo_do{d:Nat}{o:Oper}{c:Ch}{G1:List (Nat×Bool)}{v:Value}(hd:o.dst=some d)(hb:Nat.ble (d+1) sz=true)(ho:o.op.operands.toList.all (bB G0)=true)(hg:GOK ops f fr S o.guard c G1)
  (hp:act G1 c=true->PRes P G0 K (dq fr) ⟨some d,o.op,o.type,o.pos,o.after,none⟩ H v) (h:WO P G0 K sz ops os k (upd fr d (bif act G1 c then v else undef)) H Q):WO P G0 K sz ops (o::os) k fr H Q:=by
 obtain⟨dst,op,ty,pos,af,gd⟩:=o
 simp only at hd ho hg hp
 subst hd
 cases ha:act G1 c with
 |true=>
  rw[ha]at h
  have base:WO P G0 K sz ops (⟨some d,op,ty,pos,af,none⟩::os) k fr H Q:=by
   cases hp ha with
   |val hv=>exact bD hv ho hb h
   |call g args he _ hc=>exact wo_callG he ho hb hc (by rintro v' H' ⟨rfl,rfl⟩;exact h)
  cases gd with
  |none=>exact base
  |some jw=>
   obtain⟨j,w⟩:=jw
   exact ev (hg.on ha) rfl base
 |false=>
  rw[ha]at h
  have:=hg.off ha
  cases gd with
  |none=>exact absurd this id
  |some jw=>
   obtain⟨j,w⟩:=jw
   rcases this with h1|h1
   ·exact wo_gn h1 hb h
   exact wo_gf h1 rfl hb h
def bnD:ID->Bool
 | .x []=>true
 | .x _=>false
 |_=>true
theorem okD_r{i:Nat}: ∀{D:List (Nat×ID)},D.all (fun e=>bnD e.2)=true->okD ops i .r D
 | [],_=>trivial
 |(j,e)::D,h=>by
  simp only[a1i,a0d]at h;refine⟨.inr ?_,okD_r h.2⟩;cases e with
  |x W=>
   cases W with
   |nil=>trivial
   |cons a b=>exact absurd h.1 (by simp[bnD])
  |_=>trivial
theorem okD_x{i:Nat}: ∀{D:List (Nat×ID)},D.all (fun e=>bnD e.2)=true->okD ops i (.x []) D
 | [],_=>trivial
 |(j,e)::D,h=>by
  simp only[a1i,a0d]at h;refine⟨.inr ?_,okD_x h.2⟩;cases e with
  |x W=>
   cases W with
   |nil=>exact⟨trivial,trivial⟩
   |cons a b=>exact absurd h.1 (by simp[bnD])
  |l b=>exact a0e
  |q S=>exact fun b hb=>absurd hb a0e
  |_=>trivial
theorem wf_weak{D:List (Nat×ID)}{i j:Nat}{e:ID}(he: ∀g,e.fits g->fF g=true)(h:WF2 P G0 K sz ops ((j,.r)::D) i os k f H Q):WF2 P G0 K sz ops ((j,e)::D) i os k f H Q:=⟨fun t fs ht hfs=>by
 refine h.out t fs ht ?_;cases fs with
 |nil=>exact absurd hfs id
 |cons x fs=>
  obtain⟨a,g⟩:=x
  obtain⟨h1,h2,h3⟩:=hfs
  exact⟨h1,he g h2,h3⟩⟩
theorem wf_callx{d:Tmp}{op:Op}{ty:TypeId}{pos:String}{af:Array Edge}{D:List (Nat×ID)}{i:Nat}{v:Value}{g:FuncId}{args:List Value}(ha:AP P (dq f) ⟨some d,op,ty,pos,af,none⟩ {H with log:=[]} (.enter g args,{H with log:=[]}))(ho:op.operands.toList.all (bB G0)=true)(hd:Nat.ble (d+1) sz=true)(hk:eI op=true)
  (hc:C P G0 K g args {H with log:=[]} fun v' H'=>v'=v/\H'={H with log:=[]}) (hok:okD ops i (.x []) D)
  (h:WF2 P G0 K sz ops ((i,.x [])::D) (i+1) os k (upd f d v) H Q):WF2 P G0 K sz ops D i (⟨some d,op,ty,pos,af,none⟩::os) k f H Q:=⟨fun t fs ht hfs=>by
 obtain⟨n1,v',H2,hc1,rfl,rfl⟩:=hc.out
 obtain⟨t',h1,h2⟩:=gL (s:=⟨t,sz,{H with log:=[]}⟩) (d:=some d) (v:=v') hd
 have hi:=bR (ops:=ops) (f:=f) (o:=⟨some d,op,ty,pos,af,none⟩) (n:=H.next) (log:=[]) (W:=[]) rfl hk (fun b hb=>by simp at hb) t sz H ht
 obtain⟨n2,e,s',h3,h4⟩:=h.out t' ((i,dA ops ⟨some d,op,ty,pos,af,none⟩ ⟨t,sz,H⟩ H.next [])::fs) (by rw[h2,ht];rfl) ⟨rfl,hi,hfs⟩
 refine⟨Nat.max n1 n2,e,s',?_,h4⟩
 have hst:step P G0 (call P G0 K (Nat.max n1 n2)) ops ⟨some d,op,ty,pos,af,none⟩ ⟨t,sz,{H with log:=[]}⟩=some ⟨t',sz,{H with log:=[]}⟩:=by unfold step bf;simp only[cond_true,ho,dK,ht,ha.eq,dQ (a1H n1 n2) _ _ _ _ hc1];exact h1
 unfold bn fX
 rw[hst]
 simp only[cR hi hfs hok,cond_true,cY,a11]
 refine dg (a1p (a1a n1 n2)) k _ _ (fun x hx=>?_) _ h3
 cases hq:bn P G0 (call P G0 K n2) ops (i+1) ((i,dA ops ⟨some d,op,ty,pos,af,none⟩ ⟨t,sz,H⟩ H.next [])::fs) os ⟨t',sz,H⟩ with
 |none=>rw[hq]at hx;cases hx
 |some y=>
  have:=dL (dQ (P:=P) (G:=G0) (K:=K) (a1a n1 n2)) _ _ _ _ _ hq
  rw[hq]at hx
  show dJ (bn P G0 (call P G0 K (Nat.max n1 n2)) ops (i+1) _ os ⟨t',sz,H⟩)=_
  rw[this];exact hx⟩
theorem wf_do{D:List (Nat×ID)}{i d:Nat}{o:Oper}{c:Ch}{G1:List (Nat×Bool)}{v:Value}(hD:D.all (fun e=>bnD e.2)=true)(hd:o.dst=some d)(hb:Nat.ble (d+1) sz=true)(ho:o.op.operands.toList.all (bB G0)=true)(hg:GOK ops f fr S o.guard c G1)
  (hp:act G1 c=true->PRes P G0 K (dq fr) ⟨some d,o.op,o.type,o.pos,o.after,none⟩ {H with log:=[]} v) (h:WF2 P G0 K sz ops ((i,.r)::D) (i+1) os k (upd fr d (bif act G1 c then v else undef)) H Q):WF2 P G0 K sz ops D i (o::os) k fr H Q:=by
 obtain⟨dst,op,ty,pos,af,gd⟩:=o
 simp only at hd ho hg hp
 subst hd
 cases ha:act G1 c with
 |true=>
  rw[ha]at h
  have base:WF2 P G0 K sz ops D i (⟨some d,op,ty,pos,af,none⟩::os) k fr H Q:=by
   cases hp ha with
   |val hv=>exact aC (id:= .r) hv ho hb (did_r fun b hb=>by simp at hb) (okD_r hD) h
   |call g args he hk hc=>
    exact wf_callx he ho hb hk hc (okD_x hD) (wf_weak (fun g hg=>by obtain⟨w,rfl,hw⟩:=hg;cases w with
     |nil=>rfl
     |cons a b=>exact absurd (hw a (by simp)) a0e) h)
  cases gd with
  |none=>exact base
  |some jw=>
   obtain⟨j,w⟩:=jw
   exact eF (hg.on ha) rfl base
 |false=>
  rw[ha]at h
  have:=hg.off ha
  cases gd with
  |none=>exact absurd this id
  |some jw=>
   obtain⟨j,w⟩:=jw
   have h':=wf_weak (e:= .v) (fun g hg=>by rw[show g= .v from hg];rfl) h
   rcases this with h1|h1
   ·exact jr h1 hb h'
   exact eS h1 rfl hb h'
theorem holds_and{q:Option Prop}{p:Prop}(h:andO q p):fB q/\p:=by
 cases q with
 |none=>exact⟨trivial,h⟩
 |some q=>exact h
theorem wo_row{hs:List (Nat×Hint)}: ∀{a:List Oper} {i:Nat} {S S':SS} {p:Prop} {fr:Fn},rgL P G0 K H sz ops f hs i a S=some (S',p)->p->S.Rel f fr->
  (∀fr',S'.Rel f fr'->WO P G0 K sz ops os k fr' H Q)->WO P G0 K sz ops (a++os) k fr H Q
 | [],i,S,S',p,fr,h,_,hr,hk=>by simp only[rgL,a00,a03]at h;obtain⟨rfl,_⟩:=h;exact hk fr hr
 |o::a,i,S,S',p,fr,h,hp,hr,hk=>by
  unfold rgL at h;split at h
  ·cases h
  rename_i S1 q h1;split at h
  ·cases h
  rename_i S2 p2 h2;simp only[a00,a03]at h;obtain⟨rfl,rfl⟩:=h;obtain⟨hq,hp2⟩:=holds_and hp;obtain⟨d,c,G1,v,e1,e2,e3,e4,e5,e6⟩:=stepS_ok hr h1 hq;exact wo_do e1 e2 e3 (lI hr e4) e5 (wo_row h2 hp2 e6 hk)
def rs(i:Nat):List Oper->List (Nat×ID)->List (Nat×ID)
 | [],D=>D
 |_::a,D=>rs (i+1) a ((i,.r)::D)
theorem wf_row{hs:List (Nat×Hint)}: ∀{a:List Oper} {i:Nat} {D:List (Nat×ID)} {S S':SS} {p:Prop} {fr:Fn},D.all (fun e=>bnD e.2)=true->rgL P G0 K {H with log:=[]} sz ops f hs i a S=some (S',p)->p->S.Rel f fr->
  (∀fr',S'.Rel f fr'->WF2 P G0 K sz ops (rs i a D) (i+a.length) os k fr' H Q)->WF2 P G0 K sz ops D i (a++os) k fr H Q
 | [],i,D,S,S',p,fr,_,h,_,hr,hk=>by simp only[rgL,a00,a03]at h;obtain⟨rfl,_⟩:=h;exact hk fr hr
 |o::a,i,D,S,S',p,fr,hD,h,hp,hr,hk=>by
  unfold rgL at h;split at h
  ·cases h
  rename_i S1 q h1;split at h
  ·cases h
  rename_i S2 p2 h2;simp only[a00,a03]at h;obtain⟨rfl,rfl⟩:=h;obtain⟨hq,hp2⟩:=holds_and hp;obtain⟨d,c,G1,v,e1,e2,e3,e4,e5,e6⟩:=stepS_ok hr h1 hq;refine wf_do hD e1 e2 e3 (lI hr e4) e5 (wf_row (by simp only[a1i,hD,a1K];rfl) h2 hp2 e6 fun fr' hr'=>?_);have:=hk fr' hr';rw[a0a,show i+(a.length+1)=i+1+a.length by omega]at this;exact this
theorem fins_ok{m:List (Nat×Ch×Value)}{G:List (Nat×Bool)}(hr:SS.Rel ⟨m,G⟩ f fr): ∀{ds:List Nat} {l:List (Nat×Value)},fins m ds=some l->az fr l
 | [],l,h=>by simp only[fins,a00]at h;subst h;trivial
 |d::ds,l,h=>by
  unfold fins at h;split at h
  ·rename_i v l' h1 h2;simp only[a00]at h;subst h;exact⟨by have:=hr.sl d [] v h1;exact this,fins_ok hr h2⟩
  cases h
theorem rel_leaves{m:List (Nat×Ch×Value)}{G:List (Nat×Bool)}(hr:SS.Rel ⟨m,G⟩ f fr){lo hi:Nat}{ex:List Nat}(h:m.all (fun e=>inR lo hi ex e.1)=true):Leaves lo hi ex f fr:=⟨fun j hj=>by
 refine hr.no j ?_;have key: ∀(m:List (Nat×Ch×Value)),m.all (fun e=>inR lo hi ex e.1)=true->lk m j=none:=by
  intro m;induction m with
  |nil=>intro _;rfl
  |cons e m ih=>
   obtain⟨s,x⟩:=e
   intro hm
   simp only[a1i,a0d]at hm
   show(bif Nat.beq s j then some x else lk m j)=none
   cases hb:Nat.beq s j with
   |true=>have:=a07 hb;subst this;rw[hj]at hm;cases hm.1
   |false=>exact ih hm.2
 exact key m h⟩
theorem rel0:SS.Rel ⟨[],[]⟩ f f:=⟨fun t c v h=>(by cases h),fun _ _=>rfl,fun s g h=>(by cases h),fun t c v h=>(by cases h)⟩
theorem top_ok{i:Nat}{a:List Oper}{hs:List (Nat×Hint)}{lo hi:Nat}{ex ds:List Nat}{l:List (Nat×Value)}{p:Prop}(h:gj P G0 K H sz ops f i a hs lo hi ex ds=some (l,p)):
  ∃S,rgL P G0 K H sz ops f hs i a ⟨[],[]⟩=some (S,p)/\∀fr,S.Rel f fr->∃g,fr=lc (hav lo hi ex g f) l:=by
 unfold gj at h
 split at h
 ·cases h
 rename_i S p' h1
 cases hb:S.m.all (fun e=>inR lo hi ex e.1) with
 |false=>rw[hb]at h;cases h
 |true=>
  rw[hb]at h
  simp only[cond_true]at h
  split at h
  ·rename_i l' h2;simp only[a00,a03]at h;obtain⟨rfl,rfl⟩:=h;refine⟨S,h1,fun fr hr=>⟨fr,?_⟩⟩;rw[←(rel_leaves hr hb).eq,gH (fins_ok hr h2)]
  cases h
theorem wk_rg{id:Nat}(hs:List (Nat×Hint))(lo hi:Nat)(ex:List Nat){ds:List Nat}{l:List (Nat×Value)}{p:Prop}(h:gj P G0 K H sz ops f 0 ops.toList hs lo hi ex ds=some (l,p))(hp:p)
  (hk: ∀g,WK P G0 K sz .skip k (lc (hav lo hi ex g f) l) H Q):WK P G0 K sz (.region id ops false) k f H Q:=by
 obtain⟨S,h1,h2⟩:=top_ok h
 refine aa ?_
 have:=wo_row (os:=[]) (k:=k) (Q:=Q) h1 hp rel0 (fun fr hr=>by obtain⟨g,rfl⟩:=h2 fr hr;exact ge (hk g))
 rwa [a0E]at this
theorem wk_rgD{id:Nat}(hr:(aQ ops&&P.follows .mixedOrders)=true)(hs:List (Nat×Hint))(lo hi:Nat)(ex:List Nat){ds:List Nat}{l:List (Nat×Value)}{p:Prop}(h:gj P G0 K {H with log:=[]} sz ops f 0 ops.toList hs lo hi ex ds=some (l,p))(hp:p)
  (hk: ∀g,WK P G0 K sz .skip k (lc (hav lo hi ex g f) l) H Q):WK P G0 K sz (.region id ops true) k f H Q:=by
 obtain⟨S,h1,h2⟩:=top_ok h
 refine aO hr ?_
 have:=wf_row (os:=[]) (k:=k) (Q:=Q) (D:=[]) rfl h1 hp rel0 (fun fr hr=>by obtain⟨g,rfl⟩:=h2 fr hr;exact br (hk g))
 rwa [a0E]at this
theorem wo_rg(n i:Nat)(hs:List (Nat×Hint))(lo hi:Nat)(ex:List Nat){os:List Oper}{ds:List Nat}{l:List (Nat×Value)}{p:Prop}(h:gj P G0 K H sz ops f i (gI os n) hs lo hi ex ds=some (l,p))(hp:p)
  (hk: ∀g,WO P G0 K sz ops (gY os n) k (lc (hav lo hi ex g f) l) H Q):WO P G0 K sz ops os k f H Q:=by
 obtain⟨S,h1,h2⟩:=top_ok h
 have:=wo_row (os:=gY os n) (k:=k) (Q:=Q) h1 hp rel0 (fun fr hr=>by obtain⟨g,rfl⟩:=h2 fr hr;exact hk g)
 rwa [ce,ct,a23]at this
end
end Go.R
end
noncomputable section
namespace Go.R
def foc:Nat->Code->List Fr->Code×List Fr
 |0,c,k=>(c,k)
 |n+1,.seq a b,k=>foc n a (.seq b::k)
 |n+1,.block id b,k=>foc n b (.block id::k)
 |n+1,.skip,.seq b::k=>foc n b k
 |n+1,.skip,.block _::k=>foc n .skip k
 |n+1,.exit id,.seq _::k=>foc n (.exit id) k
 |n+1,.exit id,.block id'::k=>bif Nat.beq id id' then foc n .skip k else foc n (.exit id) k
 |_+1,c,k=>(c,k)
section
variable {P:Program} {G:Nat} {K:bN} {sz:Nat} {Q:Ex->Fn->Heap->Prop} {f:Fn} {H:Heap}
theorem wk_foc': ∀(n:Nat) (c:Code) (k:List Fr),WK P G K sz (foc n c k).1 (foc n c k).2 f H Q->WK P G K sz c k f H Q:=by
 intro n;induction n with
 |zero=>intro c k h;exact h
 |succ n ih=>
  intro c k h
  cases c with
  |seq a b=>exact wk_seq (ih _ _ h)
  |block id b=>exact wk_block (ih _ _ h)
  |skip=>
   cases k with
   |nil=>exact h
   |cons x k=>
    cases x with
    |seq b=>exact wk_skip_seq (ih _ _ h)
    |block id=>exact kX (ih _ _ h)
  |exit id=>
   cases k with
   |nil=>exact h
   |cons x k=>
    cases x with
    |seq b=>exact wk_exit_seq (ih _ _ h)
    |block id'=>
     have h':WK P G K sz (bif Nat.beq id id' then foc n .skip k else foc n (.exit id) k).1 (bif Nat.beq id id' then foc n .skip k else foc n (.exit id) k).2 f H Q:=h
     cases hb:Nat.beq id id' with
     |true=>
      have:=a07 hb
      subst this
      rw[hb]at h'
      exact kY (ih _ _ h')
     |false=>
      rw[hb]at h'
      exact iV hb (ih _ _ h')
  |_=>exact h
variable {c c1 c2:Code} {k k1 k2:List Fr}
theorem au(n:Nat)(hf:foc n c k=(c1,k1))(h:WK P G K sz c1 k1 f H Q):WK P G K sz c k f H Q:=wk_foc' n c k (by rw[hf];exact h)
theorem aq(n m:Nat){x:Operand}{a b:Code}{v:Bool}(hx:dq f x= .bool v)(ho:bB G x=true)(h1:foc n a k=(c1,k1))(h2:foc m b k=(c2,k2))(ht:v=true->WK P G K sz c1 k1 f H Q)(he:v=false->WK P G K sz c2 k2 f H Q):WK P G K sz (.cond x a b) k f H Q:=
 wk_cond hx ho (fun hv=>au n h1 (ht hv)) (fun hv=>au m h2 (he hv))
theorem bE(n:Nat){x:Operand}{a b:Code}{v:Bool}(hx:dq f x= .bool v)(hv:v=true)(ho:bB G x=true)(h1:foc n a k=(c1,k1))(h:WK P G K sz c1 k1 f H Q):WK P G K sz (.cond x a b) k f H Q:=wk_true hx hv ho (au n h1 h)
theorem bO(J:Fn->Heap->Prop)(h1:(∀f' H',J f' H'->WK P G K sz .skip k f' H' Q)->WK P G K sz c k f H Q)(h2: ∀f' H',J f' H'->WK P G K sz .skip k f' H' Q):WK P G K sz c k f H Q:=h1 h2
theorem wr(n:Nat){id:Nat}{ops:Array Oper}(hs:List (Nat×Hint))(lo hi:Nat)(ex:List Nat)(l:List (Nat×Value)){p:Prop}(hp:p)(h:gj P G K H sz ops f 0 ops.toList hs lo hi ex (eQ Prod.fst l)=some (l,p))(hf:foc n .skip k=(c1,k1))
  (hk: ∀g,WK P G K sz c1 k1 (lc (hav lo hi ex g f) l) H Q):WK P G K sz (.region id ops false) k f H Q:=wk_rg hs lo hi ex h hp fun g=>au n hf (hk g)
theorem wrD(n:Nat){id:Nat}{ops:Array Oper}(hs:List (Nat×Hint))(lo hi:Nat)(ex:List Nat)(l:List (Nat×Value)){p:Prop}(hp:p)(hr:(aQ ops&&P.follows .mixedOrders)=true)(h:gj P G K {H with log:=[]} sz ops f 0 ops.toList hs lo hi ex (eQ Prod.fst l)=some (l,p))(hf:foc n .skip k=(c1,k1))
  (hk: ∀g,WK P G K sz c1 k1 (lc (hav lo hi ex g f) l) H Q):WK P G K sz (.region id ops true) k f H Q:=wk_rgD hr hs lo hi ex h hp fun g=>au n hf (hk g)
theorem wro(n i:Nat){ops:Array Oper}{os os':List Oper}(hs:List (Nat×Hint))(lo hi:Nat)(ex:List Nat)(l:List (Nat×Value)){p:Prop}(hp:p)(h:gj P G K H sz ops f i (gI os n) hs lo hi ex (eQ Prod.fst l)=some (l,p))(he:gY os n=os')
  (hk: ∀g,WO P G K sz ops os' k (lc (hav lo hi ex g f) l) H Q):WO P G K sz ops os k f H Q:=wo_rg n i hs lo hi ex h hp (by rw[he];exact hk)
theorem ap(n:Nat){ops:Array Oper}(hf:foc n .skip k=(c1,k1))(h:WK P G K sz c1 k1 f H Q):WO P G K sz ops [] k f H Q:=ge (au n hf h)
end
theorem vA{a b:Prop}(h:a)(k:b):a/\b:=⟨h,k⟩
theorem vi{n:Int}(h: -9223372036854775808<=n/\n<9223372036854775808:=by first|(dsimp only;omega)|omega):rng .i64 n:=h
theorem vu{n:Int}(h:0<=n/\n<18446744073709551616):rng .u64 n:=h
section
variable {P:Program} {G:Nat} {K:bN} {H:Heap} {F:Fz} {B:Base} {L R:List Fp}
theorem ld1{b o i:Nat}{cs:List Value}{w:Value}{t:TypeId}(hc:HC H.get b o cs)(ha:gc P t=some false)(hv:cs[i]?=some w):LDv P H t (.pointer (some ⟨b,o+i,none⟩)) w:=by obtain⟨all,opn,ro,h1,h2⟩:=hc.get hv;show ovl (H.loadV P t ⟨b,o+i,none⟩) H=_;unfold Heap.loadV;rw[ha];simp only;unfold Heap.cellAt;simp only[h1,gO,h2];rfl
theorem ldN{b o i n:Nat}{cs l:List Value}{t:TypeId}(hc:HC H.get b o cs)(ha:gc P t=some true)(hs:dw P t=some n)(hn:Nat.ble (i+n) cs.length=true)(hl:gI (gY cs i) n=l):LDv P H t (.pointer (some ⟨b,o+i,none⟩)) (.agg ⟨l⟩):=by obtain⟨all,opn,ro,h1,h2,h3⟩:=hc.part (a06 hn);rw[ce,ct]at hl;show ovl (H.loadV P t ⟨b,o+i,none⟩) H=_;unfold Heap.loadV;rw[ha];simp only[hs];unfold Heap.loadN;rw[←hl];simp only[h1,ce,ct,bT,h2,h3,a0Z,cond_true];rfl
theorem hc0{b o:Nat}{cs:List Value}(h:HC H.get b o cs):HC ({H with log:=[]}:Heap).get b o cs:=h
theorem cq{f:FuncId}{args:List Value}{Q:Value->Heap->Prop}{v:Value}(h:C P G K f args H Q)(hq: ∀v' H',Q v' H'->v'=v/\H'=H):C P G K f args H fun v' H'=>v'=v/\H'=H:=h.mono hq
section
variable {α:Type} [Rp α] {v:Value} {l:List α}
theorem Sv.view{get:Nat->Option AObj}(h:Sv F get v l): ∃cf:Nat->List Value,∀(j:Nat),(∀d:α,j<l.length->Rp.rep F (cf j) (l.getD j d)/\HC get (sB v) (sO v+j*Rp.sz α) (cf j))/\(l.length<=j->cf j=[]):=by
 have h0: ∀j,∃cs,(∀(d:α),j<l.length->Rp.rep F cs (l.getD j d)/\HC get (sB v) (sO v+j*Rp.sz α) cs)/\(l.length<=j->cs=[]):=by
  intro j;by_cases hj:j<l.length
  ·obtain⟨cs,h1,h2⟩:=h.at (a04 hj);refine⟨cs,fun d _=>⟨?_,h2⟩,fun h=>absurd h (by omega)⟩;rw[a01,a04 hj];exact h1
  exact⟨[],fun _ hj'=>absurd hj' hj,fun _=>rfl⟩
 exact⟨fun j=>(h0 j).choose,fun j=>(h0 j).choose_spec⟩
abbrev VW(F:Fz)(get:Nat->Option AObj)(v:Value)(l:List α)(cf:Nat->List Value)(j:Nat):Prop:=(∀d:α,j<l.length->Rp.rep F (cf j) (l.getD j d)/\HC get (sB v) (sO v+j*Rp.sz α) (cf j))/\(l.length<=j->cf j=[])
theorem Sv.ix{get:Nat->Option AObj}(h:Sv F get v l){j:Int}(h0:0<=j:=by first|(dsimp only;omega)|omega)(hj:j<l.length:=by first|(dsimp only;omega)|omega):IX v j:=by
 rcases h with⟨_,rfl⟩|⟨b,off,k,o,rfl,h2,cs,opn,ro,rfl,h3,h4,h5,h6⟩
 ·simp at hj;omega
 exact⟨b,off,_,k,rfl,h0,hj,h4⟩
end
def sA:Value->Option Addr
 | .slice a _ _=>a
 |_=>none
def sK:Value->Nat
 | .slice _ _ k=>k
 |_=>0
abbrev cA(cs:List Value)(i:Nat):Option Addr:=sA (cs.getD i undef)
abbrev cK(cs:List Value)(i:Nat):Nat:=sK (cs.getD i undef)
end
theorem cM{α:Type}{l:List α}{j:Nat}{d:α}(h:l.length<=j):l.getD j d=d:=by rw[a01,a0Q h];rfl
section
variable {F:Fz} {get:Nat->Option AObj} {v:Value} {cf:Nat->List Value} {j:Nat}
theorem vI{l:List Int}(h:VW F get v l cf j)(hj:j<l.length:=by first|(dsimp only;omega)|omega):HC get (sB v) (sO v+j*Rp.sz Int) [.int .i64 (l.getD j 0)]:=by obtain⟨⟨h1,_⟩,h2⟩:=h.1 0 hj;rw[h1]at h2;exact h2
theorem fI{l:List Int}(h:VW F get v l cf j):in64 (l.getD j 0):=by
 rcases a0j j l.length with hj|hj
 ·exact(h.1 0 hj).1.2
 rw[cM hj];decide
theorem vB{l:List Bool}(h:VW F get v l cf j)(hj:j<l.length:=by first|(dsimp only;omega)|omega):HC get (sB v) (sO v+j*Rp.sz Bool) [.bool (l.getD j false)]:=by obtain⟨h1,h2⟩:=h.1 false hj;rw[show cf j=_ from h1]at h2;exact h2
theorem vS{l:List Str}(h:VW F get v l cf j)(hj:j<l.length:=by first|(dsimp only;omega)|omega):HC get (sB v) (sO v+j*Rp.sz Str) [.string ⟨⟨(l.getD j default).b⟩⟩]:=by obtain⟨h1,h2⟩:=h.1 default hj;rw[show cf j=_ from h1]at h2;exact h2
theorem vU{l:List U64}(h:VW F get v l cf j)(hj:j<l.length:=by first|(dsimp only;omega)|omega):HC get (sB v) (sO v+j*Rp.sz U64) [.int .u64 (l.getD j default).n]:=by obtain⟨⟨h1,_⟩,h2⟩:=h.1 default hj;rw[h1]at h2;exact h2
theorem fU{l:List U64}(h:VW F get v l cf j):0<=(l.getD j default).n/\(l.getD j default).n<18446744073709551616:=by
 rcases a0j j l.length with hj|hj
 ·exact(h.1 default hj).1.2
 rw[cM hj];exact⟨Int.le_refl _,by decide⟩
theorem vL{α:Type} [Rp α]{l:List (List α)}(h:VW F get v l cf j)(hj:j<l.length:=by first|(dsimp only;omega)|omega):HC get (sB v) (sO v+j*Rp.sz (List α)) [.slice (cA (cf j) 0) (l.getD j default).length (cK (cf j) 0)]:=by obtain⟨⟨a,k,h1,_⟩,h2⟩:=h.1 default hj;rw[h1]at h2⊢;exact h2
theorem fL{α:Type} [Rp α]{l:List (List α)}(h:VW F get v l cf j):SR F (.slice (cA (cf j) 0) (l.getD j default).length (cK (cf j) 0)) (l.getD j default):=by
 rcases a0j j l.length with hj|hj
 ·obtain⟨⟨a,k,h1,h3⟩,_⟩:=h.1 default hj;rw[h1];exact h3
 rw[cM hj,h.2 hj];exact SR.nil
theorem ap_callc{P:Program}{f0:Operand}{d:Option Tmp}{ty:TypeId}{pos:String}{af:Array Edge}{gd:Option (Nat×Bool)}{H:Heap}{args:Array Operand}{ats:Array TypeId}{i:FuncId}{fn:Func}{f:Fn}{l:List Value}{x y:Array Value}(hv:dq f f0= .func (.func i) x y)(hf:P.funcs[i]?=some fn)(hb:(fn.body.isSome&& !(fn.name== "runtime.NumGoroutine"))=true)(hl:appL x.toList (appL (eQ (dq f) args.toList) y.toList)=l):
  AP P (dq f) ⟨d,.call ⟨.value f0,args,ats⟩,ty,pos,af,gd⟩ H (.enter i l,H):=by
 refine⟨?_⟩
 show eZ (fg P (dq f f0) (eQ (dq f) args.toList)) H=_
 rw[hv]
 unfold fg
 simp only[hf,hb,cond_true,hl]
 rfl
end
theorem vq{a b:Int}(ha:in64 a)(hb:b≠ -1):rng .i64 (a.tdiv b):=by
 show in64 _;by_cases h0:b=0
 ·subst h0;rw[Int.tdiv_zero];decide
 have h1:(a.tdiv b).natAbs=a.natAbs/b.natAbs:=Int.natAbs_tdiv a b;by_cases h3:b=1
 ·subst h3;rw[Int.tdiv_one];exact ha
 have h4:2<=b.natAbs:=by omega
 have h5:(a.tdiv b).natAbs*2<=a.natAbs:=by rw[h1];exact a0c (Nat.mul_le_mul_left _ h4) (Nat.div_mul_le_self _ _)
 obtain⟨h6,h7⟩:=ha;clear h1;constructor<;>omega
theorem ve{n m:Int}(h:n=m)(h2: -9223372036854775808<=m/\m<9223372036854775808):n=m/\rng .i64 m:=⟨h,h2⟩
section
variable {P:Program} {t:TypeId} {fs:Array Field} {xs ys:List Value} {bs:List Bool}
theorem agEq(hax:xs.all noA0=true)(hay:ys.all noA0=true)(hu:P.underlying t=some (.struct fs))(hs:P.stoodInHeld t=false)(hg:P.eqGuardType P.depth t=false)(h:EqFs P 9999 ⟨xs⟩ ⟨ys⟩ fs.toList bs):AGB P .eql t (.agg ⟨xs⟩) (.agg ⟨ys⟩) (.bool (bs.all id)):=
 fun _ _ _ _ _ _ _ _ _ _ hx hy=>ap_agEq hx hy hax hay hu hs hg h
theorem agNe(hax:xs.all noA0=true)(hay:ys.all noA0=true)(hu:P.underlying t=some (.struct fs))(hs:P.stoodInHeld t=false)(hg:P.eqGuardType P.depth t=false)(h:EqFs P 9999 ⟨xs⟩ ⟨ys⟩ fs.toList bs):AGB P .neq t (.agg ⟨xs⟩) (.agg ⟨ys⟩) (.bool (!bs.all id)):=by
 intro ρ x y yt d ty pos af gd H hx hy;refine⟨?_⟩;show aBin P ρ _ .neq t (ρ x) y H=_;rw[hx];show bw P ρ _ H=_;unfold bw;have h1:((Op.binOp .neq t x y yt).operands.toList.all fun x=>gF (ρ x))=true:=by simp[Op.operands,hx,hy,gP hax,gP hay]
 simp only[h1,cond_true];have h2:aB P (execOp ρ ⟨d,.binOp .neq t x y yt,ty,pos,af,gd⟩)=some (.value (Value.bool (!bs.all id))):=by
  unfold execOp;simp only[hx,hy,aN];have e1:aB P (eqGuard .neq t x y (.agg ⟨xs⟩) (.agg ⟨ys⟩))=some ():=by simp[eqGuard,hg]
  have e2:aB P (binOp .neq t (.agg ⟨xs⟩) (.agg ⟨ys⟩))=some (Value.bool (!bs.all id)):=by show aB P (Op.equal t (.agg ⟨xs⟩) (.agg ⟨ys⟩)>>=fun b=>(Pure.pure (Value.bool (!b)):Sem Value))=_;rw[aN,show Op.equal t (.agg ⟨xs⟩) (.agg ⟨ys⟩)=Op.equalIn (9999+1) t (.agg ⟨xs⟩) (.agg ⟨ys⟩) from rfl,eq_struct hu hs h];rfl
  simp only[e1,e2,a0o];rfl
 rw[h2];rfl
end
end Go.R
end
noncomputable section
namespace Go.R
section
variable {B:Base} {F:Fz} {H:Heap} {L R:List Fp} {x:Fp}
theorem HS.first(h:HS B F H (x::L) R):HS B F H [x] R:=HS.sub h (by simp)
theorem HS.didW{H0:Heap}{W:List Nat}(h:HS (.of {H0 with log:=[]} W) F H L R): ∀b,b∈H.log->H0.next<=b\/b∈W:=fun b hb=>by
 rcases h.log b hb with h1|h1|h1
 ·simp[Base.of]at h1
 ·exact .inl h1
 exact .inr h1
end
end Go.R
end
namespace Go.R
theorem dG{P:Program}{ρ:Operand->Value}{d:Option Tmp}{ty:TypeId}{pos:String}{af:Array Edge}{gd:Option (Nat×Bool)}{H:Heap}{x:Operand}{a:Addr}(hx:ρ x= .pointer (some a)):AP P ρ ⟨d,.nilCheck x,ty,pos,af,gd⟩ H (.val (.pointer (some a)),H):=by refine⟨?_⟩;show opNil (ρ x) H=_;rw[hx];rfl
end Go.R
namespace Go.R
theorem over_all: ∀(cs vs:List Value),cs.length=vs.length->over cs vs=vs
 | [],[],_=>rfl
 | [],_::_,h=>by simp at h
 |_::_,[],h=>by simp at h
 |c::cs,v::vs,h=>by show v::over cs vs=_;rw[over_all cs vs (by simpa using h)]
theorem st_whole{α:Type} [Rp α]{F:Fz}{X Y:α}{cl:List Value}(h:Rp.rep F cl Y): ∀cs,Rp.rep F cs X->0+cl.length<=cs.length/\Rp.rep F (bp cs 0 cl) Y:=by
 intro cs hc;have h1:=Rp.len h;have h2:=Rp.len hc;refine⟨by omega,?_⟩;have:bp cs 0 cl=over cs cl:=by cases cs<;>rfl
 rw[this,over_all _ _ (by omega)];exact h
end Go.R
namespace Go.R
theorem HS.nin{B:Base}{F:Fz}{H:Heap}{L R:List Fp}(h:HS B F H L R){i j:Nat}{p q:Fp}(hi:L[i]?=some p)(hj:L[j]?=some q)(hij:i≠j){b:Nat}(hb:b∈p.map Prod.fst):b∉q.map Prod.fst:=by
 intro hq;have hc:=h.callOwn hi;have hnd:=hc.nd;have hjm:q∈L.set i []:=by refine a0k (i:=j) ?_;rw[a28 hij];exact hj
 simp only[a0P,a11,a0L,a0Y,a1h]at hnd;refine hnd.2.2 b hb b ?_ rfl;obtain⟨⟨b',o⟩,hb',rfl⟩:=a0r.1 hq;exact a0r.2 ⟨(b',o),a0N.2 ⟨q,List.mem_append_left _ hjm,hb'⟩,rfl⟩
end Go.R
namespace Go.R
theorem SR.len'{α:Type} [Rp α]{F:Fz}{a:Option Addr}{n k:Nat}{l:List α}(h:SR F (.slice a n k) l):l.length=n:=by obtain⟨a',k',e⟩:=Sv.shape h;injection e with _ e _;exact e.symm
theorem SR.norm{α:Type} [Rp α]{F:Fz}{a:Option Addr}{n k:Nat}{l:List α}(h:SR F (.slice a n k) l):SR F (.slice a l.length k) l:=by rw[h.len'];exact h
theorem HS.apq{B:Base}{F:Fz}{H:Heap}{L R:List Fp}(h:HS B F H L R){i:Nat}{p:Fp}(hi:L[i]?=some p): ∀b,b∈p.map Prod.fst->¬F b≠none:=by intro b hb hn;obtain⟨⟨b',o⟩,hbo,rfl⟩:=a0r.1 hb;exact hn (h.own p (.inl (a0k hi)) b' o hbo).2.2
theorem SR.q{α:Type} [Rp α]{F:Fz}{a:Option Addr}{n k:Nat}{l:List α}(h:SR F (.slice a n k) l): ∀p,a=some p->F p.block≠none:=by
 intro p hp;rcases h with⟨e,_⟩|⟨b,off,k',o,e,hF,_⟩
 ·injection e with e1;rw[e1]at hp;cases hp
 injection e with e1;rw[e1]at hp;obtain rfl:=Option.some.inj hp;rw[show F b=some o from hF];exact fun hx=>by cases hx
end Go.R
noncomputable section
set_option linter.unusedVariables false
namespace Go.R
open Go
section
variable {P:Program} {G:Nat} {K:bN} {sz:Nat} {Q:Ex->Fn->Heap->Prop} {ops:Array Oper} {D:List (Nat×ID)} {i:Nat} {os:List Oper} {k k1 k2:List Fr} {c c1 c2:Code} {f:Fn} {H H1:Heap} {v:Value}
variable {d:Tmp} {ty:TypeId} {pos:String} {af:Array Edge} {x y:Operand}
theorem zi(n m:Nat){a b:Code}{v:Bool}(ht:v=true->WK P G K sz c1 k1 f H Q)(he:v=false->WK P G K sz c2 k2 f H Q)(hx:dq f x= .bool v:=by rfl)(ho:bB G x=true:=by rfl)(h1:foc n a k=(c1,k1):=by rfl)(h2:foc m b k=(c2,k2):=by rfl):WK P G K sz (.cond x a b) k f H Q:=aq n m hx ho h1 h2 ht he
theorem zd(n m:Nat){a b:Code}{p:Prop}{i:Decidable p}(ht:p->WK P G K sz c1 k1 f H Q)(he: ¬p->WK P G K sz c2 k2 f H Q)(hx:dq f x= .bool (@decide p i):=by rfl)(ho:bB G x=true:=by rfl)(h1:foc n a k=(c1,k1):=by rfl)(h2:foc m b k=(c2,k2):=by rfl):WK P G K sz (.cond x a b) k f H Q:=aq n m hx ho h1 h2 (fun h=>ht (of_decide_eq_true h)) fun h=>he (of_decide_eq_false h)
theorem ze(n:Nat)(h:WK P G K sz c1 k1 f H Q)(hf:foc n .skip k=(c1,k1):=by rfl):WO P G K sz ops [] k f H Q:=ap n hf h
theorem zf(n:Nat)(h:WK P G K sz c1 k1 f H Q)(hf:foc n c k=(c1,k1):=by rfl):WK P G K sz c k f H Q:=au n hf h
theorem za(v:Value)(h:WO P G K sz ops os k (upd f d v) H Q)(hx:dq f x=v:=by rfl)(ho:(Op.assign x).operands.toList.all (bB G)=true:=by rfl)(hd:Nat.ble (d+1) sz=true:=by rfl):WO P G K sz ops (⟨some d,.assign x,ty,pos,af,none⟩::os) k f H Q:=wa v hx ho hd h
theorem zm(v:Value)(h:WO P G K sz ops os k (upd f d v) H Q)(hx:dq f x=v:=by rfl)(ho:(Op.move x).operands.toList.all (bB G)=true:=by rfl)(hd:Nat.ble (d+1) sz=true:=by rfl):WO P G K sz ops (⟨some d,.move x,ty,pos,af,none⟩::os) k f H Q:=wm v hx ho hd h
theorem zfm(v:Value)(h:WF2 P G K sz ops ((i,.v)::D) (i+1) os k (upd f d v) H Q)(hx:dq f x=v:=by rfl)(ho:(Op.move x).operands.toList.all (bB G)=true:=by rfl)(hd:Nat.ble (d+1) sz=true:=by rfl):WF2 P G K sz ops D i (⟨some d,.move x,ty,pos,af,none⟩::os) k f H Q:=fm v hx ho hd h
theorem zc{args:Array Operand}{ats:Array TypeId}{g:FuncId}{fn:Func}{l:List Value}{R:Value->Heap->Prop}(hc:C P G K g l H R)(h: ∀v H2,R v H2->WO P G K sz ops os k (upd f d v) H2 Q)(hf:P.funcs[g]?=some fn:=by rfl)(hb:(fn.body.isSome&& !(fn.name== "runtime.NumGoroutine"))=true:=by rfl)(hl:eQ (dq f) args.toList=l:=by rfl)(ho:(Op.call ⟨.value (.func g),args,ats⟩).operands.toList.all (bB G)=true:=by rfl)(hd:Nat.ble (d+1) sz=true:=by rfl):
  WO P G K sz ops (⟨some d,.call ⟨.value (.func g),args,ats⟩,ty,pos,af,none⟩::os) k f H Q:=aI (am hf hb hl) ho hd hc h
theorem zp{s:TypeId}{b o n:Nat}(o'':Nat)(h:WF2 P G K sz ops ((i,.v)::D) (i+1) os k (upd f d (.pointer (some ⟨b,o'',none⟩))) H Q)(hx:dq f x= .pointer (some ⟨b,o,none⟩):=by rfl)(ha:hN P s (.pointer (some ⟨b,o,none⟩)) n=some (.pointer (some ⟨b,o'',none⟩)):=by rfl)(ho:(Op.fieldAddr s x n).operands.toList.all (bB G)=true:=by rfl)(hd:Nat.ble (d+1) sz=true:=by rfl):WF2 P G K sz ops D i (⟨some d,.fieldAddr s x n,ty,pos,af,none⟩::os) k f H Q:=aC (dr hx ha) ho hd (fZ rfl) (el _) h
theorem zl{t:TypeId}{b o o':Nat}(j:Nat){cs:List Value}{w:Value}(hc:HC ({H with log:=[]}:Heap).get b o cs)(h:WF2 P G K sz ops ((i,.l b)::D) (i+1) os k (upd f d w) H Q)(hx:dq f x= .pointer (some ⟨b,o',none⟩):=by rfl)(ha:gc P t=some false:=by rfl)(hj:o'=o+j:=by rfl)(hv:cs[j]?=some w:=by rfl)(ho:(Op.load t x).operands.toList.all (bB G)=true:=by rfl)(hd:Nat.ble (d+1) sz=true:=by rfl)(hk:okB ops i (.l b) D=true:=by rfl):WF2 P G K sz ops D i (⟨some d,.load t x,ty,pos,af,none⟩::os) k f H Q:=aC (bG (H:={H with log:=[]}) hx ha hc hj hv) ho hd (bC hx) (kb hk) h
theorem zx(α:Type) [Rp α]{t e:TypeId}{ki:IntKind}{F:Fz}{l:List α}(j:Nat)(hs:Sv F ({H with log:=[]}:Heap).get v l)(h:WF2 P G K sz ops ((i,.v)::D) (i+1) os k (upd f d (.pointer (some ⟨sB v,sO v+j*Rp.sz α,none⟩))) H Q)(hj:(j:Int)<l.length:=by first|(dsimp only;omega)|omega)(hx:dq f x=v:=by rfl)(hi:dq f y= .int ki (j:Int):=by rfl)(ht:P.underlying t=some (.slice e):=by rfl)(hz:dw P e=some (Rp.sz α):=by rfl)(ho:(Op.indexAddr t x y).operands.toList.all (bB G)=true:=by rfl)(hd:Nat.ble (d+1) sz=true:=by rfl):
  WF2 P G K sz ops D i (⟨some d,.indexAddr t x y,ty,pos,af,none⟩::os) k f H Q:=aC (bg (H:={H with log:=[]}) hx hi ht hz hs (by omega) hj) ho hd (fZ rfl) (el _) h
theorem zy(α:Type) [Rp α]{t e:TypeId}{ki:IntKind}{F:Fz}{l:List α}(j:Int)(hs:Sv F ({H with log:=[]}:Heap).get v l)(h:WF2 P G K sz ops ((i,.v)::D) (i+1) os k (upd f d (.pointer (some ⟨sB v,sO v+j.toNat*Rp.sz α,none⟩))) H Q)(h0:0<=j:=by first|(dsimp only;omega)|omega)(hj:j<l.length:=by first|(dsimp only;omega)|omega)(hx:dq f x=v:=by rfl)(hi:dq f y= .int ki j:=by rfl)(ht:P.underlying t=some (.slice e):=by rfl)(hz:dw P e=some (Rp.sz α):=by rfl)(ho:(Op.indexAddr t x y).operands.toList.all (bB G)=true:=by rfl)(hd:Nat.ble (d+1) sz=true:=by rfl):
  WF2 P G K sz ops D i (⟨some d,.indexAddr t x y,ty,pos,af,none⟩::os) k f H Q:=aC (bg (H:={H with log:=[]}) hx hi ht hz hs h0 hj) ho hd (fZ rfl) (el _) h
end
end Go.R
end
noncomputable section
namespace Go.R
section
variable {B:Base} {F F':Fz} {H:Heap} {L R:List Fp}
theorem HS.flat(h:HS B F H L R){L':List Fp}(hp:L'.flatten.Perm L.flatten):HS B F H L' R:=by
 have hm: ∀p,p∈L'->∀x,x∈p->∃p',p'∈L/\x∈p':=fun p hpL x hx=>a0N.1 (hp.mem_iff.1 (a0N.2 ⟨p,hpL,hx⟩))
 refine⟨h.fz,fun p hp' b o hb=>?_,?_,h.n0,h.log,fun p hp' b o hb=>?_⟩
 ·rcases hp' with hp'|hp'
  ·obtain⟨p',h1,h2⟩:=hm p hp' _ hb;exact h.own p' (.inl h1) b o h2
  exact h.own p (.inr hp') b o hb
 ·have:=h.nd;rw[a0M]at this⊢;exact(((hp.append_right R.flatten).map _).nodup_iff).2 this
 obtain⟨p',h1,h2⟩:=hm p hp' _ hb;exact h.mine p' h1 b o h2
theorem jR{α:Type}{L:List (List α)}{i:Nat}{p:List α}(q:List α)(hi:L[i]?=some p):((L.set i q).flatten++p).Perm (L.flatten++q):=by obtain⟨A,C,e1,e2⟩:=gV L i p q hi;rw[e2,e1];simp only[a0M,a0L,a0l];refine a0W _ ?_;refine List.Perm.trans (a0W q a1m) ?_;refine List.Perm.trans (a12 q p _) ?_;exact a0W p a1m
theorem HS.open(h:HS B F H L R){i:Nat}{p q r:Fp}(hi:L[i]?=some p)(hp:p.Perm (q++r)):HS B F H (L.set i q++[r]) R:=by
 refine h.flat ?_;have h1:=jR q hi;have h2:((L.set i q).flatten++r++q).Perm (L.flatten++q):=by refine List.Perm.trans ?_ h1;rw[a0l];exact a0W _ (a1m.trans hp.symm)
 have h3:=(List.perm_append_right_iff q).1 h2;simpa[a0M] using h3
theorem HS.close(h:HS B F H L R){i j:Nat}{p q r:Fp}(hne:i≠j)(hi:L[i]?=some q)(hj:L[j]?=some r)(hp:p.Perm (q++r)):HS B F H ((L.set i p).set j []) R:=by
 refine h.flat ?_;have h1:=jR p hi;have hj':(L.set i p)[j]?=some r:=by rw[a28 hne];exact hj
 have h2:=jR [] hj';rw[a0E]at h2;have h3:(((L.set i p).set j []).flatten++(r++q)).Perm (L.flatten++p):=by rw[←a0l];exact(h2.append_right q).trans h1
 have h4:(((L.set i p).set j []).flatten++p).Perm (L.flatten++p):=(a0W _ (hp.trans a1m)).trans h3;exact(List.perm_append_right_iff p).1 h4
end
structure Hd where
 a:Option Addr
 n:Nat
 k:Nat
instance :Inhabited Hd:=⟨⟨none,0,0⟩⟩
def Hd.v(h:Hd):Value:= .slice h.a h.n h.k
instance :Rp Hd where
 sz:=1
 rep _ cs h:=cs=[.slice h.a h.n h.k]
 len:=by rintro F cs x rfl;rfl
 one:=by rintro F cs x rfl;rfl
 mono:=by intro F F' cs x _ h;exact h
theorem vH{F:Fz}{get:Nat->Option AObj}{v:Value}{l:List Hd}{cf:Nat->List Value}{j:Nat}(h:VW F get v l cf j)(hj:j<l.length:=by first|(dsimp only;omega)|omega):
  HC get (sB v) (sO v+j*Rp.sz Hd) [.slice (l.getD j default).a (l.getD j default).n (l.getD j default).k]:=by
 obtain⟨h1,h2⟩:=h.1 default hj
 rw[show cf j=_ from h1]at h2;exact h2
def FAM{ι β:Type}(Ch:Fz->ι->β->Fp->Prop)(F:Fz):List ι->List β->Fp->Prop
 | [],[],p=>p=[]
 |h::hs,x::xs,p=> ∃q r,p=q++r/\Ch F h x q/\FAM Ch F hs xs r
 |_,_,_=>False
section
variable {ι β:Type} {Ch:Fz->ι->β->Fp->Prop} {F F':Fz}
theorem FAM.len: ∀{hs:List ι} {xs:List β} {p:Fp},FAM Ch F hs xs p->hs.length=xs.length
 | [],[],_,_=>rfl
 |_::_,_::_,_,⟨_,_,_,_,h⟩=>by rw[a0a,a0a,h.len]
 | [],_::_,_,h=>h.elim
 |_::_,[],_,h=>h.elim
theorem FAM.mono(hm: ∀{h x q},Ch F h x q->Ch F' h x q): ∀{hs:List ι} {xs:List β} {p:Fp},FAM Ch F hs xs p->FAM Ch F' hs xs p
 | [],[],_,h=>h
 |_::_,_::_,_,⟨q,r,e,h1,h⟩=>⟨q,r,e,hm h1,h.mono hm⟩
 | [],_::_,_,h=>h.elim
 |_::_,[],_,h=>h.elim
theorem FAM.rep{h0:ι}{x0:β}(k:Ch F h0 x0 []): ∀n,FAM Ch F (List.replicate n h0) (List.replicate n x0) []
 |0=>rfl
 |n+1=>⟨[],[],rfl,k,FAM.rep k n⟩
theorem FAM.open [Inhabited ι] [Inhabited β](hm: ∀{G G':Fz},G.le G'->∀{h x q},Ch G h x q->Ch G' h x q): ∀{hs:List ι} {xs:List β} {p:Fp} (i:Nat),FAM Ch F hs xs p->i<xs.length->
  ∃q r,p.Perm (q++r)/\Ch F (hs.getD i default) (xs.getD i default) r/\∀F',F.le F'->∀h' x' r',Ch F' h' x' r'->∃p',p'.Perm (q++r')/\FAM Ch F' (hs.set i h') (xs.set i x') p'
 | [],[],_,i,_,hi=>by simp at hi
 |h::hs,x::xs,p,0,⟨q,r,e,h1,h2⟩,_=>by refine⟨r,q,by rw[e];exact a1m,h1,fun F' hF h' x' r' hc=>⟨r'++r,a1m,r',r,rfl,hc,h2.mono (hm hF)⟩⟩
 |h::hs,x::xs,p,i+1,⟨q,r,e,h1,h2⟩,hi=>by
  obtain⟨q1,r1,g1,g2,g3⟩:=FAM.open hm i h2 (by simpa using hi);refine⟨q++q1,r1,?_,by simpa using g2,fun F' hF h' x' r' hc=>?_⟩
  ·rw[e,a0l];exact a0W q g1
  obtain⟨p',g4,g5⟩:=g3 F' hF h' x' r' hc;exact⟨q++p',by rw[a0l];exact a0W q g4,q,p',rfl,hm hF h1,by simpa using g5⟩
 | [],_::_,_,_,h,_=>h.elim
 |_::_,[],_,_,h,_=>h.elim
theorem FAM.at [Inhabited ι] [Inhabited β]: ∀{hs:List ι} {xs:List β} {p:Fp} (i:Nat),FAM Ch F hs xs p->i<xs.length->∃q,(∀x,x∈q->x∈p)/\Ch F (hs.getD i default) (xs.getD i default) q
 | [],[],_,i,_,hi=>by simp at hi
 |_::_,_::_,_,0,⟨q,r,e,h1,h2⟩,_=>⟨q,fun x hx=>by rw[e];exact a08.2 (.inl hx),h1⟩
 |_::hs,_::xs,_,i+1,⟨q,r,e,h1,h2⟩,hi=>by obtain⟨q',g1,g2⟩:=FAM.at i h2 (by simpa using hi);exact⟨q',fun x hx=>by rw[e];exact a08.2 (.inr (g1 x hx)),by simpa using g2⟩
 | [],_::_,_,_,h,_=>h.elim
 |_::_,[],_,_,h,_=>h.elim
end
theorem en{β:Type}{d:β}: ∀(l:List β) (i:Nat),l.set i (l.getD i d)=l
 | [],_=>rfl
 |_::_,0=>rfl
 |x::l,i+1=>by have:=en (d:=d) l i;simp only[a2f,a1U];rw[this]
section
variable {α:Type} [Rp α] {F F':Fz}
theorem OS.froz{v:Value}{l:List α}{p:Fp}(h:OS F v l p)(hF:F.le F')(hp: ∀b o,(b,o)∈p->F' b=some o):SR F' v l:=by
 rcases h with⟨h4,h5,_⟩|⟨b,off,k,cs,opn,h4,h5,h6⟩
 ·exact .inl ⟨h4,h5⟩
 exact .inr ⟨b,off,k,_,h4,hp b _ (by rw[h5];simp),h6.mono hF⟩
theorem SR.n{h:Hd}{l:List α}(k:SR F h.v l):h.n=l.length:=by obtain⟨a,k',e⟩:=Sv.shape k;unfold Hd.v at e;injection e
theorem RL.conv{β:Type} [Rp β]: ∀{l:List α} {m:List β} {cs:List Value},l.length=m.length->(∀(i:Nat) x y,l[i]?=some x->m[i]?=some y->∀c,Rp.rep F c x->Rp.rep F' c y)->RL F cs l->RL F' cs m
 | [],[],_,_,_,h=>h
 |x::l,y::m,cs,hl,hc,⟨c,r,e,h1,h2⟩=>⟨c,r,e,hc 0 x y rfl rfl c h1,RL.conv (by simpa using hl) (fun i a b ha hb=>hc (i+1) a b (by simpa using ha) (by simpa using hb)) h2⟩
theorem SR.conv{β:Type} [Rp β]{v:Value}{l:List α}{m:List β}(hz:Rp.sz α=Rp.sz β)(h:SR F v l)(hl:l.length=m.length)(hF:F.le F')(hc: ∀(i:Nat) x y,l[i]?=some x->m[i]?=some y->∀c,Rp.rep F c x->Rp.rep F' c y):SR F' v m:=by
 rcases h with⟨rfl,rfl⟩|⟨b,off,k,o,h1,h2,cs,opn,ro,e,h3,h4,h5,h6⟩
 ·cases m with
  |nil=>exact .inl ⟨rfl,rfl⟩
  |cons _ _=>simp at hl
 refine .inr ⟨b,off,k,o,by rw[←hl];exact h1,hF _ _ h2,cs,opn,ro,e,by rw[←hz];exact h3,by rw[←hl];exact h4,?_,by rw[←hz];exact h6⟩;rw[←hl,←hz];exact RL.conv hl hc h5
theorem SR.nin{B:Base}{H:Heap}{L R:List Fp}{v:Value}{l:List α}{i j:Nat}{p:Fp}(h:SR F v l)(s:HS B F H L R)(hi:L[i]?=some p)(hj:j<l.length):sB v∉p.map Prod.fst:=by
 rcases h with⟨_,rfl⟩|⟨b,off,k,o,rfl,h2,_⟩
 ·simp at hj
 intro hm;obtain⟨⟨b',o'⟩,hb,e⟩:=a0r.1 hm;have e':b'=b:=e;subst e';have:=(s.own p (.inl (a0k hi)) b' o' hb).2.2;rw[h2]at this;cases this
class Ri(α:Type) [Rp α]:Prop where
 ind: ∀{F F':Fz} {cs:List Value} {x:α},Rp.rep F cs x->Rp.rep F' cs x
instance :Ri Int:=⟨fun h=>h⟩
instance :Ri Bool:=⟨fun h=>h⟩
instance :Ri Str:=⟨fun h=>h⟩
instance :Ri U64:=⟨fun h=>h⟩
instance :Ri UInt8:=⟨fun h=>h⟩
instance :Ri Hd:=⟨fun h=>h⟩
theorem OS.ind [Ri α]{v:Value}{l:List α}{p:Fp}(h:OS F v l p):OS F' v l p:=by
 rcases h with h|⟨b,off,k,cs,opn,h1,h2,cs',opn',ro',e,h3,h4,h5,h6⟩
 ·exact .inl h
 exact .inr ⟨b,off,k,cs,opn,h1,h2,cs',opn',ro',e,h3,h4,RL.conv rfl (fun i x y hx hy c hc=>by rw[hx]at hy;cases hy;exact Ri.ind hc) h5,h6⟩
end
class HasHd(ι:Type) where
 hd:ι->Hd
instance :HasHd Hd:=⟨fun h=>h⟩
def OH{ι α:Type} [HasHd ι] [Rp α](F:Fz)(h:ι)(l:List α)(p:Fp):Prop:=OS F (HasHd.hd h).v l p
abbrev SF{ι α:Type} [HasHd ι] [Rp α](F:Fz)(hs:List ι)(ls:List (List α))(p:Fp):Prop:=FAM (OH (ι:=ι) (α:=α)) F hs ls p
section
variable {ι α:Type} [HasHd ι] [Rp α] {F F':Fz} {B:Base} {H:Heap} {L R:List Fp} {hs:List ι} {ls:List (List α)} {p:Fp}
theorem SF.mono(hF:F.le F')(h:SF F hs ls p):SF F' hs ls p:=FAM.mono (Ch:=OH (ι:=ι) (α:=α)) (fun k=>OS.mono (α:=α) hF k) h
theorem SF.rep(n:Nat):SF F (List.replicate n (default:Hd)) (List.replicate n ([]:List α)) []:=FAM.rep (Ch:=OH (ι:=Hd) (α:=α)) (show OS F (Hd.v default) ([]:List α) [] from OS.nil) n
def SB(F:Fz)(hs:List ι)(ls:List (List α))(i:Nat)(p1:Fp):Prop:= ∀F',F.le F'->∀h' l' r',OH F' h' l' r'->∃p',p'.Perm (p1++r')/\SF F' (hs.set i h') (ls.set i l') p'
theorem OS.nlen{a:Option Addr}{n k:Nat}{l:List α}{p:Fp}(h:OS F (.slice a n k) l p):n=l.length:=by obtain⟨a',k',e⟩:=h.shape;injection e
theorem SF.shutN{p1 p2:Fp}{i:Nat}{l':List α}(h':ι)(w:SB F hs ls i p1)(hF:F.le F')(s:HS B F' H L R){q m:Nat}(hne:q≠m)(hq:L[q]?=some p1)(hm:L[m]?=some p2)
  (h:OS F' (HasHd.hd h').v l' p2): ∃p',HS B F' H ((L.set q p').set m []) R/\SF F' (hs.set i h') (ls.set i l') p':=by
 obtain⟨p',g1,g2⟩:=w F' hF h' l' p2 h
 exact⟨p',s.close hne hq hm g1,g2⟩
end
section
variable {ι α:Type} [HasHd ι] [Inhabited ι] [Rp α] {F F':Fz} {B:Base} {H:Heap} {L R:List Fp} {hs:List ι} {ls:List (List α)} {p:Fp}
theorem SF.open(h:SF F hs ls p)(s:HS B F H L R){q i:Nat}(hq:L[q]?=some p)(hi:i<ls.length):
  ∃p1 p2,HS B F H (L.set q p1++[p2]) R/\OS F (.slice (HasHd.hd (hs.getD i default)).a (HasHd.hd (hs.getD i default)).n (HasHd.hd (hs.getD i default)).k) (ls.getD i []) p2/\SB F hs ls i p1:=by
 obtain⟨p1,p2,g1,g2,g3⟩:=FAM.open (Ch:=OH (ι:=ι) (α:=α)) (fun hF _ _ _ k=>OS.mono (α:=α) hF k) i h hi
 exact⟨p1,p2,s.open hq g1,g2,g3⟩
theorem SF.shut{p1 p2:Fp}{i:Nat}{l':List α}(w:SB F hs ls i p1)(hF:F.le F')(s:HS B F' H L R){q m:Nat}(hne:q≠m)(hq:L[q]?=some p1)(hm:L[m]?=some p2)
  (h:OS F' (.slice (HasHd.hd (hs.getD i default)).a (HasHd.hd (hs.getD i default)).n (HasHd.hd (hs.getD i default)).k) l' p2): ∃p',HS B F' H ((L.set q p').set m []) R/\SF F' hs (ls.set i l') p':=by
 have:=SF.shutN (hs.getD i default) w hF s hne hq hm h
 rw[en]at this;exact this
theorem SF.shut0{p1 p2:Fp}{i:Nat}(w:SB F hs ls i p1)(hF:F.le F')(s:HS B F' H L R){q m:Nat}(hne:q≠m)(hq:L[q]?=some p1)(hm:L[m]?=some p2)
  (h:OS F' (.slice (HasHd.hd (hs.getD i default)).a (HasHd.hd (hs.getD i default)).n (HasHd.hd (hs.getD i default)).k) (ls.getD i []) p2): ∃p',HS B F' H ((L.set q p').set m []) R/\SF F' hs ls p':=by
 have:=SF.shut w hF s hne hq hm h
 rw[en]at this;exact this
theorem SF.freeze(h:SF F hs ls p)(s:HS B F H L R){q:Nat}(hq:L[q]?=some p): ∃F',F.le F'/\HS B F' H (L.set q []) R/\(∀i,i<ls.length->SR F' (HasHd.hd (hs.getD i default)).v (ls.getD i [])):=by obtain⟨F',h1,h2,h3⟩:=s.freeze hq;refine⟨F',h1,h2,fun i hi=>?_⟩;obtain⟨r,g1,g2⟩:=FAM.at (Ch:=OH (ι:=ι) (α:=α)) i h hi;exact OS.froz (α:=α) g2 h1 fun b o hb=>h3 b o (g1 _ hb)
end
section
variable {α:Type} [Rp α] {F F':Fz} {B:Base} {H:Heap} {L R:List Fp}
theorem SR.rows{v:Value}{hs:List Hd}{ls:List (List α)}(h:SR F v hs)(hl:hs.length=ls.length)(k: ∀i,i<ls.length->SR F (HasHd.hd (hs.getD i default)).v (ls.getD i [])):SR F v ls:=by
 refine SR.conv (α:=Hd) (β:=List α) rfl h hl F.le_refl fun i x y hx hy c hc=>?_
 have hi:=(a0u.1 hy).1;have k1:=k i hi;have e1:hs.getD i default=x:=by rw[a01,hx];rfl
 have e2:ls.getD i []=y:=by rw[a01,hy];rfl
 rw[e1,e2]at k1;have hn:=SR.n (h:=x) k1;have hc':c=[.slice x.a x.n x.k]:=hc;refine⟨x.a,x.k,by rw[←hn];exact hc',?_⟩;rw[←hn];exact k1
theorem HS.thawX{F1 F2:Fz}{H':Heap}{M:List Fp}{i:Nat}{p:Fp}(h:HS B F H L R)(hi:L[i]?=some p)(hF:F.le F1)(hp: ∀b o,(b,o)∈p->F1 b=some o)(hF2:F1.le F2)(k:HS B F2 H' (L.set i []++M) R):HS B F H' (L++M) R:=by
 obtain⟨A,C,e1,e2⟩:=eM L i p hi;have hpL:p∈L:=a0k hi;have hF12: ∀b,F2 b=none->F b=none:=fun b hb=>by
  cases hq:F b with
  |none=>rfl
  |some z=>rw[hF2 _ _ (hF _ _ hq)]at hb;cases hb
 refine⟨fun b o hb=>k.fz b o (hF2 _ _ (hF _ _ hb)),fun x hx b o hb=>?_,?_,k.n0,k.log,fun x hx b o hb=>?_⟩
 ·by_cases hxp:x=p
  ·subst hxp;obtain⟨g1,g2⟩:=k.fz b o (hF2 _ _ (hp b o hb));exact⟨g1,g2,(h.own x (.inl hpL) b o hb).2.2⟩
  have hk:x∈L.set i []++M\/x∈R:=by
   rcases hx with hx|hx
   ·rcases a08.1 hx with hx|hx
    ·refine .inl (a08.2 (.inl ?_));rw[e2];rw[e1]at hx;rcases a08.1 hx with hx|hx
     ·exact a08.2 (.inl hx)
     rcases a0n.1 hx with hx|hx
     ·exact absurd hx hxp
     exact a08.2 (.inr (a0g _ hx))
    exact .inl (a08.2 (.inr hx))
   exact .inr hx
  obtain⟨g1,g2,g3⟩:=k.own x hk b o hb;exact⟨g1,g2,hF12 b g3⟩
 ·have kn:=k.nd;have hn:=h.nd;rw[e2]at kn;rw[e1]at hn⊢;have hdis: ∀a,a∈p.map Prod.fst->∀c,c∈M.flatten.map Prod.fst->a≠c:=by rintro a ha c hc rfl;obtain⟨⟨b,o⟩,hb,rfl⟩:=a0r.1 ha;obtain⟨⟨b',o'⟩,hb',e⟩:=a0r.1 hc;obtain⟨x,hx,hbx⟩:=a0N.1 hb';have e':b'=b:=e;subst e';have:=(k.own x (.inl (a08.2 (.inr hx))) b' o' hbx).2.2;rw[hF2 _ _ (hp b' o hb)]at this;cases this
  simp only[a0l,a0P,a0M,a0L,a0Y,a1h,a08,a11]at kn hn⊢;obtain⟨a1,⟨a2,⟨a3,a4,a5⟩,a6⟩,a7⟩:=kn;obtain⟨b1,⟨b2,⟨b3,b4,b5⟩,b6⟩,b7⟩:=hn;refine⟨a1,⟨b2,⟨a2,⟨a3,a4,a5⟩,a6⟩,fun a ha c hc=>?_⟩,fun a ha c hc=>?_⟩
  ·rcases hc with hc|hc|hc
   ·exact b6 a ha c (.inl hc)
   ·exact hdis a ha c hc
   exact b6 a ha c (.inr hc)
  rcases hc with hc|hc|hc|hc
  ·exact b7 a ha c (.inl hc)
  ·exact a7 a ha c (.inl hc)
  ·exact a7 a ha c (.inr (.inl hc))
  exact b7 a ha c (.inr (.inr hc))
 rcases a08.1 hx with hx|hx
 ·exact h.mine x hx b o hb
 exact k.mine x (a08.2 (.inr hx)) b o hb
theorem HS.thawL{F2:Fz}{H':Heap}{L':List Fp}{i i':Nat}{p:Fp}(h:HS B F H L R)(hi:L[i]?=some p)(hF:F.le F2)(hp: ∀b o,(b,o)∈p->F2 b=some o)(hi':L'[i']?=some [])(k:HS B F2 H' L' R):HS B F H' (L'.set i' p) R:=by
 obtain⟨A,C,e1,e2⟩:=gV L' i' [] p hi';have hpL:p∈L:=a0k hi;have hF12: ∀b,F2 b=none->F b=none:=fun b hb=>by
  cases hq:F b with
  |none=>rfl
  |some z=>rw[hF _ _ hq]at hb;cases hb
 have hmem: ∀x,x∈L'.set i' p\/x∈R->x=p\/(x∈L'\/x∈R):=by
  intro x hx;rcases hx with hx|hx
  ·rw[e2]at hx;rcases a08.1 hx with hx|hx
   ·exact .inr (.inl (by rw[e1];exact a08.2 (.inl hx)))
   rcases a0n.1 hx with hx|hx
   ·exact .inl hx
   exact .inr (.inl (by rw[e1];exact a08.2 (.inr (a0g _ hx))))
  exact .inr (.inr hx)
 refine⟨fun b o hb=>k.fz b o (hF _ _ hb),fun x hx b o hb=>?_,?_,k.n0,k.log,fun x hx b o hb=>?_⟩
 ·rcases hmem x hx with rfl|hx
  ·obtain⟨g1,g2⟩:=k.fz b o (hp b o hb);exact⟨g1,g2,(h.own x (.inl hpL) b o hb).2.2⟩
  obtain⟨g1,g2,g3⟩:=k.own x hx b o hb;exact⟨g1,g2,hF12 b g3⟩
 ·have kn:=k.nd;have hn:=h.nodup_of hpL;have hdis: ∀x,x∈L'\/x∈R->∀a,a∈p.map Prod.fst->a∉x.map Prod.fst:=by intro x hx a ha hc;obtain⟨⟨b,o⟩,hb,rfl⟩:=a0r.1 ha;obtain⟨⟨b',o'⟩,hb',e⟩:=a0r.1 hc;have e':b'=b:=e;subst e';have:=(k.own x hx b' o' hb').2.2;rw[hp b' o hb]at this;cases this
  have hfl: ∀(X:List Fp),(∀x∈X,x∈L'\/x∈R)->∀a,a∈p.map Prod.fst->∀c,c∈X.flatten.map Prod.fst->a≠c:=by rintro X hX a ha c hc rfl;obtain⟨y,hy,e⟩:=a0r.1 hc;obtain⟨x,hx,hyx⟩:=a0N.1 hy;exact hdis x (hX x hx) a ha (a0r.2 ⟨y,hyx,e⟩)
  have hA:=hfl A (fun x hx=> .inl (by rw[e1];exact a08.2 (.inl hx)));have hC:=hfl C (fun x hx=> .inl (by rw[e1];exact a08.2 (.inr (a0g _ hx))));have hR:=hfl R (fun x hx=> .inr hx);rw[e1]at kn;rw[e2];simp only[a0l,a0P,a0M,a0L,a0Y,a1h,a08,a11]at kn⊢;obtain⟨a1,⟨a2,a3,a4⟩,a5⟩:=kn;refine⟨a1,⟨hn,⟨a2,a3,a4⟩,fun a ha c hc=>?_⟩,fun a ha c hc=>?_⟩
  ·rcases hc with hc|hc
   ·exact hC a ha c hc
   exact hR a ha c hc
  rcases hc with hc|hc
  ·exact fun e=>hA c hc a ha e.symm
  exact a5 a ha c hc
 rcases hmem x (.inl hx) with rfl|hx'
 ·exact h.mine x hpL b o hb
 rw[e2]at hx;rcases a08.1 hx with hx|hx
 ·exact k.mine x (by rw[e1];exact a08.2 (.inl hx)) b o hb
 rcases a0n.1 hx with rfl|hx
 ·exact h.mine x hpL b o hb
 exact k.mine x (by rw[e1];exact a08.2 (.inr (a0g _ hx))) b o hb
end
end Go.R
end
noncomputable section
namespace Go.R
section
variable {α:Type} [Rp α] {P:Program} {ρ:Operand->Value} {d:Option Tmp} {ty:TypeId} {pos:String} {af:Array Edge} {gd:Option (Nat×Bool)} {B:Base} {F:Fz} {H:Heap} {L R:List Fp} {v:Value} {l:List α} {p:Fp}
def At(α:Type) [Rp α](v:Value)(n i:Nat)(a:Option Addr):Prop:=n<=i\/a=some ⟨sB v,sO v+i*Rp.sz α,none⟩
theorem rs_cutX{x:Operand}{lo:Option Operand}{t e:TypeId}{i q:Nat}(h:OS F v l p)(hs:HS B F H L R)(hq:L[q]?=some p)(hx:ρ x=v)(ht:P.underlying t=some (.slice e))(hz:dw P e=some (Rp.sz α))
  (h2:ca 0 (lo.map ρ)=some i) (hij:i<=l.length):
  ∃r:Rs,AP P ρ ⟨d,.slice t x lo none none,ty,pos,af,gd⟩ H (.val r.v,r.H)/\(∃a k,r.v= .slice a (l.drop i).length k/\r.H=H/\OS F (.slice a (l.drop i).length k) (l.drop i) p/\At α v l.length i a):=by
 have run: ∀w,bx P t v (lo.map ρ) none none H=some w->AP P ρ ⟨d,.slice t x lo none none,ty,pos,af,gd⟩ H (.val w,H):=by intro w hw;refine⟨?_⟩;show ovl (bx P t (ρ x) (lo.map ρ) (Option.map ρ none) (Option.map ρ none) H) H=_;rw[hx,a1V,hw];rfl
 have h1:ca l.length (none:Option Value)=some l.length:=rfl
 have et:(l.take l.length).drop i=l.drop i:=by rw[a1d]
 rcases h with⟨rfl,rfl,rfl⟩|⟨b,off,k,cs,opn,rfl,rfl,g2⟩
 ·have hi0:i=0:=by simpa using hij
  subst hi0;refine⟨⟨.slice none 0 0,H,[]⟩,run _ ?_,none,0,rfl,rfl,OS.nil,.inl (a09 _)⟩;unfold bx;have hbn:=jZ (n:=0) (k:=0) (hi:=(none:Option Value)) rfl h2 (a09 0) (a09 0);simp only[ht,hbn,hz,Option.isSome_some,cond_true]
 have hb:=hs.get hq (a0b.2 rfl)
 have hcut:=Sl_cut (F:=F) g2 hij (a09 _)
 rw[et]at hcut
 obtain⟨cs',opn',ro',e1,g1,g3,g4,g5⟩:=id g2
 injection e1 with e1 e2 e3
 subst e1 e2 e3
 have hbn:=jZ (n:=l.length) (k:=k) (hi:=(none:Option Value)) h1 h2 hij g3
 have hlen:(l.drop i).length=l.length-i:=a0H
 rcases g5 with rfl|rfl
 ·cases hk:Nat.beq k i with
  |true=>
   have hki:=a07 hk
   have e0:l.drop i=[]:=a0s (by rw[hlen];omega)
   refine⟨⟨.slice (some ⟨b,off,none⟩) (l.length-i) (k-i),H,[]⟩,run _ ?_,some ⟨b,off,none⟩,k-i,by rw[hlen],rfl,?_,.inl (by omega)⟩
   ·unfold bx;simp only[ht,hbn,hz,hb,hk,cond_true]
   rw[e0,hki,a1Q]
   exact .inr ⟨b,off,0,cs,none,rfl,rfl,Sl_at0 (k:=k) (l:=l) g2⟩
  |false=>
   refine⟨⟨.slice (some ⟨b,off+i*Rp.sz α,none⟩) (l.length-i) (k-i),H,[]⟩,run _ ?_,_,k-i,by rw[hlen],rfl,.inr ⟨b,_,k-i,cs,none,rfl,rfl,hcut⟩,.inr rfl⟩
   unfold bx
   simp only[ht,hbn,hz,hb,hk,cond_false]
 refine⟨⟨.slice (some ⟨b,off+i*Rp.sz α,none⟩) (l.length-i) (k-i),H,[]⟩,run _ ?_,_,k-i,by rw[hlen],rfl,.inr ⟨b,_,k-i,cs,some (Rp.sz α),rfl,rfl,hcut⟩,.inr rfl⟩
 unfold bx
 simp only[ht,hbn,hz,hb,a0Z,cond_true]
def cpL(l:List α)(i:Nat)(l2:List α):List α:=l.take i++(l2.take (l.length-i)++l.drop (i+min l2.length (l.length-i)))
theorem rs_cp{d0 s0:Operand}{t e:TypeId}{i q k1:Nat}{a1:Option Addr}{l2:List α}{u:Value}(h:OS F v l p)(hs:HS B F H L R)(hq:L[q]?=some p)(hd:ρ d0= .slice a1 (l.drop i).length k1)(ha:At α v l.length i a1)(hi:i<=l.length)
  (h2:OS F u l2 p) (hx:ρ s0=u) (ht:P.underlying t=some (.slice e)) (hz:dw P e=some (Rp.sz α)):
  ∃r:Rs,AP P ρ ⟨d,.call ⟨.builtin .copy, #[d0,s0], #[t,t]⟩,ty,pos,af,gd⟩ H (.val r.v,r.H)/\(r.v= .int .i64 ((min l2.length (l.length-i):Nat):Int)/\OS F v (cpL l i l2) r.p/\HS B F r.H (L.set q r.p) R/\Wr H r.H (p.map Prod.fst)):=by
 have hlen:(l.drop i).length=l.length-i:=a0H
 have hm:lenA u=some l2.length:=(h2.sv hs hq).first.1
 have run: ∀w H1,lW P #[t,t] (.slice a1 (l.length-i) k1) u H=some (w,H1)->AP P ρ ⟨d,.call ⟨.builtin .copy, #[d0,s0], #[t,t]⟩,ty,pos,af,gd⟩ H (.val w,H1):=by intro w H1 hw;refine⟨?_⟩;show ovh (lW P #[t,t] (ρ d0) (ρ s0) H)=_;rw[hd,hx,hlen,hw];rfl
 have hset:L.set q p=L:=by obtain⟨A,C,e1,e2⟩:=eM L q p hq;rw[e2 p,←e1]
 cases hn:Nat.beq (min l2.length (l.length-i)) 0 with
 |true=>
  have hn0:=a07 hn
  refine⟨⟨.int .i64 ((min l2.length (l.length-i):Nat):Int),H,p⟩,run _ _ ?_,rfl,?_,by rw[hset];exact hs,fun b hb=> .inl hb⟩
  ·unfold lW;simp only[List.getElem?_toArray,a0X,ht,hm,hz];rw[show Nat.min l2.length (l.length-i)=min l2.length (l.length-i) from rfl,hn,hn0];rfl
  have e:cpL l i l2=l:=by unfold cpL;rw[hn0,a2g];have:l2.take (l.length-i)=[]:=a0s (by rw[a0q,Nat.min_comm];exact hn0);rw[this,a11,a23]
  rw[e];exact h
 |false=>
  have hn0:min l2.length (l.length-i)≠0:=fun e=>by rw[e]at hn;cases hn
  rcases ha with ha|ha
  ·omega
  subst ha
  rcases h with⟨rfl,rfl,rfl⟩|⟨b,off,k,cs,opn,rfl,rfl,cs',opn',ro',e1,g1,g3,g4,g5⟩
  ·simp at hn0
  injection e1 with e1 e2 e3
  subst e1 e2 e3
  replace g1:=g1 rfl
  have hb:=hs.get hq (b:=b) (o:= .cells cs opn false) (a0b.2 rfl)
  let n:=min l2.length (l.length-i)
  obtain⟨new,hnew,hrl⟩: ∃new,eN H (Rp.sz α) n u=some new/\RL F new (l2.take n):=by
   rcases h2 with⟨rfl,rfl,h3⟩|⟨b2,off2,k2,cs2,opn2,rfl,e2,g6⟩
   ·cases h3
   simp only[List.cons.injEq,a03,AObj.cells.injEq,and_true]at e2;obtain⟨rfl,rfl,rfl⟩:=e2;have hlt:(l2.take n).length=n:=by rw[a0q];omega
   have h3:Sv F H.get (.slice (some ⟨b,off2,none⟩) (l2.take n).length k2) (l2.take n):=by obtain⟨c1,c2,c3,c4,c5,c6,c7,c8⟩:=g6;refine .inr ⟨b,off2,k2,_,rfl,hb,c1,c2,c3,c4,c5,by rw[hlt];omega,?_,c8⟩;have h4:=c7.take n;rw[a2i,a2e (a0z _ (by omega))]at h4;rw[hlt];exact h4
   obtain⟨_,new,h4,h5⟩:=h3.first;rw[hlt]at h4;exact⟨new,h4,h5⟩
  have hnl:=hrl.length
  have hnt:(l2.take n).length=n:=by rw[a0q];omega
  rw[hnt]at hnl
  have hsz:(i+n)*Rp.sz α<=l.length*Rp.sz α:=a0z _ (by omega)
  have hlk:l.length*Rp.sz α<=k*Rp.sz α:=a0z _ g3
  have hbd:off+i*Rp.sz α+new.length<=cs.length:=by rw[hnl];rw[a10]at hsz;omega
  have hst:=gJ (b:=b) (o:=off+i*Rp.sz α) hb hbd hrl.one
  have hlc:(cpL l i l2).length=l.length:=by unfold cpL;simp only[a05,a0q,a0H];omega
  have hw:=hs.wr (H1:=H.put b (.cells (bp cs (off+i*Rp.sz α) new) opn false)) (q:=[(b,.cells (bp cs (off+i*Rp.sz α) new) opn false)]) hq fun k=>⟨F,F.le_refl,by simpa using k.put (i:=0) rfl⟩
  obtain⟨F',hF',hs',hwr⟩:=hw
  refine⟨⟨.int .i64 ((n:Nat):Int),_,[(b,.cells (bp cs (off+i*Rp.sz α) new) opn false)]⟩,run _ _ ?_,rfl,.inr ⟨b,off,k,_,opn,by rw[hlc],rfl,_,_,_,rfl,fun _=>by rw[bY _ _ _ hbd];exact g1,by rw[hlc];exact g3,?_,g5⟩,hs.put hq,hwr⟩
  ·unfold lW;simp only[List.getElem?_toArray,a0X,ht,hm,hz];rw[show Nat.min l2.length (l.length-i)=min l2.length (l.length-i) from rfl,hn];simp only[cond_false];rw[show eN H (Rp.sz α) (min l2.length (l.length-i)) u=some new from hnew];simp only;rw[show(⟨sB (Value.slice (some ⟨b,off,none⟩) l.length k),sO (Value.slice (some ⟨b,off,none⟩) l.length k)+i*Rp.sz α,none⟩:Addr)=⟨b,off+i*Rp.sz α,none⟩ from rfl,hst];rfl
  rw[hlc]
  have hX:((cs.drop off).take (l.length*Rp.sz α)).length=l.length*Rp.sz α:=g4.length
  have hb2:i*Rp.sz α+new.length<=((cs.drop off).take (l.length*Rp.sz α)).length:=by rw[hX,hnl];rw[a10]at hsz;omega
  have key:((bp cs (off+i*Rp.sz α) new).drop off).take (l.length*Rp.sz α)=bp ((cs.drop off).take (l.length*Rp.sz α)) (i*Rp.sz α) new:=by
   apply a1A;intro q;rw[bA _ _ _ _ hb2,a0y,a0J,bA _ _ _ _ hbd];by_cases c1:q<l.length*Rp.sz α
   ·rw[if_pos c1];by_cases c2:i*Rp.sz α<=q/\q<i*Rp.sz α+new.length
    ·rw[if_pos (by omega),if_pos c2];congr 1;omega
    rw[if_neg (by omega),if_neg c2,a0y,if_pos c1,a0J]
   rw[if_neg c1,if_neg (by omega),a0y,if_neg c1]
  rw[key,splice_eq _ _ _ hb2]
  unfold cpL
  have e3:l2.take (l.length-i)=l2.take n:=by
   rcases Nat.le_total l2.length (l.length-i) with hc|hc
   ·rw[a0h hc,a0h (by omega)]
   congr 1;omega
  rw[e3,a0l]
  refine(g4.take i).append (hrl.append ?_)
  have:=g4.drop (i+n)
  rw[hnl,←a10];exact this
end
end Go.R
end
noncomputable section
namespace Go.R
def tb(a:Int)(i:Nat):Bool:=a.toNat.testBit i
abbrev hZ(a:Int):Prop:=0<=a/\a<18446744073709551616
theorem fe(op:BinOp)(a b:Int):hZ (aT op .u64 a b):=by
 have h: ∀n:Int,hZ (IntKind.u64.wrap n):=fun n=>by rw[u64_eq];constructor<;>omega
 unfold aT bits;cases op<;>first|exact h _|(constructor<;>decide)
theorem bv_nat{a:Int}(h:hZ a):(bv a).toNat=a.toNat:=by
 have:=bv_toNat a;have h2:a%18446744073709551616=a:=by omega
 rw[h2]at this;omega
theorem wrap_nat(n:Nat)(h:n<18446744073709551616):(IntKind.u64.wrap (n:Int)).toNat=n:=by rw[u64_eq];omega
theorem tb_or{a b:Int}(ha:hZ a)(hb:hZ b)(i:Nat):tb (aT .or .u64 a b) i=(tb a i||tb b i):=by have e:aT .or .u64 a b=IntKind.u64.wrap ((bv a|||bv b).toNat:Int):=rfl;unfold tb;rw[e,wrap_nat _ (bv a|||bv b).isLt,BitVec.toNat_or,bv_nat ha,bv_nat hb,Nat.testBit_or]
theorem jy{a b:Int}(ha:hZ a)(hb:hZ b)(i:Nat):tb (aT .andNot .u64 a b) i=(tb a i&& !tb b i):=by
 have e:aT .andNot .u64 a b=IntKind.u64.wrap ((bv a&&& ~~~(bv b)).toNat:Int):=rfl;unfold tb;rw[e,wrap_nat _ (bv a&&& ~~~(bv b)).isLt,BitVec.toNat_and,Nat.testBit_and,bv_nat ha];cases hq:a.toNat.testBit i with
 |false=>rfl
 |true=>
  have hi:i<64:=by
   rcases a0j i 64 with h|h
   ·exact h
   rw[Nat.testBit_lt_two_pow (a0V (show a.toNat<2^64 by omega) (Nat.pow_le_pow_right (by omega) h))]at hq;cases hq
  rw[a1x,a1x,←BitVec.getLsbD,BitVec.getLsbD_not,BitVec.getLsbD,bv_nat hb]
  simp[hi]
theorem tb_and1{a:Int}(ha:hZ a):aT .and .u64 a 1=1↔tb a 0=true:=by
 have e:aT .and .u64 a 1=IntKind.u64.wrap ((bv a&&&bv 1).toNat:Int):=rfl;have e2:(bv a&&&bv 1).toNat=a.toNat%2:=by rw[BitVec.toNat_and,bv_nat ha,show(bv 1).toNat=1 from by decide,Nat.and_one_is_mod]
 rw[e,e2,u64_eq];unfold tb;rw[Nat.testBit_zero];simp;omega
theorem shl_one{k:Nat}(hk:k<64):IntKind.u64.wrap (1*2^(Nat.min k 64))=((2^k:Nat):Int):=by
 rw[show Nat.min k 64=k from a2e (by omega),u64_eq,Int.one_mul];have:(2^k:Nat)<2^64:=Nat.pow_lt_pow_right (by omega) hk;have e:((2:Int)^k)=((2^k:Nat):Int):=by simp
 have h2:(2:Nat)^64=18446744073709551616:=by decide
 rw[h2]at this;rw[e];generalize 2^k=q at this⊢;omega
theorem tb_shl{k:Nat}(hk:k<64)(i:Nat):tb (IntKind.u64.wrap (1*2^(Nat.min k 64))) i=decide (k=i):=by unfold tb;rw[shl_one hk,a1I,Nat.testBit_two_pow]
theorem shl_rng(x:Int):hZ (IntKind.u64.wrap x):=by rw[u64_eq];constructor<;>omega
theorem shr_nat{a:Int}(ha:hZ a){k:Nat}(hk:k<=64):Int.fdiv a (2^(Nat.min k 64))=((a.toNat>>>k:Nat):Int):=by
 rw[show Nat.min k 64=k from a2e hk,a1M];have e:((2:Int)^k)=((2^k:Nat):Int):=by simp
 have ea:a=(a.toNat:Int):=by omega
 rw[e,Int.fdiv_eq_ediv_of_nonneg _ (a1n _)];conv=>lhs;rw[ea]
 simp
theorem shr_rng{a:Int}(ha:hZ a){k:Nat}(hk:k<=64):hZ (Int.fdiv a (2^(Nat.min k 64))):=by
 rw[shr_nat ha hk];have:a.toNat>>>k<=a.toNat:=by rw[a1M];exact Nat.div_le_self _ _
 generalize a.toNat>>>k=q at this⊢;constructor<;>omega
theorem tb_shr{a:Int}(ha:hZ a){k:Nat}(hk:k<=64)(i:Nat):tb (Int.fdiv a (2^(Nat.min k 64))) i=tb a (k+i):=by unfold tb;rw[shr_nat ha hk,a1I,Nat.testBit_shiftRight]
theorem tb_big{a:Int}(ha:hZ a){i:Nat}(hi:64<=i):tb a i=false:=
 Nat.testBit_lt_two_pow (a0V (show a.toNat<2^64 by omega) (Nat.pow_le_pow_right (by omega) hi))
theorem ne0_tb{a:Int}(ha:hZ a)(h:a≠0): ∃i,tb a i=true:=by obtain⟨i,hi⟩:=Nat.exists_testBit_of_ne_zero (show a.toNat≠0 by omega);exact⟨i,hi⟩
theorem eq0_tb{a:Int}(ha:hZ a)(h:a=0)(i:Nat):tb a i=false:=by subst h;exact Nat.zero_testBit i
def aA(s:List U64)(n:Nat):Bool:=tb (s.getD (n/64) default).n (n%64)
theorem lM{s:List U64}{n:Nat}(h:64*s.length<=n):aA s n=false:=by unfold aA;rw[cM (by omega)];exact Nat.zero_testBit _
theorem bit_set{s:List U64}{j:Nat}{v:Int}(hj:j<s.length)(i:Nat):aA (s.set j ⟨v⟩) i=if i/64=j then tb v (i%64) else aA s i:=by
 unfold aA;simp only[a01,List.getElem?_set];by_cases h:j=i/64
 ·rw[if_pos h,if_pos h.symm,if_pos (by omega)];rfl
 rw[if_neg h,if_neg (fun e=>h e.symm)]
theorem bit_rep(n i:Nat):aA (List.replicate n (⟨0⟩:U64)) i=false:=by unfold aA;rw[a01,a0R];split<;>exact Nat.zero_testBit _
theorem add_ok{s:List U64}{n:Int}(h:0<=n/\n<64*(s.length:Int))(hr:hZ (s.getD (Int.tdiv n 64).toNat default).n)(i:Nat):
  aA (s.set (Int.tdiv n 64).toNat ⟨aT .or .u64 (s.getD (Int.tdiv n 64).toNat default).n (IntKind.u64.wrap (1*2^(Nat.min (Int.tmod n 64).toNat 64)))⟩) i=(aA s i||decide (i=n.toNat)):=by
 have e1:(Int.tdiv n 64).toNat=n.toNat/64:=by rw[a18 h.1];omega
 have e2:(Int.tmod n 64).toNat=n.toNat%64:=by rw[a1L h.1];omega
 rw[e1]at hr⊢
 rw[e2,bit_set (by omega),tb_or hr (shl_rng _),tb_shl (by omega)]
 by_cases hi:i/64=n.toNat/64
 ·rw[if_pos hi];have e3:tb (s.getD (n.toNat/64) default).n (i%64)=aA s i:=by unfold aA;rw[hi]
  rw[e3];congr 1;rw[decide_eq_decide];omega
 rw[if_neg hi,decide_eq_false (by omega),a1J]
theorem rem_ok{s:List U64}{n:Int}(h:0<=n/\n<64*(s.length:Int))(hr:hZ (s.getD (Int.tdiv n 64).toNat default).n)(i:Nat):
  aA (s.set (Int.tdiv n 64).toNat ⟨aT .andNot .u64 (s.getD (Int.tdiv n 64).toNat default).n (IntKind.u64.wrap (1*2^(Nat.min (Int.tmod n 64).toNat 64)))⟩) i=(aA s i&& !decide (i=n.toNat)):=by
 have e1:(Int.tdiv n 64).toNat=n.toNat/64:=by rw[a18 h.1];omega
 have e2:(Int.tmod n 64).toNat=n.toNat%64:=by rw[a1L h.1];omega
 rw[e1]at hr⊢
 rw[e2,bit_set (by omega),jy hr (shl_rng _),tb_shl (by omega)]
 by_cases hi:i/64=n.toNat/64
 ·rw[if_pos hi];have e3:tb (s.getD (n.toNat/64) default).n (i%64)=aA s i:=by unfold aA;rw[hi]
  rw[e3];congr 2;rw[decide_eq_decide];omega
 rw[if_neg hi,decide_eq_false (by omega),a1C,a1K]
theorem n64{s:List U64}{n:Int}(h:0<=n/\n<64*(s.length:Int)):0<=Int.tdiv n 64/\Int.tdiv n 64<(s.length:Int)/\0<=Int.tmod n 64/\Int.tmod n 64<64:=by rw[a18 h.1,a1L h.1];omega
def uniB(s t:List U64)(k:Nat)(w:List U64):Prop:=w.length=s.length/\∀i,aA w i=(aA s i||(decide (i<64*k)&&aA t i))
theorem uniB_zero{s t:List U64}:uniB s t 0 s:=⟨rfl,fun i=>by simp⟩
theorem jx{s t w:List U64}{k:Nat}(h:uniB s t k w)(i:Nat):tb (w.getD k default).n i=tb (s.getD k default).n i\/64<=i:=by
 rcases a0j i 64 with hi|hi
 ·left;have:=h.2 (64*k+i);unfold aA at this;rw[show(64*k+i)/64=k by omega,show(64*k+i)%64=i by omega,decide_eq_false (by omega),a21,a1J]at this;exact this
 exact .inr hi
theorem uniB_same{s t w:List U64}{k:Nat}(h:uniB s t k w)(hr:hZ (t.getD k default).n)(hw:hZ (w.getD k default).n)(h0:aT .andNot .u64 (t.getD k default).n (w.getD k default).n=0):uniB s t (k+1) w:=by
 refine⟨h.1,fun i=>?_⟩;rw[h.2 i];by_cases hi:i<64*k
 ·rw[decide_eq_true hi,decide_eq_true (show i<64*(k+1) by omega)]
 by_cases hk:i<64*(k+1)
 ·rw[decide_eq_false hi,decide_eq_true hk,a21,a1x,a1J];have e1:=eq0_tb (fe .andNot (t.getD k default).n (w.getD k default).n) h0 (i%64);rw[jy hr hw]at e1;have e2:aA t i=tb (t.getD k default).n (i%64):=by unfold aA;rw[show i/64=k by omega]
  have e3:aA s i=tb (w.getD k default).n (i%64):=by
   rcases jx h (i%64) with e|e
   ·rw[e];unfold aA;rw[show i/64=k by omega]
   omega
  rw[e2,e3];revert e1;cases tb (t.getD k default).n (i%64)<;>cases tb (w.getD k default).n (i%64)<;>simp
 rw[decide_eq_false hi,decide_eq_false hk]
theorem uniB_or{s t w:List U64}{k:Nat}(h:uniB s t k w)(hk:k<s.length)(hr:hZ (t.getD k default).n)(hw:hZ (w.getD k default).n):uniB s t (k+1) (w.set k ⟨aT .or .u64 (w.getD k default).n (t.getD k default).n⟩):=by
 refine⟨by rw[a0f];exact h.1,fun i=>?_⟩;rw[bit_set (by rw[h.1];exact hk)];by_cases hi:i/64=k
 ·rw[if_pos hi,tb_or hw hr];rw[decide_eq_true (show i<64*(k+1) by omega),a1x];have e2:aA t i=tb (t.getD k default).n (i%64):=by unfold aA;rw[hi]
  have e3:aA s i=tb (w.getD k default).n (i%64):=by
   rcases jx h (i%64) with e|e
   ·rw[e];unfold aA;rw[hi]
   omega
  rw[e2,e3]
 rw[if_neg hi,h.2 i];congr 2;rw[decide_eq_decide];omega
theorem uniB_new{s t w:List U64}{k:Nat}(h:uniB s t k w)(hr:hZ (t.getD k default).n)(hw:hZ (w.getD k default).n)(h0:aT .andNot .u64 (t.getD k default).n (w.getD k default).n≠0): ∃i,aA t i=true/\aA s i=false:=by
 obtain⟨q,hq⟩:=ne0_tb (fe .andNot (t.getD k default).n (w.getD k default).n) h0;rw[jy hr hw,a0d,a0G]at hq;have hq64:q<64:=by
  rcases a0j q 64 with h1|h1
  ·exact h1
  rw[tb_big hr h1]at hq;exact absurd hq.1 (by decide)
 refine⟨64*k+q,?_,?_⟩
 ·unfold aA;rw[show(64*k+q)/64=k by omega,show(64*k+q)%64=q by omega];exact hq.1
 rcases jx h q with e|e
 ·unfold aA;rw[show(64*k+q)/64=k by omega,show(64*k+q)%64=q by omega,←e];exact hq.2
 omega
theorem uniB_all{s t w:List U64}{k:Nat}(h:uniB s t k w)(hk:s.length<=k)(hl:t.length=s.length)(i:Nat):aA w i=(aA s i||aA t i):=by
 rw[h.2 i];by_cases hi:i<64*k
 ·rw[decide_eq_true hi,a1x]
 rw[lM (s:=t) (by omega),a22]
def kB(s:List U64)(m:Nat):List Int:=List.map (fun i:Nat=>(i:Int)) ((List.range m).filter (aA s))
def fq(s:List U64):List Int:=kB s (64*s.length)
theorem jM{s:List U64}{m:Nat}:kB s (m+1)=kB s m++if aA s m=true then [(m:Int)] else []:=by unfold kB;rw[List.range_succ,List.filter_append,a0Y];congr 1;rw[a1e];split<;>rfl
theorem lstK_skip{s:List U64}{m:Nat}: ∀(d:Nat),(∀i,m<=i->i<m+d->aA s i=false)->kB s m=kB s (m+d)
 |0,_=>rfl
 |d+1,h=>by rw[show m+(d+1)=(m+d)+1 by omega,jM,if_neg (by rw[h (m+d) (by omega) (by omega)];decide),a0E];exact lstK_skip d fun i h1 h2=>h i h1 (by omega)
theorem lstK_len{s:List U64}{m:Nat}:(kB s m).length<=m:=by unfold kB;rw[a1B];have:=a13 (aA s) (List.range m);rwa [List.length_range]at this
theorem lst_mem{s:List U64}{x:Int}:x∈fq s↔0<=x/\aA s x.toNat=true:=by
 unfold fq kB;rw[a0r];constructor
 ·rintro⟨i,hi,rfl⟩;rw[a1G]at hi;exact⟨by omega,by rw[a1I];exact hi.2⟩
 rintro⟨h0,h1⟩;refine⟨x.toNat,a1G.2 ⟨a20.2 ?_,h1⟩,by omega⟩;rcases a0j x.toNat (64*s.length) with h2|h2
 ·exact h2
 rw[lM h2]at h1;cases h1
theorem lst_asc{s:List U64}{m:Nat}:(kB s m).Pairwise (· < ·):=by
 unfold kB;rw[List.pairwise_map];refine(List.Pairwise.sublist a1P (List.pairwise_lt_range (n:=m))).imp fun h=>?_
 omega
theorem list_stop{s:List U64}{k b:Nat}(hr:hZ (s.getD k default).n)(hb:b<=64)(h0:Int.fdiv (s.getD k default).n (2^(Nat.min b 64))=0):kB s (64*k+b)=kB s (64*(k+1)):=by
 rw[show 64*(k+1)=64*k+b+(64-b) by omega];refine lstK_skip _ fun i h1 h2=>?_
 have:=eq0_tb (shr_rng hr hb) h0 (i-64*k-b);rw[tb_shr hr hb]at this;unfold aA;rw[show i/64=k by omega,show i%64=b+(i-64*k-b) by omega];exact this
theorem list_lt{s:List U64}{k b:Nat}(hr:hZ (s.getD k default).n)(hb:b<=64)(h0:Int.fdiv (s.getD k default).n (2^(Nat.min b 64))≠0):b<64:=by
 rcases a0j b 64 with h|h
 ·exact h
 exfalso;apply h0;rw[shr_nat hr hb,a1M,Nat.div_eq_of_lt]
 ·rfl
 have:b=64:=by omega
 subst this;omega
theorem jh{s:List U64}{k b:Nat}(hr:hZ (s.getD k default).n)(hb:b<64):(aT .and .u64 (Int.fdiv (s.getD k default).n (2^(Nat.min b 64))) 1=1)↔aA s (64*k+b)=true:=by rw[tb_and1 (shr_rng hr (by omega)),tb_shr hr (by omega),a2g];unfold aA;rw[show(64*k+b)/64=k by omega,show(64*k+b)%64=b by omega]
end Go.R
end
noncomputable section
namespace Go.R
open Go.RowKit Go.WideShapes Go.ChangeShapes
section
variable {X:Type} {enc:TypeId×Value->X} {P:Program} {w:World} {μ:Emb} {H:Heap}
def EmC(enc:TypeId×Value->X)(P:Program)(w:World)(t:TypeId)(α:Type) [Rp α](B:DataW X->α->Prop):Prop:=
 ∀{μ:Emb} {H:Heap} {n:Nat} {cs:List Value} {x:DataW X×List MemPlace},Em w μ H->DataW.trod enc P w 0 (fun _=>true) true n t cs=some x->
  ∃μ' H' c y,Em w μ' H'/\EmLe μ H μ' H'/\LRel μ' c cs/\Rp.rep H'.get c (y:α)/\B x.1 y
def LB{α:Type}(B:DataW X->α->Prop)(d:DataW X)(l:List α):Prop:=
 l.length<=maxLen/\∃(D:Nat->DataW X) (rest:List (DataW X)),(d= .slice ((List.range l.length).map D) rest\/(d= .nil/\l=[]))/\∀i y,l[i]?=some y->B (D i) y
theorem cell_size{a:Addr}{v:Value}(h:w.cell? a=some v):0<w.heap.size:=by
 unfold World.cell? at h;split at h
 ·rename_i heq;have:=(a0D.1 heq).1;omega
 cases h
end
end Go.R
end
noncomputable section
namespace Go.R
open Go.ChangeShapes
section
variable {H:Type} {enc:TypeId×Value->H}
end
end Go.R
end
noncomputable section
set_option linter.unusedVariables false
namespace Go.R
structure Eqs(s s':St):Prop where
 t:cG s.tmps=cG s'.tmps
 n:s.size=s'.size
 h:s.heap=s'.heap
def CgS(f g:St->Option (Ex×St)):Prop:= ∀s s',Eqs s s'->∀e r,f s=some (e,r)->∃r',g s'=some (e,r')/\Eqs r r'
section
variable {P:Program} {G:Nat} {cf:cn} {ops:Array Oper}
end
def tabT(args:List Value):List (Nat×Value)->Tr Value
 | []=>eC 0 args .nil
 |(i,v)::l=>lset (tabT args l) i v
def endsTrue(d:Nat)(r:Option (Ex×St)):Bool:=match r with
 |some (.normal,s)=>(match cG s.tmps d with| .bool b=>b|_=>false)
 |some (.ret,s)=>(match cG s.tmps d with| .bool b=>b|_=>false)
 |_=>false
end Go.R
end
noncomputable section
set_option linter.unusedVariables false
namespace Go.R
structure PtrT where
 b:Nat
 deriving Inhabited
instance :Rp PtrT where
 sz:=1
 rep F cs x:=cs=[.pointer (some ⟨x.b,0,none⟩)]
 len:=by rintro F cs x rfl;rfl
 one:=by rintro F cs x rfl;rfl
 mono:=by intro F F' cs x _ h;exact h
section
variable {B:Base} {F F':Fz} {H:Heap} {L R:List Fp}
end
section
variable {P:Program} {G:Nat} {K:bN} {sz:Nat} {Q:Ex->Fn->Heap->Prop} {ops:Array Oper} {D:List (Nat×ID)} {i:Nat} {os:List Oper} {k:List Fr} {f:Fn} {H:Heap}
theorem wf_callG{d:Option Tmp}{op:Op}{ty:TypeId}{pos:String}{af:Array Edge}{W:List Nat}{g:FuncId}{args:List Value}{R:Value->Heap->Prop}(ha:AP P (dq f) ⟨d,op,ty,pos,af,none⟩ {H with log:=[]} (.enter g args,{H with log:=[]}))(ho:op.operands.toList.all (bB G)=true)(hd:dstOK d sz=true)(hk:eI op=true)
  (hc:C P G K g args {H with log:=[]} R) (hok:okD ops i (.x W) D)
  (h: ∀v H2,R v H2->(∀b,b∈H2.log->H.next<=b\/b∈W)/\∀l,(∀b,b∈l->b∈H2.log\/b∈H.log)->WF2 P G K sz ops ((i,.x W)::D) (i+1) os k (updO f d v) {H2 with log:=l} Q):WF2 P G K sz ops D i (⟨d,op,ty,pos,af,none⟩::os) k f H Q:=⟨fun t fs ht hfs=>by
 obtain⟨n1,v,H2,hc1,hr⟩:=hc.out
 obtain⟨hlog,h0⟩:=h v H2 hr
 obtain⟨t',h1,h2⟩:=gL (s:=⟨t,sz,H2⟩) (v:=v) hd
 have hi:=bR (ops:=ops) (f:=f) (o:=⟨d,op,ty,pos,af,none⟩) rfl hk hlog t sz H ht
 obtain⟨n2,e,s',h3,h4⟩:=(h0 (cY H.next H2.log++H.log) (fun b hb=>by
  rcases a08.1 hb with hb|hb
  ·exact .inl (eK hb).1
  exact .inr hb)).out t' ((i,dA ops ⟨d,op,ty,pos,af,none⟩ ⟨t,sz,H⟩ H.next H2.log)::fs) (by rw[h2,ht]) ⟨rfl,hi,hfs⟩
 refine⟨Nat.max n1 n2,e,s',?_,h4⟩
 have hst:step P G (call P G K (Nat.max n1 n2)) ops ⟨d,op,ty,pos,af,none⟩ ⟨t,sz,{H with log:=[]}⟩=some ⟨t',sz,H2⟩:=by unfold step bf;simp only[cond_true,ho,dK,ht,ha.eq,dQ (a1H n1 n2) _ _ _ _ hc1];exact h1
 unfold bn fX
 rw[hst]
 simp only[cR hi hfs hok,cond_true]
 refine dg (a1p (a1a n1 n2)) k _ _ (fun x hx=>?_) _ h3
 cases hq:bn P G (call P G K n2) ops (i+1) ((i,dA ops ⟨d,op,ty,pos,af,none⟩ ⟨t,sz,H⟩ H.next H2.log)::fs) os ⟨t',sz,{H2 with log:=cY H.next H2.log++H.log}⟩ with
 |none=>rw[hq]at hx;cases hx
 |some y=>
  have:=dL (dQ (P:=P) (G:=G) (K:=K) (a1a n1 n2)) _ _ _ _ _ hq
  rw[hq]at hx
  rw[this];exact hx⟩
end
section
variable {ι β:Type} {Ch:Fz->ι->β->Fp->Prop} {F:Fz}
end
end Go.R
end
namespace Go.R
abbrev iI(n:Int):Value:= .int .i64 n
abbrev pT(b o:Nat):Value:= .pointer (some ⟨b,o,none⟩)
abbrev fP(b:Nat)(l:List Value):Fp:=[(b,.cells l none false)]
abbrev sL(a:Option Addr)(n k:Nat):Value:= .slice a n k
abbrev aG(l:List Value):Value:= .agg ⟨l⟩
theorem fT{a b c:Fz}(h:a.le b)(k:b.le c):a.le c:=Fz.le_trans h k
theorem fR{a:Fz}:a.le a:=Fz.le_refl a
theorem wR{P:Program}{G:Nat}{K:bN}{sz:Nat}{Q:Ex->Fn->Heap->Prop}{f:Fn}{H:Heap}{c1:Code}{k k1:List Fr}(n:Nat){id:Nat}{ops:Array Oper}(hs:List (Nat×Hint))(lo hi:Nat)(ex:List Nat)(l:List (Nat×Value)){p:Prop}(hp:p)(hf:foc n .skip k=(c1,k1))(hk: ∀g,WK P G K sz c1 k1 (lc (hav lo hi ex g f) l) H Q)(h:gj P G K H sz ops f 0 ops.toList hs lo hi ex (eQ Prod.fst l)=some (l,p):=by kernel_rfl):WK P G K sz (.region id ops false) k f H Q:=wr n hs lo hi ex l hp h hf hk
theorem wRD{P:Program}{G:Nat}{K:bN}{sz:Nat}{Q:Ex->Fn->Heap->Prop}{f:Fn}{H:Heap}{c1:Code}{k k1:List Fr}(n:Nat){id:Nat}{ops:Array Oper}(hs:List (Nat×Hint))(lo hi:Nat)(ex:List Nat)(l:List (Nat×Value)){p:Prop}(hp:p)(hr:(aQ ops&&P.follows .mixedOrders)=true)(hf:foc n .skip k=(c1,k1))(hk: ∀g,WK P G K sz c1 k1 (lc (hav lo hi ex g f) l) H Q)(h:gj P G K {H with log:=[]} sz ops f 0 ops.toList hs lo hi ex (eQ Prod.fst l)=some (l,p):=by kernel_rfl):WK P G K sz (.region id ops true) k f H Q:=wrD n hs lo hi ex l hp hr h hf hk
theorem wRo{P:Program}{G:Nat}{K:bN}{sz:Nat}{Q:Ex->Fn->Heap->Prop}{f:Fn}{H:Heap}{k:List Fr}(n i:Nat){ops:Array Oper}{os os':List Oper}(hs:List (Nat×Hint))(lo hi:Nat)(ex:List Nat)(l:List (Nat×Value)){p:Prop}(hp:p)(he:gY os n=os')(hk: ∀g,WO P G K sz ops os' k (lc (hav lo hi ex g f) l) H Q)(h:gj P G K H sz ops f i (gI os n) hs lo hi ex (eQ Prod.fst l)=some (l,p):=by kernel_rfl):WO P G K sz ops os k f H Q:=wro n i hs lo hi ex l hp h he hk
theorem wT{P:Program}{G:Nat}{K:bN}{sz:Nat}{Q:Ex->Fn->Heap->Prop}{f:Fn}{H:Heap}{c1:Code}{k k1:List Fr}(n:Nat){id:Nat}{ops:Array Oper}(hs:List (Nat×Hint))(lo hi:Nat)(ex:List Nat)(l:List (Nat×Value))(hf:foc n .skip k=(c1,k1))(hk: ∀g,WK P G K sz c1 k1 (lc (hav lo hi ex g f) l) H Q)(h:gj P G K H sz ops f 0 ops.toList hs lo hi ex (eQ Prod.fst l)=some (l,True):=by kernel_rfl):WK P G K sz (.region id ops false) k f H Q:=wR n hs lo hi ex l trivial hf hk h
theorem wU{P:Program}{G:Nat}{K:bN}{sz:Nat}{Q:Ex->Fn->Heap->Prop}{f:Fn}{H:Heap}{c1:Code}{k k1:List Fr}(n:Nat){id:Nat}{ops:Array Oper}(hs:List (Nat×Hint))(lo hi:Nat)(ex:List Nat)(l:List (Nat×Value)){p:Prop}(hp:p)(hf:foc n .skip k=(c1,k1))(hk: ∀g,WK P G K sz c1 k1 (lc (hav lo hi ex g f) l) H Q)(h:gj P G K H sz ops f 0 ops.toList hs lo hi ex (eQ Prod.fst l)=some (l,p/\True):=by kernel_rfl):WK P G K sz (.region id ops false) k f H Q:=wR n hs lo hi ex l ⟨hp,trivial⟩ hf hk h
theorem wTo{P:Program}{G:Nat}{K:bN}{sz:Nat}{Q:Ex->Fn->Heap->Prop}{f:Fn}{H:Heap}{k:List Fr}(n i:Nat){ops:Array Oper}{os os':List Oper}(hs:List (Nat×Hint))(lo hi:Nat)(ex:List Nat)(l:List (Nat×Value))(he:gY os n=os')(hk: ∀g,WO P G K sz ops os' k (lc (hav lo hi ex g f) l) H Q)(h:gj P G K H sz ops f i (gI os n) hs lo hi ex (eQ Prod.fst l)=some (l,True):=by kernel_rfl):WO P G K sz ops os k f H Q:=wRo n i hs lo hi ex l trivial he hk h
theorem wUo{P:Program}{G:Nat}{K:bN}{sz:Nat}{Q:Ex->Fn->Heap->Prop}{f:Fn}{H:Heap}{k:List Fr}(n i:Nat){ops:Array Oper}{os os':List Oper}(hs:List (Nat×Hint))(lo hi:Nat)(ex:List Nat)(l:List (Nat×Value)){p:Prop}(hp:p)(he:gY os n=os')(hk: ∀g,WO P G K sz ops os' k (lc (hav lo hi ex g f) l) H Q)(h:gj P G K H sz ops f i (gI os n) hs lo hi ex (eQ Prod.fst l)=some (l,p/\True):=by kernel_rfl):WO P G K sz ops os k f H Q:=wRo n i hs lo hi ex l ⟨hp,trivial⟩ he hk h
end Go.R
