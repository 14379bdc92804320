/-
Plain laws: what the functions compute answers as the statement says. No condition beyond those that each statement names.
-/
import Derived.Test.YtgdggmlghemecaaDoorZAMA
noncomputable section
namespace Go.Proofs.YtgdggmlghemecaaDoor.ml
open Go.R m1 m2 m3 m4 m5 m6 ma
set_option linter.unusedVariables false
set_option linter.unusedSimpArgs false
abbrev bh(c:VFnT)(b:Nat):BlkT:=c.blocks.getD b default
def tr:List VInT->(Nat->Prop)->Nat->Prop
 | [],S,r=>S r
 |v::l,S,r=>(r:Int)∈aI v\/(tr l S r/\(r:Int)∉ab v)
theorem lX{S S':Nat->Prop}(h: ∀r,S r->S' r): ∀(l:List VInT) (r:Nat),tr l S r->tr l S' r
 | [],r,hr=>h r hr
 |_::l,r,.inl hr=> .inl hr
 |_::l,r,.inr hr=> .inr ⟨lX h l r hr.1,hr.2⟩
def endS(b:BlkT)(S:Nat->Prop)(r:Nat):Prop:=S r\/(r:Int)∈ei b
theorem endS_mono{b:BlkT}{S S':Nat->Prop}(h: ∀r,S r->S' r)(r:Nat)(z:endS b S r):endS b S' r:=z.imp (h r) id
def inS(b:BlkT)(S:Nat->Prop)(r:Nat):Prop:=tr b.ins (endS b S) r
theorem fB{b:BlkT}{S S':Nat->Prop}(h: ∀r,S r->S' r)(r:Nat)(z:inS b S r):inS b S' r:=lX (endS_mono h) _ r z
def outS(c:VFnT)(I:Nat->Nat->Prop)(b:Nat)(r:Nat):Prop:= ∃t∈bo (bh c b),I t.toNat r
theorem hU{c:VFnT}{I z:Nat->Nat->Prop}(h: ∀b r,I b r->z b r)(b r:Nat):outS c I b r->outS c z b r:=fun⟨t,A,E⟩=>⟨t,A,h _ _ E⟩
def Clo(c:VFnT)(I:Nat->Nat->Prop):Prop:= ∀b,b<c.blocks.length->∀r,inS (bh c b) (outS c I b) r->I b r
def LIn(c:VFnT)(b r:Nat):Prop:= ∀I,Clo c I->I b r
def lR(c:VFnT)(b r:Nat):Prop:=outS c (LIn c) b r
theorem mU(c:VFnT):Clo c (LIn c):=fun b A r N I z=>z b A r (fB (fun q E=>hU (fun b r h=>h I z) b q E) r N)
theorem LIn_lt{c:VFnT}{b r:Nat}(h:LIn c b r):b<c.blocks.length:=h (fun b _=>b<c.blocks.length) fun _ z _ _=>z
theorem LIn_step{c:VFnT}{b r:Nat}(h:LIn c b r):inS (bh c b) (lR c b) r:=by
 have hb:=LIn_lt h;refine h (fun b r=>inS (bh c b) (lR c b) r) fun Z al r' N=>?_
 refine fB (fun q hq=>?_) r' N;exact hU (fun E U z=>by
  intro I hI;rcases a0j E c.blocks.length with A|A
  ·exact mU c E A U z I hI
  exfalso;have e:bh c E=default:=cV A;rw[e]at z;rcases z with z|z
  ·obtain⟨t,T,_⟩:=z;rw[e]at T;cases T
  cases z) Z q hq
theorem LIn_iff{c:VFnT}{b r:Nat}(z:b<c.blocks.length):LIn c b r↔inS (bh c b) (lR c b) r:=⟨LIn_step,mU c b z r⟩
abbrev wds(c:VFnT):Nat:=(Int.tdiv (c.regs+63) 64).toNat
def bI(I:List (List U64))(b r:Nat):Prop:=aD (I.getD b default) r=true
structure Snd(c:VFnT)(I O:List (List U64)):Prop where
 li:I.length=c.blocks.length
 lo:O.length=c.blocks.length
 wi: ∀b,b<c.blocks.length->(I.getD b default).length=wds c
 wo: ∀b,b<c.blocks.length->(O.getD b default).length=wds c
 si: ∀b r,bI I b r->LIn c b r
 so: ∀b r,bI O b r->lR c b r
def Cl1(c:VFnT)(I O:List (List U64))(b:Nat):Prop:=(∀t∈bo (bh c b),∀r,bI I t.toNat r->bI O b r)/\(∀r,inS (bh c b) (bI O b) r->bI I b r)
structure AnF(c:VFnT)(I O:List (List U64)):Prop where
 li:I.length=c.blocks.length
 lo:O.length=c.blocks.length
 wi: ∀b,b<c.blocks.length->(I.getD b default).length=wds c
 wo: ∀b,b<c.blocks.length->(O.getD b default).length=wds c
 hi: ∀b r,bI I b r↔LIn c b r
 ho: ∀b,b<c.blocks.length->∀r,bI O b r↔lR c b r
theorem anF_of{c:VFnT}{I O:List (List U64)}(h:Snd c I O)(hc: ∀b,b<c.blocks.length->Cl1 c I O b):AnF c I O:=by
 have z:Clo c (bI I):=fun b N r U=>(hc b N).2 r (fB (fun q ⟨t,A,E⟩=>(hc b N).1 t A q E) r U)
 refine⟨h.li,h.lo,h.wi,h.wo,fun b r=>⟨h.si b r,fun T=>T _ z⟩,fun b N r=>⟨h.so b r,fun⟨t,A,E⟩=>(hc b N).1 t A r (E _ z)⟩⟩
def mE(I:List (List U64)):Nat:=(I.map fun s=>(gN s).length).sum
theorem cnt_le{c:VFnT}{I:List (List U64)}(N:I.length=c.blocks.length)(T: ∀b,b<c.blocks.length->(I.getD b default).length=wds c):mE I<=c.blocks.length *(64 *wds c):=by
 have key: ∀(l:List (List U64)) (B:Nat),(∀s∈l,(gN s).length<=B)->(l.map fun s=>(gN s).length).sum<=l.length *B:=by
  intro l B;induction l with
  |nil=>intro _;simp
  |cons s l ih=>
   intro h
   have E:=ih fun x U=>h x (a0i _ U)
   have A:=h s (a0G ..)
   rw[List.map_cons,List.sum_cons,a0a,a1r];omega
 rw[←N];refine key I _ fun s hs=>?_
 obtain⟨b,z,rfl⟩:=a0K.1 hs;have:=T b M;rw[a03,a05 z]at this;have A:(gN I[b]).length<=64 *I[b].length:=lstK_len;simp only[a0Q]at this;rw[this]at A;exact A
theorem lst_more{s T:List U64}(hl:T.length=s.length)(h: ∀i,aD s i=true->aD T i=true){i:Nat}(A:aD T i=true)(N:aD s i=false):(gN s).length<(gN T).length:=by
 have hi:i<64 *s.length:=by
  rcases a0j i (64 *s.length) with E|E
  ·exact E
  rw[mJ (by rw[hl];exact E)]at A;cases A
 unfold gN ln;rw[a1G,a1G,hl];have key: ∀l:List Nat,(l.filter (aD s)).length<=(l.filter (aD T)).length/\(i∈l->(l.filter (aD s)).length<(l.filter (aD T)).length):=by
  intro l;induction l with
  |nil=>exact⟨a0b _,fun h=>by cases h⟩
  |cons x l ih=>
   rw[a1C,a1C]
   by_cases U:aD s x=true
   ·rw[if_pos U,if_pos (h x U)];refine⟨by simpa using ih.1,fun z=>?_⟩;rcases a0s.1 z with rfl|z
    ·rw[N]at U;cases U
    simpa using ih.2 z
   rw[if_neg U]
   by_cases Z:aD T x=true
   ·rw[if_pos Z];exact⟨by simp;omega,fun _=>by simp;omega⟩
   rw[if_neg Z]
   refine⟨ih.1,fun z=>?_⟩
   rcases a0s.1 z with rfl|z
   ·exact absurd A Z
   exact ih.2 z
 exact(key _).2 (a25.2 hi)
theorem sum_set: ∀(l:List Nat) (i x:Nat),i<l.length->(l.set i x).sum+l.getD i 0=l.sum+x
 | [],i,x,h=>by simp at h
 |y::l,0,x,_=>by simp;omega
 |y::l,i+1,x,h=>by have:=sum_set l i x (by simpa using h);simp only[a1Y,List.sum_cons,a2i];omega
theorem cnt_set{I:List (List U64)}{b:Nat}(z:b<I.length)(s:List U64):mE (I.set b s)+(gN (I.getD b default)).length=mE I+(gN s).length:=by unfold mE;rw[List.map_set];have:=sum_set (I.map fun s=>(gN s).length) b (gN s).length (by rw[a1G];exact z);rw[a03,a1n,a05 z]at this;rw[a03,a05 z];exact this
def mea(z:Bool)(B n:Nat):Nat:=bif z then 2 *(B-n)+1 else 0
theorem mea_lt{m2:Bool}{B n A:Nat}(h:m2=true->n<A)(z:A<=B):mea m2 B A<mea true B n:=by
 unfold mea;cases m2 with
 |false=>simp
 |true=>have:=h V;simp;omega
theorem dI{α:Type}{d:α}{l:List α}{i j:Nat}{x:α}:(l.set i x).getD j d=if i=j/\j<l.length then x else l.getD j d:=by
 simp only[a03,a24];by_cases h:i=j
 ·subst h;by_cases A:i<l.length
  ·rw[if_pos V,if_pos A,if_pos ⟨V,A⟩];rfl
  rw[if_pos V,if_neg A,if_neg (fun e=>A e.2),a0L M]
 rw[if_neg h,if_neg (fun e=>h e.1)]
theorem snd_start{c:VFnT}{I O:List (List U64)}(A:I.length=c.blocks.length)(E:O.length=c.blocks.length)(N: ∀j,j<c.blocks.length->I.getD j default=List.replicate (wds c) ⟨0⟩)(T: ∀j,j<c.blocks.length->O.getD j default=List.replicate (wds c) ⟨0⟩):Snd c I O:=by
 have U: ∀(c_:List (List U64)),c_.length=c.blocks.length->(∀j,j<c.blocks.length->c_.getD j default=List.replicate (wds c) ⟨0⟩)->∀b r,¬bI c_ b r:=by
  intro c_ hX Z b r z;unfold bI at z;rcases a0j b c.blocks.length with h|h
  ·rw[Z b h,bit_rep]at z;cases z
  rw[cV M]at z;rw[mJ (a0I _)]at z;cases z
 exact⟨A,E,fun b z=>by rw[N b z,a0H],fun b z=>by rw[T b z,a0H],fun b r h=>absurd h (U I A N b r),fun b r h=>absurd h (U O E T b r)⟩
theorem snd_out{c:VFnT}{I O:List (List U64)}{k:Nat}{t:Int}{s:List U64}(h:Snd c I O)(N:k<c.blocks.length)(T:t∈bo (bh c k))(hs:s.length=(O.getD k default).length)(E: ∀i,aD s i=(aD (O.getD k default) i||aD (I.getD t.toNat default) i)):Snd c I (O.set k s):=by
 refine⟨h.li,by rw[a0c];exact h.lo,h.wi,fun b A=>?_,h.si,fun b r z=>?_⟩
 ·rw[dI];split
  ·rename_i e;rw[hs];exact h.wo k N
  exact h.wo b A
 unfold bI at z;rw[dI]at z;split at z
 ·rename_i e;obtain⟨rfl,_⟩:=e;rw[E,a0z]at z;rcases z with z|z
  ·exact h.so _ r z
  exact⟨t,T,h.si _ r z⟩
 exact h.so b r z
theorem snd_in{c:VFnT}{I O:List (List U64)}{k:Nat}{s A:List U64}(h:Snd c I O)(N:k<c.blocks.length)(hs:A.length=(I.getD k default).length)(T: ∀i,aD A i=(aD (I.getD k default) i||aD s i))(U: ∀r,aD s r=true↔inS (bh c k) (bI O k) r):Snd c (I.set k A) O:=by
 refine⟨by rw[a0c];exact h.li,h.lo,fun b E=>?_,h.wo,fun b r z=>?_,h.so⟩
 ·rw[dI];split
  ·rw[hs];exact h.wi k N
  exact h.wi b E
 unfold bI at z;rw[dI]at z;split at z
 ·rename_i e;obtain⟨rfl,_⟩:=e;rw[T,a0z]at z;rcases z with z|z
  ·exact h.si _ r z
  exact mU c _ N r (fB (h.so _) r ((U r).1 z))
 exact h.si b r z
theorem cnt_more{I:List (List U64)}{k:Nat}{s z:List U64}(Z:k<I.length)(hs:z.length=(I.getD k default).length)(U: ∀i,aD z i=(aD (I.getD k default) i||aD s i))(hx: ∃i,aD s i=true/\aD (I.getD k default) i=false):mE I<mE (I.set k z):=by obtain⟨i,A,E⟩:=hx;have N:=cnt_set Z z;have T:=lst_more hs (fun i hi=>by rw[U,hi];rfl) (i:=i) (by rw[U,A,Bool.or_true]) E;omega
theorem tr_drop{l:List VInT}{i:Nat}(h:i<l.length)(S:Nat->Prop)(r:Nat):tr (l.drop i) S r↔(r:Int)∈aI (l.getD i default)\/(tr (l.drop (i+1)) S r/\(r:Int)∉ab (l.getD i default)):=by rw[a1p h,a03,a05 h];exact Iff.rfl
theorem lW{l:List VInT}{i:Nat}{S:Nat->Prop}{s z:List U64}(h:i<l.length)(hs: ∀r,aD s r=true↔tr (l.drop (i+1)) S r)(E: ∀r,aD z r=((aD s r&& !decide ((r:Int)∈ab (l.getD i default)))||decide ((r:Int)∈aI (l.getD i default))))(r:Nat):aD z r=true↔tr (l.drop i) S r:=by
 rw[tr_drop h,E,←hs r];simp only[a0z,a07,a0B,decide_eq_true_eq,decide_eq_false_iff_not];constructor
 ·rintro(A|A)
  ·exact .inr A
  exact .inl A
 rintro(A|A)
 ·exact .inr A
 exact .inl A
theorem bx{params regs:Int}{v:VInT}(h:fO params regs v=true):(∀x∈aI v,0<=x/\x<regs)/\(∀x∈ab v,0<=x/\x<regs)/\v.args.length<=6:=by
 unfold fO at h;simp only[a07,decide_eq_true_eq]at h;obtain⟨⟨⟨⟨⟨⟨⟨U,N⟩,hl⟩,ad⟩,ha⟩,hb⟩,hc⟩,_⟩:=h;have E:v.i.op=38\/(1<=v.i.op/\v.i.op<=37/\v.i.op≠38):=by unfold alV at U;have:=of_decide_eq_true U;omega
 have hT: ∀{p:Bool} {n:Int},e8 p n regs=true->p=true->0<=n/\n<regs:=by intro p n hp T;subst T;unfold e8 at hp;exact ba.1 (by simpa using hp)
 have Z: ∀k:Fin 37,((aW ((k.val:Int)+1)).ra=true\/(aW ((k.val:Int)+1)).wa=true\/((k.val:Int)+1)=6->aE ((k.val:Int)+1)≠1)/\((aW ((k.val:Int)+1)).rb=true->aE ((k.val:Int)+1)=3\/aE ((k.val:Int)+1)=4\/aE ((k.val:Int)+1)=7)/\((((k.val:Int)+1)=11\/((k.val:Int)+1)=12)->aE ((k.val:Int)+1)=4):=by decide+kernel
 have hA:(aW v.i.op).ra=true\/(aW v.i.op).wa=true\/v.i.op=6\/v.i.op=38->0<=v.i.a/\v.i.a<regs:=by
  intro T;refine hT ha (decide_eq_true ?_);rcases E with e|e
  ·rw[e];decide
  obtain⟨k,hk⟩:=ex37 (op:=v.i.op) ⟨e.1,e.2.1⟩;rw[hk]at T⊢;refine(Z k).1 ?_;rcases T with A|A|A|A
  ·exact .inl A
  ·exact .inr (.inl A)
  ·exact .inr (.inr A)
  omega
 have hB:(aW v.i.op).rb=true->0<=v.i.b/\v.i.b<regs:=by
  intro T;refine hT hb (decide_eq_true ?_);rcases E with e|e
  ·rw[e]at T;exact absurd T e_
  obtain⟨k,hk⟩:=ex37 (op:=v.i.op) ⟨e.1,e.2.1⟩;rw[hk]at T⊢;exact(Z k).2.1 T
 have hC:v.i.op=11\/v.i.op=12->0<=v.i.c/\v.i.c<regs:=by intro T;refine hT hc (decide_eq_true ?_);rcases T with e|e<;>rw[e]<;>decide
 refine⟨fun x z=>?_,fun x z=>?_,hl⟩
 ·unfold aI at z;rw[if_pos U,uni_mem]at z;rcases z with z|z
  ·cases z
  unfold i5 at z;simp only[a08]at z;rcases z with z|z|z|z
  ·split at z
   ·rename_i T;rw[a0f]at z;rw[z];exact hA (.inl T)
   cases z
  ·split at z
   ·rename_i T;rw[a0f]at z;rw[z];exact hB T
   cases z
  ·split at z
   ·rename_i T;rw[a0f]at z;rw[z];exact hC T
   cases z
  split at z
  ·exact ba.1 (a0y.1 ad x z)
  cases z
 unfold ab at z;split at z
 ·rename_i T;rw[a0f]at z;rw[z];refine hA ?_;rcases T.2 with A|A|A
  ·exact .inr (.inl A)
  ·exact .inr (.inr (.inl A))
  exact .inr (.inr (.inr A))
 cases z
structure VF(c:VFnT):Prop where
 regs:0<=c.regs/\c.regs<=3000
 params:0<=c.params/\c.params<=6
 nb:1<=c.blocks.length/\c.blocks.length<=1000
 succ: ∀b,b<c.blocks.length->∀t∈bo (bh c b),0<=t/\t<(c.blocks.length:Int)
 fin: ∀b,b<c.blocks.length->((bh c b).fin=2\/(bh c b).fin=3)->0<=(bh c b).reg/\(bh c b).reg<c.regs
 ins: ∀b,b<c.blocks.length->∀i,i<(bh c b).ins.length->fO c.params c.regs ((bh c b).ins.getD i default)=true
theorem eU{c:VFnT}(h:bT c=true):VF c:=by
 unfold bT at h;rw[a07]at h;obtain⟨A,E⟩:=h;have A:=of_decide_eq_true A;have T: ∀b,b<c.blocks.length->blkV c.params c.regs (c.blocks.length:Int) (bh c b)=true:=fun b N=>all_at E N
 refine⟨by omega,by omega,by omega,fun b N t z=>?_,fun b N Z=>?_,fun b N i hi=>?_⟩
 ·have:=T b N;unfold blkV at this;rw[a07]at this;have U:=cd.1 this.2;unfold bo at z;split at z
  ·rw[a0f]at z;subst z;omega
  split at z
  ·rw[kj,a0f]at z;rcases z with rfl|rfl<;>omega
  cases z
 ·have:=T b N;unfold blkV at this;rw[a07]at this;have U:=cd.1 this.2;omega
 have:=T b N;unfold blkV at this;rw[a07]at this;exact all_at this.1 hi
end Go.Proofs.YtgdggmlghemecaaDoor.ml
