/-
Plain laws: what the functions compute answers as the statement says. No condition beyond those that each statement names.
-/
import Derived.Test.YtknafdcgpaejlaaDoorZFMA
noncomputable section
namespace Go.Proofs.YtknafdcgpaejlaaDoor.ml
open Go.R m1 m2 m3 m4 m5 m6 ma
set_option linter.unusedVariables false
set_option linter.unusedSimpArgs false
abbrev aR(c:VFnT)(b:Nat):BlkT:=c.blocks.getD b default
def tr:List VInT->(Nat->Prop)->Nat->Prop
 | [],S,r=>S r
 |v::l,S,r=>(r:Int)∈aB v\/(tr l S r/\(r:Int)∉ab v)
theorem ln{S S':Nat->Prop}(h: ∀r,S r->S' r): ∀(l:List VInT) (r:Nat),tr l S r->tr l S' r
 | [],r,hr=>h r hr
 |_::l,r,.inl hr=> .inl hr
 |_::l,r,.inr hr=> .inr ⟨ln h l r hr.1,hr.2⟩
def endS(b:BlkT)(S:Nat->Prop)(r:Nat):Prop:=S r\/(r:Int)∈dE b
theorem endS_mono{b:BlkT}{S S':Nat->Prop}(h: ∀r,S r->S' r)(r:Nat)(z:endS b S r):endS b S' r:=z.imp (h r) id
def inS(b:BlkT)(S:Nat->Prop)(r:Nat):Prop:=tr b.ins (endS b S) r
theorem eZ{b:BlkT}{S S':Nat->Prop}(h: ∀r,S r->S' r)(r:Nat)(z:inS b S r):inS b S' r:=ln (endS_mono h) _ r z
def outS(c:VFnT)(I:Nat->Nat->Prop)(b:Nat)(r:Nat):Prop:= ∃t∈bh (aR c b),I t.toNat r
theorem gM{c:VFnT}{I z:Nat->Nat->Prop}(h: ∀b r,I b r->z b r)(b r:Nat):outS c I b r->outS c z b r:=fun⟨t,A,E⟩=>⟨t,A,h _ _ E⟩
def Clo(c:VFnT)(I:Nat->Nat->Prop):Prop:= ∀b,b<c.blocks.length->∀r,inS (aR c b) (outS c I b) r->I b r
def LIn(c:VFnT)(b r:Nat):Prop:= ∀I,Clo c I->I b r
def kX(c:VFnT)(b r:Nat):Prop:=outS c (LIn c) b r
theorem l6(c:VFnT):Clo c (LIn c):=fun b A r N I z=>z b A r (eZ (fun q E=>gM (fun b r h=>h I z) b q E) r N)
theorem LIn_lt{c:VFnT}{b r:Nat}(h:LIn c b r):b<c.blocks.length:=h (fun b _=>b<c.blocks.length) fun _ z _ _=>z
theorem LIn_step{c:VFnT}{b r:Nat}(h:LIn c b r):inS (aR c b) (kX c b) r:=by
 have hb:=LIn_lt h;refine h (fun b r=>inS (aR c b) (kX c b) r) fun V ai r' N=>?_
 refine eZ (fun q hq=>?_) r' N;exact gM (fun E U z=>by
  intro I Z;rcases a0k E c.blocks.length with A|A
  ·exact l6 c E A U z I Z
  exfalso;have e:aR c E=default:=cI A;rw[e]at z;rcases z with z|z
  ·obtain⟨t,T,_⟩:=z;rw[e]at T;cases T
  cases z) V q hq
theorem LIn_iff{c:VFnT}{b r:Nat}(z:b<c.blocks.length):LIn c b r↔inS (aR c b) (kX c b) r:=⟨LIn_step,l6 c b z r⟩
abbrev wds(c:VFnT):Nat:=(Int.tdiv (c.regs+63) 64).toNat
def bI(I:List (List U64))(b r:Nat):Prop:=ap (I.getD b default) r=true
structure Snd(c:VFnT)(I O:List (List U64)):Prop where
 li:I.length=c.blocks.length
 lo:O.length=c.blocks.length
 wi: ∀b,b<c.blocks.length->(I.getD b default).length=wds c
 wo: ∀b,b<c.blocks.length->(O.getD b default).length=wds c
 si: ∀b r,bI I b r->LIn c b r
 so: ∀b r,bI O b r->kX c b r
def Cl1(c:VFnT)(I O:List (List U64))(b:Nat):Prop:=(∀t∈bh (aR c b),∀r,bI I t.toNat r->bI O b r)/\(∀r,inS (aR c b) (bI O b) r->bI I b r)
structure AnF(c:VFnT)(I O:List (List U64)):Prop where
 li:I.length=c.blocks.length
 lo:O.length=c.blocks.length
 wi: ∀b,b<c.blocks.length->(I.getD b default).length=wds c
 wo: ∀b,b<c.blocks.length->(O.getD b default).length=wds c
 hi: ∀b r,bI I b r↔LIn c b r
 ho: ∀b,b<c.blocks.length->∀r,bI O b r↔kX c b r
theorem anF_of{c:VFnT}{I O:List (List U64)}(h:Snd c I O)(hc: ∀b,b<c.blocks.length->Cl1 c I O b):AnF c I O:=by
 have z:Clo c (bI I):=fun b N r U=>(hc b N).2 r (eZ (fun q ⟨t,A,E⟩=>(hc b N).1 t A q E) r U)
 refine⟨h.li,h.lo,h.wi,h.wo,fun b r=>⟨h.si b r,fun T=>T _ z⟩,fun b N r=>⟨h.so b r,fun⟨t,A,E⟩=>(hc b N).1 t A r (E _ z)⟩⟩
def lJ(I:List (List U64)):Nat:=(I.map fun s=>(fo s).length).sum
theorem cnt_le{c:VFnT}{I:List (List U64)}(N:I.length=c.blocks.length)(T: ∀b,b<c.blocks.length->(I.getD b default).length=wds c):lJ I<=c.blocks.length*(64*wds c):=by
 have key: ∀(l:List (List U64)) (B:Nat),(∀s∈l,(fo s).length<=B)->(l.map fun s=>(fo s).length).sum<=l.length*B:=by
  intro l B;induction l with
  |nil=>intro _;simp
  |cons s l ih=>
   intro h
   have E:=ih fun x U=>h x (a0h _ U)
   have A:=h s (a0r ..)
   rw[List.map_cons,List.sum_cons,a08,a1m];omega
 rw[←N];refine key I _ fun s hs=>?_
 obtain⟨b,z,rfl⟩:=a0B.1 hs;have:=T b (by omega);rw[a01,a05 z]at this;have A:(fo I[b]).length<=64*I[b].length:=lstK_len;simp only[a0C]at this;rw[this]at A;exact A
theorem lst_more{s T:List U64}(Z:T.length=s.length)(h: ∀i,ap s i=true->ap T i=true){i:Nat}(A:ap T i=true)(N:ap s i=false):(fo s).length<(fo T).length:=by
 have hi:i<64*s.length:=by
  rcases a0k i (64*s.length) with E|E
  ·exact E
  rw[lO (by rw[Z];exact E)]at A;cases A
 unfold fo kB;rw[a1B,a1B,Z];have key: ∀l:List Nat,(l.filter (ap s)).length<=(l.filter (ap T)).length/\(i∈l->(l.filter (ap s)).length<(l.filter (ap T)).length):=by
  intro l;induction l with
  |nil=>exact⟨a0a _,fun h=>by cases h⟩
  |cons x l ih=>
   rw[a1f,a1f]
   by_cases U:ap s x=true
   ·rw[if_pos U,if_pos (h x U)];refine⟨by simpa using ih.1,fun z=>?_⟩;rcases a0m.1 z with rfl|z
    ·rw[N]at U;cases U
    simpa using ih.2 z
   rw[if_neg U]
   by_cases V:ap T x=true
   ·rw[if_pos V];exact⟨by simp;omega,fun _=>by simp;omega⟩
   rw[if_neg V]
   refine⟨ih.1,fun z=>?_⟩
   rcases a0m.1 z with rfl|z
   ·exact absurd A V
   exact ih.2 z
 exact(key _).2 (a22.2 hi)
theorem sum_set: ∀(l:List Nat) (i x:Nat),i<l.length->(l.set i x).sum+l.getD i 0=l.sum+x
 | [],i,x,h=>by simp at h
 |y::l,0,x,_=>by simp;omega
 |y::l,i+1,x,h=>by have:=sum_set l i x (by simpa using h);simp only[a1W,List.sum_cons,a2f];omega
theorem lI{I:List (List U64)}{b:Nat}(z:b<I.length)(s:List U64):lJ (I.set b s)+(fo (I.getD b default)).length=lJ I+(fo s).length:=by unfold lJ;rw[List.map_set];have:=sum_set (I.map fun s=>(fo s).length) b (fo s).length (by rw[a1B];exact z);rw[a01,a1h,a05 z]at this;rw[a01,a05 z];exact this
def mea(z:Bool)(B n:Nat):Nat:=bif z then 2*(B-n)+1 else 0
theorem mea_lt{m2:Bool}{B n A:Nat}(h:m2=true->n<A)(z:A<=B):mea m2 B A<mea true B n:=by
 unfold mea;cases m2 with
 |false=>simp
 |true=>have:=h rfl;simp;omega
theorem b8{α:Type}{d:α}{l:List α}{i j:Nat}{x:α}:(l.set i x).getD j d=if i=j/\j<l.length then x else l.getD j d:=by
 simp only[a01,List.getElem?_set];by_cases h:i=j
 ·subst h;by_cases A:i<l.length
  ·rw[if_pos rfl,if_pos A,if_pos ⟨rfl,A⟩];rfl
  rw[if_pos rfl,if_neg A,if_neg (fun e=>A e.2),a0Q (by omega)]
 rw[if_neg h,if_neg (fun e=>h e.1)]
theorem snd_start{c:VFnT}{I O:List (List U64)}(A:I.length=c.blocks.length)(E:O.length=c.blocks.length)(N: ∀j,j<c.blocks.length->I.getD j default=List.replicate (wds c) ⟨0⟩)(T: ∀j,j<c.blocks.length->O.getD j default=List.replicate (wds c) ⟨0⟩):Snd c I O:=by
 have U: ∀(X:List (List U64)),X.length=c.blocks.length->(∀j,j<c.blocks.length->X.getD j default=List.replicate (wds c) ⟨0⟩)->∀b r,¬bI X b r:=by
  intro X Z V b r z;unfold bI at z;rcases a0k b c.blocks.length with h|h
  ·rw[V b h,bit_rep]at z;cases z
  rw[cI (by omega)]at z;rw[lO (a0D _)]at z;cases z
 exact⟨A,E,fun b z=>by rw[N b z,a0z],fun b z=>by rw[T b z,a0z],fun b r h=>absurd h (U I A N b r),fun b r h=>absurd h (U O E T b r)⟩
theorem snd_out{c:VFnT}{I O:List (List U64)}{k:Nat}{t:Int}{s:List U64}(h:Snd c I O)(N:k<c.blocks.length)(T:t∈bh (aR c k))(hs:s.length=(O.getD k default).length)(E: ∀i,ap s i=(ap (O.getD k default) i||ap (I.getD t.toNat default) i)):Snd c I (O.set k s):=by
 refine⟨h.li,by rw[a0g];exact h.lo,h.wi,fun b A=>?_,h.si,fun b r z=>?_⟩
 ·rw[b8];split
  ·rename_i e;rw[hs];exact h.wo k N
  exact h.wo b A
 unfold bI at z;rw[b8]at z;split at z
 ·rename_i e;obtain⟨rfl,_⟩:=e;rw[E,a0G]at z;rcases z with z|z
  ·exact h.so _ r z
  exact⟨t,T,h.si _ r z⟩
 exact h.so b r z
theorem snd_in{c:VFnT}{I O:List (List U64)}{k:Nat}{s A:List U64}(h:Snd c I O)(N:k<c.blocks.length)(hs:A.length=(I.getD k default).length)(T: ∀i,ap A i=(ap (I.getD k default) i||ap s i))(U: ∀r,ap s r=true↔inS (aR c k) (bI O k) r):Snd c (I.set k A) O:=by
 refine⟨by rw[a0g];exact h.li,h.lo,fun b E=>?_,h.wo,fun b r z=>?_,h.so⟩
 ·rw[b8];split
  ·rw[hs];exact h.wi k N
  exact h.wi b E
 unfold bI at z;rw[b8]at z;split at z
 ·rename_i e;obtain⟨rfl,_⟩:=e;rw[T,a0G]at z;rcases z with z|z
  ·exact h.si _ r z
  exact l6 c _ N r (eZ (h.so _) r ((U r).1 z))
 exact h.si b r z
theorem cnt_more{I:List (List U64)}{k:Nat}{s z:List U64}(V:k<I.length)(hs:z.length=(I.getD k default).length)(U: ∀i,ap z i=(ap (I.getD k default) i||ap s i))(Z: ∃i,ap s i=true/\ap (I.getD k default) i=false):lJ I<lJ (I.set k z):=by obtain⟨i,A,E⟩:=Z;have N:=lI V z;have T:=lst_more hs (fun i hi=>by rw[U,hi];rfl) (i:=i) (by rw[U,A,Bool.or_true]) E;omega
theorem tr_drop{l:List VInT}{i:Nat}(h:i<l.length)(S:Nat->Prop)(r:Nat):tr (l.drop i) S r↔(r:Int)∈aB (l.getD i default)\/(tr (l.drop (i+1)) S r/\(r:Int)∉ab (l.getD i default)):=by rw[a0T h,a01,a05 h];exact Iff.rfl
theorem lm{l:List VInT}{i:Nat}{S:Nat->Prop}{s z:List U64}(h:i<l.length)(hs: ∀r,ap s r=true↔tr (l.drop (i+1)) S r)(E: ∀r,ap z r=((ap s r&& !decide ((r:Int)∈ab (l.getD i default)))||decide ((r:Int)∈aB (l.getD i default))))(r:Nat):ap z r=true↔tr (l.drop i) S r:=by
 rw[tr_drop h,E,←hs r];simp only[a0G,a0e,a0I,decide_eq_true_eq,decide_eq_false_iff_not];constructor
 ·rintro(A|A)
  ·exact .inr A
  exact .inl A
 rintro(A|A)
 ·exact .inr A
 exact .inl A
theorem bu{params regs:Int}{v:VInT}(h:fq params regs v=true):(∀x∈aB v,0<=x/\x<regs)/\(∀x∈ab v,0<=x/\x<regs)/\v.args.length<=6:=by
 unfold fq at h;simp only[a0e,decide_eq_true_eq]at h;obtain⟨⟨⟨⟨⟨⟨⟨U,N⟩,hl⟩,Z⟩,ha⟩,hb⟩,hc⟩,_⟩:=h;have E:v.i.op=38\/(1<=v.i.op/\v.i.op<=37/\v.i.op≠38):=by unfold alV at U;have:=of_decide_eq_true U;omega
 have hT: ∀{p:Bool} {n:Int},dP p n regs=true->p=true->0<=n/\n<regs:=by intro p n hp T;subst T;unfold dP at hp;exact aY.1 (by simpa using hp)
 have V: ∀k:Fin 37,((aM ((k.val:Int)+1)).ra=true\/(aM ((k.val:Int)+1)).wa=true\/((k.val:Int)+1)=6->aA ((k.val:Int)+1)≠1)/\((aM ((k.val:Int)+1)).rb=true->aA ((k.val:Int)+1)=3\/aA ((k.val:Int)+1)=4\/aA ((k.val:Int)+1)=7)/\((((k.val:Int)+1)=11\/((k.val:Int)+1)=12)->aA ((k.val:Int)+1)=4):=by decide+kernel
 have hA:(aM v.i.op).ra=true\/(aM v.i.op).wa=true\/v.i.op=6\/v.i.op=38->0<=v.i.a/\v.i.a<regs:=by
  intro T;refine hT ha (decide_eq_true ?_);rcases E with e|e
  ·rw[e];decide
  obtain⟨k,hk⟩:=ex37 (op:=v.i.op) ⟨e.1,e.2.1⟩;rw[hk]at T⊢;refine(V k).1 ?_;rcases T with A|A|A|A
  ·exact .inl A
  ·exact .inr (.inl A)
  ·exact .inr (.inr A)
  omega
 have hB:(aM v.i.op).rb=true->0<=v.i.b/\v.i.b<regs:=by
  intro T;refine hT hb (decide_eq_true ?_);rcases E with e|e
  ·rw[e]at T;exact absurd T (by decide)
  obtain⟨k,hk⟩:=ex37 (op:=v.i.op) ⟨e.1,e.2.1⟩;rw[hk]at T⊢;exact(V k).2.1 T
 have hC:v.i.op=11\/v.i.op=12->0<=v.i.c/\v.i.c<regs:=by intro T;refine hT hc (decide_eq_true ?_);rcases T with e|e<;>rw[e]<;>decide
 refine⟨fun x z=>?_,fun x z=>?_,hl⟩
 ·unfold aB at z;rw[if_pos U,uni_mem]at z;rcases z with z|z
  ·cases z
  unfold iG at z;simp only[a07]at z;rcases z with z|z|z|z
  ·split at z
   ·rename_i T;rw[a0d]at z;rw[z];exact hA (.inl T)
   cases z
  ·split at z
   ·rename_i T;rw[a0d]at z;rw[z];exact hB T
   cases z
  ·split at z
   ·rename_i T;rw[a0d]at z;rw[z];exact hC T
   cases z
  split at z
  ·exact aY.1 (a0y.1 Z x z)
  cases z
 unfold ab at z;split at z
 ·rename_i T;rw[a0d]at z;rw[z];refine hA ?_;rcases T.2 with A|A|A
  ·exact .inr (.inl A)
  ·exact .inr (.inr (.inl A))
  exact .inr (.inr (.inr A))
 cases z
structure VF(c:VFnT):Prop where
 regs:0<=c.regs/\c.regs<=3000
 params:0<=c.params/\c.params<=6
 nb:1<=c.blocks.length/\c.blocks.length<=1000
 succ: ∀b,b<c.blocks.length->∀t∈bh (aR c b),0<=t/\t<(c.blocks.length:Int)
 fin: ∀b,b<c.blocks.length->((aR c b).fin=2\/(aR c b).fin=3)->0<=(aR c b).reg/\(aR c b).reg<c.regs
 ins: ∀b,b<c.blocks.length->∀i,i<(aR c b).ins.length->fq c.params c.regs ((aR c b).ins.getD i default)=true
theorem eR{c:VFnT}(h:bP c=true):VF c:=by
 unfold bP at h;rw[a0e]at h;obtain⟨A,E⟩:=h;have A:=of_decide_eq_true A;have T: ∀b,b<c.blocks.length->blkV c.params c.regs (c.blocks.length:Int) (aR c b)=true:=fun b N=>all_at E N
 refine⟨by omega,by omega,by omega,fun b N t z=>?_,fun b N V=>?_,fun b N i hi=>?_⟩
 ·have:=T b N;unfold blkV at this;rw[a0e]at this;have U:=bU.1 this.2;unfold bh at z;split at z
  ·rw[a0d]at z;subst z;omega
  split at z
  ·rw[jP,a0d]at z;rcases z with rfl|rfl<;>omega
  cases z
 ·have:=T b N;unfold blkV at this;rw[a0e]at this;have U:=bU.1 this.2;omega
 have:=T b N;unfold blkV at this;rw[a0e]at this;exact all_at this.1 hi
end Go.Proofs.YtknafdcgpaejlaaDoor.ml
