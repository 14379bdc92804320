/-
Plain laws: what the functions compute answers as the statement says. No condition beyond those that each statement names.
-/
import Derived.Test.YtknafdcgpaejlaaDoorZMMA
noncomputable section
namespace Go.Proofs.YtknafdcgpaejlaaDoor.ml
open Go.R m1 m2 m3 m4 m5 m6 ma
set_option linter.unusedVariables false
set_option linter.unusedSimpArgs false
abbrev aW(c:VFnT)(b:Nat):BlkT:=c.blocks.getD b default
def tr:List VInT->(Nat->Prop)->Nat->Prop
 | [],S,r=>S r
 |v::l,S,r=>(r:Int)∈ak v\/(tr l S r/\(r:Int)∉ab v)
theorem kI{S S':Nat->Prop}(h: ∀r,S r->S' r): ∀(l:List VInT) (r:Nat),tr l S r->tr l S' r
 | [],r,hr=>h r hr
 |_::l,r,.inl hr=> .inl hr
 |_::l,r,.inr hr=> .inr ⟨kI h l r hr.1,hr.2⟩
def endS(b:BlkT)(S:Nat->Prop)(r:Nat):Prop:=S r\/(r:Int)∈dr b
theorem endS_mono{b:BlkT}{S S':Nat->Prop}(h: ∀r,S r->S' r)(r:Nat)(A:endS b S r):endS b S' r:=A.imp (h r) id
def inS(b:BlkT)(S:Nat->Prop)(r:Nat):Prop:=tr b.ins (endS b S) r
theorem eN{b:BlkT}{S S':Nat->Prop}(h: ∀r,S r->S' r)(r:Nat)(A:inS b S r):inS b S' r:=kI (endS_mono h) _ r A
def outS(c:VFnT)(I:Nat->Nat->Prop)(b:Nat)(r:Nat):Prop:= ∃t∈bh (aW c b),I t.toNat r
theorem gq{c:VFnT}{I N:Nat->Nat->Prop}(h: ∀b r,I b r->N b r)(b r:Nat):outS c I b r->outS c N b r:=fun⟨t,A,E⟩=>⟨t,A,h _ _ E⟩
def Clo(c:VFnT)(I:Nat->Nat->Prop):Prop:= ∀b,b<c.blocks.length->∀r,inS (aW c b) (outS c I b) r->I b r
def LIn(c:VFnT)(b r:Nat):Prop:= ∀I,Clo c I->I b r
def kw(c:VFnT)(b r:Nat):Prop:=outS c (LIn c) b r
theorem lJ(c:VFnT):Clo c (LIn c):=fun b E r T I A=>A b E r (eN (fun q N=>gq (fun b r h=>h I A) b q N) r T)
theorem LIn_lt{c:VFnT}{b r:Nat}(h:LIn c b r):b<c.blocks.length:=h (fun b _=>b<c.blocks.length) fun _ A _ _=>A
theorem LIn_step{c:VFnT}{b r:Nat}(h:LIn c b r):inS (aW c b) (kw c b) r:=by
 have hb:=LIn_lt h;refine h (fun b r=>inS (aW c b) (kw c b) r) fun Z al r' T=>?_
 refine eN (fun q hq=>?_) r' T;exact gq (fun N V E=>by
  intro I hI;rcases a0i N c.blocks.length with A|A
  ·exact lJ c N A V E I hI
  exfalso;have e:aW c N=default:=cp A;rw[e]at E;rcases E with E|E
  ·obtain⟨t,U,_⟩:=E;rw[e]at U;cases U
  cases E) Z q hq
theorem LIn_iff{c:VFnT}{b r:Nat}(A:b<c.blocks.length):LIn c b r↔inS (aW c b) (kw c b) r:=⟨LIn_step,lJ c b A r⟩
abbrev wds(c:VFnT):Nat:=(Int.tdiv (c.regs+63) 64).toNat
def bI(I:List (List U64))(b r:Nat):Prop:=aC (I.getD b default) r=true
structure Snd(c:VFnT)(I O:List (List U64)):Prop where
 li:I.length=c.blocks.length
 lo:O.length=c.blocks.length
 wi: ∀b,b<c.blocks.length->(I.getD b default).length=wds c
 wo: ∀b,b<c.blocks.length->(O.getD b default).length=wds c
 si: ∀b r,bI I b r->LIn c b r
 so: ∀b r,bI O b r->kw c b r
def Cl1(c:VFnT)(I O:List (List U64))(b:Nat):Prop:=(∀t∈bh (aW c b),∀r,bI I t.toNat r->bI O b r)/\(∀r,inS (aW c b) (bI O b) r->bI I b r)
structure AnF(c:VFnT)(I O:List (List U64)):Prop where
 li:I.length=c.blocks.length
 lo:O.length=c.blocks.length
 wi: ∀b,b<c.blocks.length->(I.getD b default).length=wds c
 wo: ∀b,b<c.blocks.length->(O.getD b default).length=wds c
 hi: ∀b r,bI I b r↔LIn c b r
 ho: ∀b,b<c.blocks.length->∀r,bI O b r↔kw c b r
theorem anF_of{c:VFnT}{I O:List (List U64)}(h:Snd c I O)(hc: ∀b,b<c.blocks.length->Cl1 c I O b):AnF c I O:=by
 have N:Clo c (bI I):=fun b T r V=>(hc b T).2 r (eN (fun q ⟨t,A,E⟩=>(hc b T).1 t A q E) r V)
 refine⟨h.li,h.lo,h.wi,h.wo,fun b r=>⟨h.si b r,fun U=>U _ N⟩,fun b T r=>⟨h.so b r,fun⟨t,A,E⟩=>(hc b T).1 t A r (E _ N)⟩⟩
def kY(I:List (List U64)):Nat:=(I.map fun s=>(fO s).length).sum
theorem cnt_le{c:VFnT}{I:List (List U64)}(U:I.length=c.blocks.length)(V: ∀b,b<c.blocks.length->(I.getD b default).length=wds c):kY I<=c.blocks.length*(64*wds c):=by
 have N: ∀(l:List (List U64)) (B:Nat),(∀s∈l,(fO s).length<=B)->(l.map fun s=>(fO s).length).sum<=l.length*B:=by
  intro l B;induction l with
  |nil=>intro _;simp
  |cons s l ih=>
   intro h
   have E:=ih fun x Z=>h x (a0j _ Z)
   have A:=h s (a0y ..)
   rw[List.map_cons,List.sum_cons,a09,a1i];omega
 rw[←U];refine N I _ fun s hs=>?_
 obtain⟨b,T,rfl⟩:=a0E.1 hs;have:=V b (by omega);rw[a02,a06 T]at this;have A:(fO I[b]).length<=64*I[b].length:=lstK_len;simp only[a0P]at this;rw[this]at A;exact A
theorem lst_more{s U:List U64}(hl:U.length=s.length)(h: ∀i,aC s i=true->aC U i=true){i:Nat}(A:aC U i=true)(N:aC s i=false):(fO s).length<(fO U).length:=by
 have hi:i<64*s.length:=by
  rcases a0i i (64*s.length) with E|E
  ·exact E
  rw[ln (by rw[hl];exact E)]at A;cases A
 unfold fO jW;rw[a1p,a1p,hl];have ag: ∀l:List Nat,(l.filter (aC s)).length<=(l.filter (aC U)).length/\(i∈l->(l.filter (aC s)).length<(l.filter (aC U)).length):=by
  intro l;induction l with
  |nil=>exact⟨a0a _,fun h=>by cases h⟩
  |cons x l ih=>
   rw[a1s,a1s]
   by_cases V:aC s x=true
   ·rw[if_pos V,if_pos (h x V)];refine⟨by simpa using ih.1,fun T=>?_⟩;rcases a0s.1 T with rfl|T
    ·rw[N]at V;cases V
    simpa using ih.2 T
   rw[if_neg V]
   by_cases Z:aC U x=true
   ·rw[if_pos Z];exact⟨by simp;omega,fun _=>by simp;omega⟩
   rw[if_neg Z]
   refine⟨ih.1,fun T=>?_⟩
   rcases a0s.1 T with rfl|T
   ·exact absurd A Z
   exact ih.2 T
 exact(ag _).2 (a1W.2 hi)
theorem sum_set: ∀(l:List Nat) (i x:Nat),i<l.length->(l.set i x).sum+l.getD i 0=l.sum+x
 | [],i,x,h=>by simp at h
 |y::l,0,x,_=>by simp;omega
 |y::l,i+1,x,h=>by have:=sum_set l i x (by simpa using h);simp only[a1S,List.sum_cons,a2d];omega
theorem cnt_set{I:List (List U64)}{b:Nat}(A:b<I.length)(s:List U64):kY (I.set b s)+(fO (I.getD b default)).length=kY I+(fO s).length:=by unfold kY;rw[List.map_set];have:=sum_set (I.map fun s=>(fO s).length) b (fO s).length (by rw[a1p];exact A);rw[a02,a1f,a06 A]at this;rw[a02,a06 A];exact this
def mea(A:Bool)(B n:Nat):Nat:=bif A then 2*(B-n)+1 else 0
theorem mea_lt{m2:Bool}{B n A:Nat}(h:m2=true->n<A)(E:A<=B):mea m2 B A<mea true B n:=by
 unfold mea;cases m2 with
 |false=>simp
 |true=>have:=h rfl;simp;omega
theorem cg{α:Type}{d:α}{l:List α}{i j:Nat}{x:α}:(l.set i x).getD j d=if i=j/\j<l.length then x else l.getD j d:=by
 simp only[a02,List.getElem?_set];by_cases h:i=j
 ·subst h;by_cases A:i<l.length
  ·rw[if_pos rfl,if_pos A,if_pos ⟨rfl,A⟩];rfl
  rw[if_pos rfl,if_neg A,if_neg (fun e=>A e.2),a0C (by omega)]
 rw[if_neg h,if_neg (fun e=>h e.1)]
theorem snd_start{c:VFnT}{I O:List (List U64)}(A:I.length=c.blocks.length)(E:O.length=c.blocks.length)(N: ∀j,j<c.blocks.length->I.getD j default=List.replicate (wds c) ⟨0⟩)(T: ∀j,j<c.blocks.length->O.getD j default=List.replicate (wds c) ⟨0⟩):Snd c I O:=by
 have V: ∀(X:List (List U64)),X.length=c.blocks.length->(∀j,j<c.blocks.length->X.getD j default=List.replicate (wds c) ⟨0⟩)->∀b r,¬bI X b r:=by
  intro X hX Z b r U;unfold bI at U;rcases a0i b c.blocks.length with h|h
  ·rw[Z b h,bit_rep]at U;cases U
  rw[cp (by omega)]at U;rw[ln (a0p _)]at U;cases U
 exact⟨A,E,fun b U=>by rw[N b U,a0D],fun b U=>by rw[T b U,a0D],fun b r h=>absurd h (V I A N b r),fun b r h=>absurd h (V O E T b r)⟩
theorem snd_out{c:VFnT}{I O:List (List U64)}{k:Nat}{t:Int}{s:List U64}(h:Snd c I O)(T:k<c.blocks.length)(U:t∈bh (aW c k))(hs:s.length=(O.getD k default).length)(N: ∀i,aC s i=(aC (O.getD k default) i||aC (I.getD t.toNat default) i)):Snd c I (O.set k s):=by
 refine⟨h.li,by rw[a0b];exact h.lo,h.wi,fun b E=>?_,h.si,fun b r A=>?_⟩
 ·rw[cg];split
  ·rename_i e;rw[hs];exact h.wo k T
  exact h.wo b E
 unfold bI at A;rw[cg]at A;split at A
 ·rename_i e;obtain⟨rfl,_⟩:=e;rw[N,a0M]at A;rcases A with A|A
  ·exact h.so _ r A
  exact⟨t,U,h.si _ r A⟩
 exact h.so b r A
theorem snd_in{c:VFnT}{I O:List (List U64)}{k:Nat}{s E:List U64}(h:Snd c I O)(T:k<c.blocks.length)(hs:E.length=(I.getD k default).length)(U: ∀i,aC E i=(aC (I.getD k default) i||aC s i))(V: ∀r,aC s r=true↔inS (aW c k) (bI O k) r):Snd c (I.set k E) O:=by
 refine⟨by rw[a0b];exact h.li,h.lo,fun b N=>?_,h.wo,fun b r A=>?_,h.so⟩
 ·rw[cg];split
  ·rw[hs];exact h.wi k T
  exact h.wi b N
 unfold bI at A;rw[cg]at A;split at A
 ·rename_i e;obtain⟨rfl,_⟩:=e;rw[U,a0M]at A;rcases A with A|A
  ·exact h.si _ r A
  exact lJ c _ T r (eN (h.so _) r ((V r).1 A))
 exact h.si b r A
theorem cnt_more{I:List (List U64)}{k:Nat}{s U:List U64}(Z:k<I.length)(hs:U.length=(I.getD k default).length)(V: ∀i,aC U i=(aC (I.getD k default) i||aC s i))(hx: ∃i,aC s i=true/\aC (I.getD k default) i=false):kY I<kY (I.set k U):=by obtain⟨i,A,E⟩:=hx;have N:=cnt_set Z U;have T:=lst_more hs (fun i hi=>by rw[V,hi];rfl) (i:=i) (by rw[V,A,Bool.or_true]) E;omega
theorem tr_drop{l:List VInT}{i:Nat}(h:i<l.length)(S:Nat->Prop)(r:Nat):tr (l.drop i) S r↔(r:Int)∈ak (l.getD i default)\/(tr (l.drop (i+1)) S r/\(r:Int)∉ab (l.getD i default)):=by rw[a0R h,a02,a06 h];exact Iff.rfl
theorem tr_next{l:List VInT}{i:Nat}{S:Nat->Prop}{s E:List U64}(h:i<l.length)(hs: ∀r,aC s r=true↔tr (l.drop (i+1)) S r)(N: ∀r,aC E r=((aC s r&& !decide ((r:Int)∈ab (l.getD i default)))||decide ((r:Int)∈ak (l.getD i default))))(r:Nat):aC E r=true↔tr (l.drop i) S r:=by
 rw[tr_drop h,N,←hs r];simp only[a0M,a0f,a0F,decide_eq_true_eq,decide_eq_false_iff_not];constructor
 ·rintro(A|A)
  ·exact .inr A
  exact .inl A
 rintro(A|A)
 ·exact .inr A
 exact .inl A
theorem bu{params regs:Int}{v:VInT}(h:eX params regs v=true):(∀x∈ak v,0<=x/\x<regs)/\(∀x∈ab v,0<=x/\x<regs)/\v.args.length<=6:=by
 unfold eX at h;simp only[a0f,decide_eq_true_eq]at h;obtain⟨⟨⟨⟨⟨⟨⟨V,N⟩,hl⟩,ad⟩,ha⟩,hb⟩,hc⟩,_⟩:=h;have E:v.i.op=38\/(1<=v.i.op/\v.i.op<=37/\v.i.op≠38):=by unfold alV at V;have:=of_decide_eq_true V;omega
 have hT: ∀{p:Bool} {n:Int},dK p n regs=true->p=true->0<=n/\n<regs:=by intro p n hp U;subst U;unfold dK at hp;exact ba.1 (by simpa using hp)
 have Z: ∀k:Fin 37,((aN ((k.val:Int)+1)).ra=true\/(aN ((k.val:Int)+1)).wa=true\/((k.val:Int)+1)=6->aF ((k.val:Int)+1)≠1)/\((aN ((k.val:Int)+1)).rb=true->aF ((k.val:Int)+1)=3\/aF ((k.val:Int)+1)=4\/aF ((k.val:Int)+1)=7)/\((((k.val:Int)+1)=11\/((k.val:Int)+1)=12)->aF ((k.val:Int)+1)=4):=by decide+kernel
 have hA:(aN v.i.op).ra=true\/(aN v.i.op).wa=true\/v.i.op=6\/v.i.op=38->0<=v.i.a/\v.i.a<regs:=by
  intro U;refine hT ha (decide_eq_true ?_);rcases E with e|e
  ·rw[e];decide
  obtain⟨k,hk⟩:=ex37 (op:=v.i.op) ⟨e.1,e.2.1⟩;rw[hk]at U⊢;refine(Z k).1 ?_;rcases U with A|A|A|A
  ·exact .inl A
  ·exact .inr (.inl A)
  ·exact .inr (.inr A)
  omega
 have hB:(aN v.i.op).rb=true->0<=v.i.b/\v.i.b<regs:=by
  intro U;refine hT hb (decide_eq_true ?_);rcases E with e|e
  ·rw[e]at U;exact absurd U (by decide)
  obtain⟨k,hk⟩:=ex37 (op:=v.i.op) ⟨e.1,e.2.1⟩;rw[hk]at U⊢;exact(Z k).2.1 U
 have hC:v.i.op=11\/v.i.op=12->0<=v.i.c/\v.i.c<regs:=by intro U;refine hT hc (decide_eq_true ?_);rcases U with e|e<;>rw[e]<;>decide
 refine⟨fun x T=>?_,fun x T=>?_,hl⟩
 ·unfold ak at T;rw[if_pos V,kH]at T;rcases T with T|T
  ·cases T
  unfold je at T;simp only[a07]at T;rcases T with T|T|T|T
  ·split at T
   ·rename_i U;rw[a0h]at T;rw[T];exact hA (.inl U)
   cases T
  ·split at T
   ·rename_i U;rw[a0h]at T;rw[T];exact hB U
   cases T
  ·split at T
   ·rename_i U;rw[a0h]at T;rw[T];exact hC U
   cases T
  split at T
  ·exact ba.1 (a0v.1 ad x T)
  cases T
 unfold ab at T;split at T
 ·rename_i U;rw[a0h]at T;rw[T];refine hA ?_;rcases U.2 with A|A|A
  ·exact .inr (.inl A)
  ·exact .inr (.inr (.inl A))
  exact .inr (.inr (.inr A))
 cases T
structure VF(c:VFnT):Prop where
 regs:0<=c.regs/\c.regs<=3000
 params:0<=c.params/\c.params<=6
 nb:1<=c.blocks.length/\c.blocks.length<=1000
 succ: ∀b,b<c.blocks.length->∀t∈bh (aW c b),0<=t/\t<(c.blocks.length:Int)
 fin: ∀b,b<c.blocks.length->((aW c b).fin=2\/(aW c b).fin=3)->0<=(aW c b).reg/\(aW c b).reg<c.regs
 ins: ∀b,b<c.blocks.length->∀i,i<(aW c b).ins.length->eX c.params c.regs ((aW c b).ins.getD i default)=true
theorem fB{c:VFnT}(h:bY c=true):VF c:=by
 unfold bY at h;rw[a0f]at h;obtain⟨A,E⟩:=h;have A:=of_decide_eq_true A;have U: ∀b,b<c.blocks.length->lm c.params c.regs (c.blocks.length:Int) (aW c b)=true:=fun b T=>all_at E T
 refine⟨by omega,by omega,by omega,fun b T t N=>?_,fun b T Z=>?_,fun b T i hi=>?_⟩
 ·have:=U b T;unfold lm at this;rw[a0f]at this;have V:=bR.1 this.2;unfold bh at N;split at N
  ·rw[a0h]at N;subst N;omega
  split at N
  ·rw[js,a0h]at N;rcases N with rfl|rfl<;>omega
  cases N
 ·have:=U b T;unfold lm at this;rw[a0f]at this;have V:=bR.1 this.2;omega
 have:=U b T;unfold lm at this;rw[a0f]at this;exact all_at this.1 hi
end Go.Proofs.YtknafdcgpaejlaaDoor.ml
