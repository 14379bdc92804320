/-
 Plain laws: what the functions compute answers as the statement says. No condition beyond those that each statement names.
-/
import Derived.Test.YtknafdcgpaejlaaDoorZEMA
noncomputable section
namespace Go.Proofs.YtknafdcgpaejlaaDoor.ml
open Go.R m1 m2 m3 m4 m5 m6 ma
set_option linter.unusedVariables false
set_option linter.unusedSimpArgs false
abbrev aU(c:VFnT)(b:Nat):BlkT:=c.blocks.getD b default
def tr:List VInT->(Nat->Prop)->Nat->Prop
 | [],S,r=>S r
 |v::l,S,r=>(r:Int)∈aH v\/(tr l S r/\(r:Int)∉ab v)
theorem lj{S S':Nat->Prop}(h: ∀r,S r->S' r): ∀(l:List VInT) (r:Nat),tr l S r->tr l S' r
 | [],r,hr=>h r hr
 |_::l,r,.inl hr=> .inl hr
 |_::l,r,.inr hr=> .inr ⟨lj h l r hr.1,hr.2⟩
def endS(b:BlkT)(S:Nat->Prop)(r:Nat):Prop:=S r\/(r:Int)∈dC b
theorem endS_mono{b:BlkT}{S S':Nat->Prop}(h: ∀r,S r->S' r)(r:Nat)(hr:endS b S r):endS b S' r:=hr.imp (h r) id
def inS(b:BlkT)(S:Nat->Prop)(r:Nat):Prop:=tr b.ins (endS b S) r
theorem e7{b:BlkT}{S S':Nat->Prop}(h: ∀r,S r->S' r)(r:Nat)(hr:inS b S r):inS b S' r:=lj (endS_mono h) _ r hr
def outS(c:VFnT)(I:Nat->Nat->Prop)(b:Nat)(r:Nat):Prop:= ∃t∈bc (aU c b),I t.toNat r
theorem gN{c:VFnT}{I I':Nat->Nat->Prop}(h: ∀b r,I b r->I' b r)(b r:Nat):outS c I b r->outS c I' b r:=fun⟨t,A,E⟩=>⟨t,A,h _ _ E⟩
def Clo(c:VFnT)(I:Nat->Nat->Prop):Prop:= ∀b,b<c.blocks.length->∀r,inS (aU c b) (outS c I b) r->I b r
def LIn(c:VFnT)(b r:Nat):Prop:= ∀I,Clo c I->I b r
def kW(c:VFnT)(b r:Nat):Prop:=outS c (LIn c) b r
theorem lZ(c:VFnT):Clo c (LIn c):=fun b hb r hr I hI=>hI b hb r (e7 (fun q hq=>gN (fun b r h=>h I hI) b q hq) r hr)
theorem LIn_lt{c:VFnT}{b r:Nat}(h:LIn c b r):b<c.blocks.length:=h (fun b _=>b<c.blocks.length) fun _ hb _ _=>hb
theorem LIn_step{c:VFnT}{b r:Nat}(h:LIn c b r):inS (aU c b) (kW c b) r:=by
 have hb:=LIn_lt h;refine h (fun b r=>inS (aU c b) (kW c b) r) fun b' hb' r' hr'=>?_
 refine e7 (fun q hq=>?_) r' hr';exact gN (fun b'' r'' h''=>by
  intro I hI;rcases a0j b'' c.blocks.length with A|A
  ·exact lZ c b'' A r'' h'' I hI
  exfalso;have e:aU c b''=default:=cM A;rw[e]at h'';rcases h'' with h''|h''
  ·obtain⟨t,ht,_⟩:=h'';rw[e]at ht;cases ht
  cases h'') b' q hq
theorem LIn_iff{c:VFnT}{b r:Nat}(hb:b<c.blocks.length):LIn c b r↔inS (aU c b) (kW c b) r:=⟨LIn_step,lZ c b hb r⟩
abbrev wds(c:VFnT):Nat:=(Int.tdiv (c.regs+63) 64).toNat
def bI(I:List (List U64))(b r:Nat):Prop:=aA (I.getD b default) r=true
structure Snd(c:VFnT)(I O:List (List U64)):Prop where
 li:I.length=c.blocks.length
 lo:O.length=c.blocks.length
 wi: ∀b,b<c.blocks.length->(I.getD b default).length=wds c
 wo: ∀b,b<c.blocks.length->(O.getD b default).length=wds c
 si: ∀b r,bI I b r->LIn c b r
 so: ∀b r,bI O b r->kW c b r
def Cl1(c:VFnT)(I O:List (List U64))(b:Nat):Prop:=(∀t∈bc (aU c b),∀r,bI I t.toNat r->bI O b r)/\(∀r,inS (aU c b) (bI O b) r->bI I b r)
structure AnF(c:VFnT)(I O:List (List U64)):Prop where
 li:I.length=c.blocks.length
 lo:O.length=c.blocks.length
 wi: ∀b,b<c.blocks.length->(I.getD b default).length=wds c
 wo: ∀b,b<c.blocks.length->(O.getD b default).length=wds c
 hi: ∀b r,bI I b r↔LIn c b r
 ho: ∀b,b<c.blocks.length->∀r,bI O b r↔kW c b r
theorem anF_of{c:VFnT}{I O:List (List U64)}(h:Snd c I O)(hc: ∀b,b<c.blocks.length->Cl1 c I O b):AnF c I O:=by
 have hclo:Clo c (bI I):=fun b hb r hr=>(hc b hb).2 r (e7 (fun q ⟨t,A,E⟩=>(hc b hb).1 t A q E) r hr)
 refine⟨h.li,h.lo,h.wi,h.wo,fun b r=>⟨h.si b r,fun hl=>hl _ hclo⟩,fun b hb r=>⟨h.so b r,fun⟨t,A,E⟩=>(hc b hb).1 t A r (E _ hclo)⟩⟩
def lH(I:List (List U64)):Nat:=(I.map fun s=>(fq s).length).sum
theorem cnt_le{c:VFnT}{I:List (List U64)}(hl:I.length=c.blocks.length)(hw: ∀b,b<c.blocks.length->(I.getD b default).length=wds c):lH I<=c.blocks.length*(64*wds c):=by
 have key: ∀(l:List (List U64)) (B:Nat),(∀s∈l,(fq s).length<=B)->(l.map fun s=>(fq s).length).sum<=l.length*B:=by
  intro l B;induction l with
  |nil=>intro _;simp
  |cons s l ih=>
   intro h
   have E:=ih fun x hx=>h x (a0g _ hx)
   have A:=h s (a0p ..)
   rw[List.map_cons,List.sum_cons,a0a,a1l];omega
 rw[←hl];refine key I _ fun s hs=>?_
 obtain⟨b,hb,rfl⟩:=a0A.1 hs;have:=hw b (by omega);rw[a01,a04 hb]at this;have A:(fq I[b]).length<=64*I[b].length:=lstK_len;simp only[a0B]at this;rw[this]at A;exact A
theorem lst_more{s s':List U64}(hl:s'.length=s.length)(h: ∀i,aA s i=true->aA s' i=true){i:Nat}(A:aA s' i=true)(N:aA s i=false):(fq s).length<(fq s').length:=by
 have hi:i<64*s.length:=by
  rcases a0j i (64*s.length) with E|E
  ·exact E
  rw[lM (by rw[hl];exact E)]at A;cases A
 unfold fq kB;rw[a1B,a1B,hl];have key: ∀l:List Nat,(l.filter (aA s)).length<=(l.filter (aA s')).length/\(i∈l->(l.filter (aA s)).length<(l.filter (aA s')).length):=by
  intro l;induction l with
  |nil=>exact⟨a09 _,fun h=>by cases h⟩
  |cons x l ih=>
   rw[a1e,a1e]
   by_cases hx:aA s x=true
   ·rw[if_pos hx,if_pos (h x hx)];refine⟨by simpa using ih.1,fun hm=>?_⟩;rcases a0n.1 hm with rfl|hm
    ·rw[N]at hx;cases hx
    simpa using ih.2 hm
   rw[if_neg hx]
   by_cases hx':aA s' x=true
   ·rw[if_pos hx'];exact⟨by simp;omega,fun _=>by simp;omega⟩
   rw[if_neg hx']
   refine⟨ih.1,fun hm=>?_⟩
   rcases a0n.1 hm with rfl|hm
   ·exact absurd A hx'
   exact ih.2 hm
 exact(key _).2 (a20.2 hi)
theorem sum_set: ∀(l:List Nat) (i x:Nat),i<l.length->(l.set i x).sum+l.getD i 0=l.sum+x
 | [],i,x,h=>by simp at h
 |y::l,0,x,_=>by simp;omega
 |y::l,i+1,x,h=>by have:=sum_set l i x (by simpa using h);simp only[a1U,List.sum_cons,a2f];omega
theorem lG{I:List (List U64)}{b:Nat}(hb:b<I.length)(s:List U64):lH (I.set b s)+(fq (I.getD b default)).length=lH I+(fq s).length:=by unfold lH;rw[List.map_set];have:=sum_set (I.map fun s=>(fq s).length) b (fq s).length (by rw[a1B];exact hb);rw[a01,a1g,a04 hb]at this;rw[a01,a04 hb];exact this
def mea(mo:Bool)(B n:Nat):Nat:=bif mo then 2*(B-n)+1 else 0
theorem mea_lt{m2:Bool}{B n A:Nat}(h:m2=true->n<A)(hB:A<=B):mea m2 B A<mea true B n:=by
 unfold mea;cases m2 with
 |false=>simp
 |true=>have:=h rfl;simp;omega
theorem cd{α:Type}{d:α}{l:List α}{i j:Nat}{x:α}:(l.set i x).getD j d=if i=j/\j<l.length then x else l.getD j d:=by
 simp only[a01,List.getElem?_set];by_cases h:i=j
 ·subst h;by_cases A:i<l.length
  ·rw[if_pos rfl,if_pos A,if_pos ⟨rfl,A⟩];rfl
  rw[if_pos rfl,if_neg A,if_neg (fun e=>A e.2),a0Q (by omega)]
 rw[if_neg h,if_neg (fun e=>h e.1)]
theorem snd_start{c:VFnT}{I O:List (List U64)}(A:I.length=c.blocks.length)(E:O.length=c.blocks.length)(N: ∀j,j<c.blocks.length->I.getD j default=List.replicate (wds c) ⟨0⟩)(T: ∀j,j<c.blocks.length->O.getD j default=List.replicate (wds c) ⟨0⟩):Snd c I O:=by
 have hz: ∀(X:List (List U64)),X.length=c.blocks.length->(∀j,j<c.blocks.length->X.getD j default=List.replicate (wds c) ⟨0⟩)->∀b r,¬bI X b r:=by
  intro X hX hx b r hb;unfold bI at hb;rcases a0j b c.blocks.length with h|h
  ·rw[hx b h,bit_rep]at hb;cases hb
  rw[cM (by omega)]at hb;rw[lM (a0C _)]at hb;cases hb
 exact⟨A,E,fun b hb=>by rw[N b hb,a0x],fun b hb=>by rw[T b hb,a0x],fun b r h=>absurd h (hz I A N b r),fun b r h=>absurd h (hz O E T b r)⟩
theorem snd_out{c:VFnT}{I O:List (List U64)}{k:Nat}{t:Int}{s:List U64}(h:Snd c I O)(hk:k<c.blocks.length)(ht:t∈bc (aU c k))(hs:s.length=(O.getD k default).length)(hb: ∀i,aA s i=(aA (O.getD k default) i||aA (I.getD t.toNat default) i)):Snd c I (O.set k s):=by
 refine⟨h.li,by rw[a0f];exact h.lo,h.wi,fun b hb'=>?_,h.si,fun b r hr=>?_⟩
 ·rw[cd];split
  ·rename_i e;rw[hs];exact h.wo k hk
  exact h.wo b hb'
 unfold bI at hr;rw[cd]at hr;split at hr
 ·rename_i e;obtain⟨rfl,_⟩:=e;rw[hb,a0F]at hr;rcases hr with hr|hr
  ·exact h.so _ r hr
  exact⟨t,ht,h.si _ r hr⟩
 exact h.so b r hr
theorem snd_in{c:VFnT}{I O:List (List U64)}{k:Nat}{s s':List U64}(h:Snd c I O)(hk:k<c.blocks.length)(hs:s'.length=(I.getD k default).length)(hb: ∀i,aA s' i=(aA (I.getD k default) i||aA s i))(ht: ∀r,aA s r=true↔inS (aU c k) (bI O k) r):Snd c (I.set k s') O:=by
 refine⟨by rw[a0f];exact h.li,h.lo,fun b hb'=>?_,h.wo,fun b r hr=>?_,h.so⟩
 ·rw[cd];split
  ·rw[hs];exact h.wi k hk
  exact h.wi b hb'
 unfold bI at hr;rw[cd]at hr;split at hr
 ·rename_i e;obtain⟨rfl,_⟩:=e;rw[hb,a0F]at hr;rcases hr with hr|hr
  ·exact h.si _ r hr
  exact lZ c _ hk r (e7 (h.so _) r ((ht r).1 hr))
 exact h.si b r hr
theorem cnt_more{I:List (List U64)}{k:Nat}{s s':List U64}(hk:k<I.length)(hs:s'.length=(I.getD k default).length)(hb: ∀i,aA s' i=(aA (I.getD k default) i||aA s i))(hx: ∃i,aA s i=true/\aA (I.getD k default) i=false):lH I<lH (I.set k s'):=by obtain⟨i,A,E⟩:=hx;have N:=lG hk s';have T:=lst_more hs (fun i hi=>by rw[hb,hi];rfl) (i:=i) (by rw[hb,A,Bool.or_true]) E;omega
theorem tr_drop{l:List VInT}{i:Nat}(h:i<l.length)(S:Nat->Prop)(r:Nat):tr (l.drop i) S r↔(r:Int)∈aH (l.getD i default)\/(tr (l.drop (i+1)) S r/\(r:Int)∉ab (l.getD i default)):=by rw[a0T h,a01,a04 h];exact Iff.rfl
theorem lh{l:List VInT}{i:Nat}{S:Nat->Prop}{s s':List U64}(h:i<l.length)(hs: ∀r,aA s r=true↔tr (l.drop (i+1)) S r)(hb: ∀r,aA s' r=((aA s r&& !decide ((r:Int)∈ab (l.getD i default)))||decide ((r:Int)∈aH (l.getD i default))))(r:Nat):aA s' r=true↔tr (l.drop i) S r:=by
 rw[tr_drop h,hb,←hs r];simp only[a0F,a0d,a0G,decide_eq_true_eq,decide_eq_false_iff_not];constructor
 ·rintro(A|A)
  ·exact .inr A
  exact .inl A
 rintro(A|A)
 ·exact .inr A
 exact .inl A
theorem bu{params regs:Int}{v:VInT}(h:fj params regs v=true):(∀x∈aH v,0<=x/\x<regs)/\(∀x∈ab v,0<=x/\x<regs)/\v.args.length<=6:=by
 unfold fj at h;simp only[a0d,decide_eq_true_eq]at h;obtain⟨⟨⟨⟨⟨⟨⟨hal,N⟩,hl⟩,hargs⟩,ha⟩,hb⟩,hc⟩,_⟩:=h;have E:v.i.op=38\/(1<=v.i.op/\v.i.op<=37/\v.i.op≠38):=by unfold alV at hal;have:=of_decide_eq_true hal;omega
 have hT: ∀{p:Bool} {n:Int},dI p n regs=true->p=true->0<=n/\n<regs:=by intro p n hp hq;subst hq;unfold dI at hp;exact aZ.1 (by simpa using hp)
 have tabA: ∀k:Fin 37,((aP ((k.val:Int)+1)).ra=true\/(aP ((k.val:Int)+1)).wa=true\/((k.val:Int)+1)=6->aD ((k.val:Int)+1)≠1)/\((aP ((k.val:Int)+1)).rb=true->aD ((k.val:Int)+1)=3\/aD ((k.val:Int)+1)=4\/aD ((k.val:Int)+1)=7)/\((((k.val:Int)+1)=11\/((k.val:Int)+1)=12)->aD ((k.val:Int)+1)=4):=by decide+kernel
 have hA:(aP v.i.op).ra=true\/(aP v.i.op).wa=true\/v.i.op=6\/v.i.op=38->0<=v.i.a/\v.i.a<regs:=by
  intro hq;refine hT ha (decide_eq_true ?_);rcases E with e|e
  ·rw[e];decide
  obtain⟨k,hk⟩:=ex37 (op:=v.i.op) ⟨e.1,e.2.1⟩;rw[hk]at hq⊢;refine(tabA k).1 ?_;rcases hq with A|A|A|A
  ·exact .inl A
  ·exact .inr (.inl A)
  ·exact .inr (.inr A)
  omega
 have hB:(aP v.i.op).rb=true->0<=v.i.b/\v.i.b<regs:=by
  intro hq;refine hT hb (decide_eq_true ?_);rcases E with e|e
  ·rw[e]at hq;exact absurd hq (by decide)
  obtain⟨k,hk⟩:=ex37 (op:=v.i.op) ⟨e.1,e.2.1⟩;rw[hk]at hq⊢;exact(tabA k).2.1 hq
 have hC:v.i.op=11\/v.i.op=12->0<=v.i.c/\v.i.c<regs:=by intro hq;refine hT hc (decide_eq_true ?_);rcases hq with e|e<;>rw[e]<;>decide
 refine⟨fun x hx=>?_,fun x hx=>?_,hl⟩
 ·unfold aH at hx;rw[if_pos hal,uni_mem]at hx;rcases hx with hx|hx
  ·cases hx
  unfold iH at hx;simp only[a08]at hx;rcases hx with hx|hx|hx|hx
  ·split at hx
   ·rename_i hq;rw[a0b]at hx;rw[hx];exact hA (.inl hq)
   cases hx
  ·split at hx
   ·rename_i hq;rw[a0b]at hx;rw[hx];exact hB hq
   cases hx
  ·split at hx
   ·rename_i hq;rw[a0b]at hx;rw[hx];exact hC hq
   cases hx
  split at hx
  ·exact aZ.1 (a0w.1 hargs x hx)
  cases hx
 unfold ab at hx;split at hx
 ·rename_i hq;rw[a0b]at hx;rw[hx];refine hA ?_;rcases hq.2 with A|A|A
  ·exact .inr (.inl A)
  ·exact .inr (.inr (.inl A))
  exact .inr (.inr (.inr A))
 cases hx
structure VF(c:VFnT):Prop where
 regs:0<=c.regs/\c.regs<=3000
 params:0<=c.params/\c.params<=6
 nb:1<=c.blocks.length/\c.blocks.length<=1000
 succ: ∀b,b<c.blocks.length->∀t∈bc (aU c b),0<=t/\t<(c.blocks.length:Int)
 fin: ∀b,b<c.blocks.length->((aU c b).fin=2\/(aU c b).fin=3)->0<=(aU c b).reg/\(aU c b).reg<c.regs
 ins: ∀b,b<c.blocks.length->∀i,i<(aU c b).ins.length->fj c.params c.regs ((aU c b).ins.getD i default)=true
theorem eT{c:VFnT}(h:bJ c=true):VF c:=by
 unfold bJ at h;rw[a0d]at h;obtain⟨A,E⟩:=h;have A:=of_decide_eq_true A;have hB: ∀b,b<c.blocks.length->blkV c.params c.regs (c.blocks.length:Int) (aU c b)=true:=fun b hb=>all_at E hb
 refine⟨by omega,by omega,by omega,fun b hb t ht=>?_,fun b hb hf=>?_,fun b hb i hi=>?_⟩
 ·have:=hB b hb;unfold blkV at this;rw[a0d]at this;have hv:=bX.1 this.2;unfold bc at ht;split at ht
  ·rw[a0b]at ht;subst ht;omega
  split at ht
  ·rw[jP,a0b]at ht;rcases ht with rfl|rfl<;>omega
  cases ht
 ·have:=hB b hb;unfold blkV at this;rw[a0d]at this;have hv:=bX.1 this.2;omega
 have:=hB b hb;unfold blkV at this;rw[a0d]at this;exact all_at this.1 hi
end Go.Proofs.YtknafdcgpaejlaaDoor.ml
