/-
 Plain laws: what the functions compute answers as the statement says. No condition beyond those that each statement names.
-/
import Derived.Test.YtknafdcgpaejlaaDoorZLMA
noncomputable section
namespace Go.Proofs.YtknafdcgpaejlaaDoor.ml
open Go.R m1 m2 m3 m4 m5 m6 ma
set_option linter.unusedVariables false
set_option linter.unusedSimpArgs false
abbrev bB(c:VFnT)(b:Nat):BlkT:=c.blocks.getD b default
def tr:List VInT->(Nat->Prop)->Nat->Prop
 | [],S,r=>S r
 |v::l,S,r=>(r:Int)∈aF v\/(tr l S r/\(r:Int)∉ab v)
theorem kE{S S':Nat->Prop}(h: ∀r,S r->S' r): ∀(l:List VInT) (r:Nat),tr l S r->tr l S' r
 | [],r,hr=>h r hr
 |_::l,r,.inl hr=> .inl hr
 |_::l,r,.inr hr=> .inr ⟨kE h l r hr.1,hr.2⟩
def endS(b:BlkT)(S:Nat->Prop)(r:Nat):Prop:=S r\/(r:Int)∈dp b
theorem endS_mono{b:BlkT}{S S':Nat->Prop}(h: ∀r,S r->S' r)(r:Nat)(hr:endS b S r):endS b S' r:=hr.imp (h r) id
def inS(b:BlkT)(S:Nat->Prop)(r:Nat):Prop:=tr b.ins (endS b S) r
theorem eL{b:BlkT}{S S':Nat->Prop}(h: ∀r,S r->S' r)(r:Nat)(hr:inS b S r):inS b S' r:=kE (endS_mono h) _ r hr
def outS(c:VFnT)(I:Nat->Nat->Prop)(b:Nat)(r:Nat):Prop:= ∃t∈aZ (bB c b),I t.toNat r
theorem gt{c:VFnT}{I I':Nat->Nat->Prop}(h: ∀b r,I b r->I' b r)(b r:Nat):outS c I b r->outS c I' b r:=fun⟨t,A,E⟩=>⟨t,A,h _ _ E⟩
def Clo(c:VFnT)(I:Nat->Nat->Prop):Prop:= ∀b,b<c.blocks.length->∀r,inS (bB c b) (outS c I b) r->I b r
def LIn(c:VFnT)(b r:Nat):Prop:= ∀I,Clo c I->I b r
def ku(c:VFnT)(b r:Nat):Prop:=outS c (LIn c) b r
theorem lu(c:VFnT):Clo c (LIn c):=fun b hb r hr I hI=>hI b hb r (eL (fun q hq=>gt (fun b r h=>h I hI) b q hq) r hr)
theorem LIn_lt{c:VFnT}{b r:Nat}(h:LIn c b r):b<c.blocks.length:=h (fun b _=>b<c.blocks.length) fun _ hb _ _=>hb
theorem LIn_step{c:VFnT}{b r:Nat}(h:LIn c b r):inS (bB c b) (ku c b) r:=by
 have hb:=LIn_lt h;refine h (fun b r=>inS (bB c b) (ku c b) r) fun b' hb' r' hr'=>eL (fun q hq=>?_) r' hr'
 exact gt (fun b'' r'' h''=>by
  intro I hI;rcases a0i b'' c.blocks.length with A|A
  ·exact lu c b'' A r'' h'' I hI
  exfalso;have e:bB c b''=default:=da A;rw[e]at h'';rcases h'' with h''|h''
  ·obtain⟨t,ht,_⟩:=h'';rw[e]at ht;cases ht
  cases h'') b' q hq
theorem LIn_iff{c:VFnT}{b r:Nat}(hb:b<c.blocks.length):LIn c b r↔inS (bB c b) (ku c b) r:=⟨LIn_step,lu c b hb r⟩
abbrev wds(c:VFnT):Nat:=(Int.tdiv (c.regs+63) 64).toNat
def bI(I:List (List U64))(b r:Nat):Prop:=aB (I.getD b default) r=true
structure Snd(c:VFnT)(I O:List (List U64)):Prop where
 li:I.length=c.blocks.length
 lo:O.length=c.blocks.length
 wi: ∀b,b<c.blocks.length->(I.getD b default).length=wds c
 wo: ∀b,b<c.blocks.length->(O.getD b default).length=wds c
 si: ∀b r,bI I b r->LIn c b r
 so: ∀b r,bI O b r->ku c b r
def Cl1(c:VFnT)(I O:List (List U64))(b:Nat):Prop:=(∀t∈aZ (bB c b),∀r,bI I t.toNat r->bI O b r)/\(∀r,inS (bB c b) (bI O b) r->bI I b r)
structure AnF(c:VFnT)(I O:List (List U64)):Prop where
 li:I.length=c.blocks.length
 lo:O.length=c.blocks.length
 wi: ∀b,b<c.blocks.length->(I.getD b default).length=wds c
 wo: ∀b,b<c.blocks.length->(O.getD b default).length=wds c
 hi: ∀b r,bI I b r↔LIn c b r
 ho: ∀b,b<c.blocks.length->∀r,bI O b r↔ku c b r
theorem anF_of{c:VFnT}{I O:List (List U64)}(h:Snd c I O)(hc: ∀b,b<c.blocks.length->Cl1 c I O b):AnF c I O:=by
 have hclo:Clo c (bI I):=fun b hb r hr=>(hc b hb).2 r (eL (fun q ⟨t,A,E⟩=>(hc b hb).1 t A q E) r hr)
 refine⟨h.li,h.lo,h.wi,h.wo,fun b r=>⟨h.si b r,fun hl=>hl _ hclo⟩,fun b hb r=>⟨h.so b r,fun⟨t,A,E⟩=>(hc b hb).1 t A r (E _ hclo)⟩⟩
def kQ(I:List (List U64)):Nat:=(I.map fun s=>(fV s).length).sum
theorem cnt_le{c:VFnT}{I:List (List U64)}(hl:I.length=c.blocks.length)(hw: ∀b,b<c.blocks.length->(I.getD b default).length=wds c):kQ I<=c.blocks.length*(64*wds c):=by
 have key: ∀(l:List (List U64)) (B:Nat),(∀s∈l,(fV s).length<=B)->(l.map fun s=>(fV s).length).sum<=l.length*B:=by
  intro l B;induction l with
  |nil=>intro _;simp
  |cons s l ih=>
   intro h
   have E:=ih fun x hx=>h x (a0j _ hx)
   have A:=h s (a0z ..)
   rw[List.map_cons,List.sum_cons,a0a,a1e];omega
 rw[←hl];refine key I _ fun s hs=>?_
 obtain⟨b,hb,rfl⟩:=a0x.1 hs;have:=hw b (by omega);rw[a02,a04 hb]at this;have A:(fV I[b]).length<=64*I[b].length:=lstK_len;simp only[a0I]at this;rw[this]at A;exact A
theorem lst_more{s s':List U64}(hl:s'.length=s.length)(h: ∀i,aB s i=true->aB s' i=true){i:Nat}(A:aB s' i=true)(J:aB s i=false):(fV s).length<(fV s').length:=by
 have hi:i<64*s.length:=by
  rcases a0i i (64*s.length) with E|E
  ·exact E
  rw[kV (by rw[hl];exact E)]at A;cases A
 unfold fV jX;rw[a1y,a1y,hl];have key: ∀l:List Nat,(l.filter (aB s)).length<=(l.filter (aB s')).length/\(i∈l->(l.filter (aB s)).length<(l.filter (aB s')).length):=by
  intro l;induction l with
  |nil=>exact⟨a09 _,fun h=>by cases h⟩
  |cons x l ih=>
   rw[a1p,a1p]
   by_cases hx:aB s x=true
   ·rw[if_pos hx,if_pos (h x hx)];refine⟨by simpa using ih.1,fun hm=>?_⟩;rcases a0v.1 hm with rfl|hm
    ·rw[J]at hx;cases hx
    simpa using ih.2 hm
   rw[if_neg hx]
   by_cases hx':aB s' x=true
   ·rw[if_pos hx'];exact⟨by simp;omega,fun _=>by simp;omega⟩
   rw[if_neg hx']
   refine⟨ih.1,fun hm=>?_⟩
   rcases a0v.1 hm with rfl|hm
   ·exact absurd A hx'
   exact ih.2 hm
 exact(key _).2 (a1P.2 hi)
theorem sum_set: ∀(l:List Nat) (i x:Nat),i<l.length->(l.set i x).sum+l.getD i 0=l.sum+x
 | [],i,x,h=>by simp at h
 |y::l,0,x,_=>by simp;omega
 |y::l,i+1,x,h=>by have:=sum_set l i x (by simpa using h);simp only[a1K,List.sum_cons,a27];omega
theorem cnt_set{I:List (List U64)}{b:Nat}(hb:b<I.length)(s:List U64):kQ (I.set b s)+(fV (I.getD b default)).length=kQ I+(fV s).length:=by unfold kQ;rw[List.map_set];have:=sum_set (I.map fun s=>(fV s).length) b (fV s).length (by rw[a1y];exact hb);rw[a02,a1l,a04 hb]at this;rw[a02,a04 hb];exact this
def mea(mo:Bool)(B n:Nat):Nat:=bif mo then 2*(B-n)+1 else 0
theorem mea_lt{m2:Bool}{B n A:Nat}(h:m2=true->n<A)(hB:A<=B):mea m2 B A<mea true B n:=by
 unfold mea;cases m2 with
 |false=>simp
 |true=>have:=h rfl;simp;omega
theorem di{α:Type}{d:α}{l:List α}{i j:Nat}{x:α}:(l.set i x).getD j d=if i=j/\j<l.length then x else l.getD j d:=by
 simp only[a02,List.getElem?_set];by_cases h:i=j
 ·subst h;by_cases A:i<l.length
  ·rw[if_pos rfl,if_pos A,if_pos ⟨rfl,A⟩];rfl
  rw[if_pos rfl,if_neg A,if_neg (fun e=>A e.2),a0O (by omega)]
 rw[if_neg h,if_neg (fun e=>h e.1)]
theorem snd_start{c:VFnT}{I O:List (List U64)}(A:I.length=c.blocks.length)(E:O.length=c.blocks.length)(J: ∀j,j<c.blocks.length->I.getD j default=List.replicate (wds c) ⟨0⟩)(N: ∀j,j<c.blocks.length->O.getD j default=List.replicate (wds c) ⟨0⟩):Snd c I O:=by
 have hz: ∀(X:List (List U64)),X.length=c.blocks.length->(∀j,j<c.blocks.length->X.getD j default=List.replicate (wds c) ⟨0⟩)->∀b r,¬bI X b r:=by
  intro X hX hx b r hb;unfold bI at hb;rcases a0i b c.blocks.length with h|h
  ·rw[hx b h,bit_rep]at hb;cases hb
  rw[da (by omega)]at hb;rw[kV (a0M _)]at hb;cases hb
 exact⟨A,E,fun b hb=>by rw[J b hb,a0E],fun b hb=>by rw[N b hb,a0E],fun b r h=>absurd h (hz I A J b r),fun b r h=>absurd h (hz O E N b r)⟩
theorem snd_out{c:VFnT}{I O:List (List U64)}{k:Nat}{t:Int}{s:List U64}(h:Snd c I O)(hk:k<c.blocks.length)(ht:t∈aZ (bB c k))(hs:s.length=(O.getD k default).length)(hb: ∀i,aB s i=(aB (O.getD k default) i||aB (I.getD t.toNat default) i)):Snd c I (O.set k s):=by
 refine⟨h.li,by rw[a0d];exact h.lo,h.wi,fun b hb'=>?_,h.si,fun b r hr=>?_⟩
 ·rw[di];split
  ·rename_i e;rw[hs];exact h.wo k hk
  exact h.wo b hb'
 unfold bI at hr;rw[di]at hr;split at hr
 ·rename_i e;obtain⟨rfl,_⟩:=e;rw[hb,a0D]at hr;rcases hr with hr|hr
  ·exact h.so _ r hr
  exact⟨t,ht,h.si _ r hr⟩
 exact h.so b r hr
theorem snd_in{c:VFnT}{I O:List (List U64)}{k:Nat}{s s':List U64}(h:Snd c I O)(hk:k<c.blocks.length)(hs:s'.length=(I.getD k default).length)(hb: ∀i,aB s' i=(aB (I.getD k default) i||aB s i))(ht: ∀r,aB s r=true↔inS (bB c k) (bI O k) r):Snd c (I.set k s') O:=by
 refine⟨by rw[a0d];exact h.li,h.lo,fun b hb'=>?_,h.wo,fun b r hr=>?_,h.so⟩
 ·rw[di];split
  ·rw[hs];exact h.wi k hk
  exact h.wi b hb'
 unfold bI at hr;rw[di]at hr;split at hr
 ·rename_i e;obtain⟨rfl,_⟩:=e;rw[hb,a0D]at hr;rcases hr with hr|hr
  ·exact h.si _ r hr
  exact lu c _ hk r (eL (h.so _) r ((ht r).1 hr))
 exact h.si b r hr
theorem cnt_more{I:List (List U64)}{k:Nat}{s s':List U64}(hk:k<I.length)(hs:s'.length=(I.getD k default).length)(hb: ∀i,aB s' i=(aB (I.getD k default) i||aB s i))(hx: ∃i,aB s i=true/\aB (I.getD k default) i=false):kQ I<kQ (I.set k s'):=by obtain⟨i,A,E⟩:=hx;have J:=cnt_set hk s';have N:=lst_more hs (fun i hi=>by rw[hb,hi];rfl) (i:=i) (by rw[hb,A,Bool.or_true]) E;omega
theorem tr_drop{l:List VInT}{i:Nat}(h:i<l.length)(S:Nat->Prop)(r:Nat):tr (l.drop i) S r↔(r:Int)∈aF (l.getD i default)\/(tr (l.drop (i+1)) S r/\(r:Int)∉ab (l.getD i default)):=by rw[a1c h,a02,a04 h];exact Iff.rfl
theorem tr_next{l:List VInT}{i:Nat}{S:Nat->Prop}{s s':List U64}(h:i<l.length)(hs: ∀r,aB s r=true↔tr (l.drop (i+1)) S r)(hb: ∀r,aB s' r=((aB s r&& !decide ((r:Int)∈ab (l.getD i default)))||decide ((r:Int)∈aF (l.getD i default))))(r:Nat):aB s' r=true↔tr (l.drop i) S r:=by
 rw[tr_drop h,hb,←hs r];simp only[a0D,a0c,a0K,decide_eq_true_eq,decide_eq_false_iff_not];constructor
 ·rintro(A|A)
  ·exact .inr A
  exact .inl A
 rintro(A|A)
 ·exact .inr A
 exact .inl A
theorem bE{params regs:Int}{v:VInT}(h:eT params regs v=true):(∀x∈aF v,0<=x/\x<regs)/\(∀x∈ab v,0<=x/\x<regs)/\v.args.length<=6:=by
 unfold eT at h;simp only[a0c,decide_eq_true_eq]at h;obtain⟨⟨⟨⟨⟨⟨⟨hal,J⟩,hl⟩,hargs⟩,ha⟩,hb⟩,hc⟩,_⟩:=h;have E:v.i.op=38\/(1<=v.i.op/\v.i.op<=37/\v.i.op≠38):=by unfold alV at hal;have:=of_decide_eq_true hal;omega
 have hT: ∀{p:Bool} {n:Int},dA p n regs=true->p=true->0<=n/\n<regs:=by intro p n hp hq;subst hq;unfold dA at hp;exact aY.1 (by simpa using hp)
 have tabA: ∀k:Fin 37,((aM ((k.val:Int)+1)).ra=true\/(aM ((k.val:Int)+1)).wa=true\/((k.val:Int)+1)=6->aC ((k.val:Int)+1)≠1)/\((aM ((k.val:Int)+1)).rb=true->aC ((k.val:Int)+1)=3\/aC ((k.val:Int)+1)=4\/aC ((k.val:Int)+1)=7)/\((((k.val:Int)+1)=11\/((k.val:Int)+1)=12)->aC ((k.val:Int)+1)=4):=by decide+kernel
 have hA:(aM v.i.op).ra=true\/(aM v.i.op).wa=true\/v.i.op=6\/v.i.op=38->0<=v.i.a/\v.i.a<regs:=by
  intro hq;refine hT ha (decide_eq_true ?_);rcases E with e|e
  ·rw[e];decide
  obtain⟨k,hk⟩:=ex37 (op:=v.i.op) ⟨e.1,e.2.1⟩;rw[hk]at hq⊢;refine(tabA k).1 ?_;rcases hq with A|A|A|A
  ·exact .inl A
  ·exact .inr (.inl A)
  ·exact .inr (.inr A)
  omega
 have hB:(aM v.i.op).rb=true->0<=v.i.b/\v.i.b<regs:=by
  intro hq;refine hT hb (decide_eq_true ?_);rcases E with e|e
  ·rw[e]at hq;exact absurd hq (by decide)
  obtain⟨k,hk⟩:=ex37 (op:=v.i.op) ⟨e.1,e.2.1⟩;rw[hk]at hq⊢;exact(tabA k).2.1 hq
 have hC:v.i.op=11\/v.i.op=12->0<=v.i.c/\v.i.c<regs:=by intro hq;refine hT hc (decide_eq_true ?_);rcases hq with e|e<;>rw[e]<;>decide
 refine⟨fun x hx=>?_,fun x hx=>?_,hl⟩
 ·unfold aF at hx;rw[if_pos hal,uni_mem]at hx;rcases hx with hx|hx
  ·cases hx
  unfold ia at hx;simp only[a08]at hx;rcases hx with hx|hx|hx|hx
  ·split at hx
   ·rename_i hq;rw[a0f]at hx;rw[hx];exact hA (.inl hq)
   cases hx
  ·split at hx
   ·rename_i hq;rw[a0f]at hx;rw[hx];exact hB hq
   cases hx
  ·split at hx
   ·rename_i hq;rw[a0f]at hx;rw[hx];exact hC hq
   cases hx
  split at hx
  ·exact aY.1 (a0t.1 hargs x hx)
  cases hx
 unfold ab at hx;split at hx
 ·rename_i hq;rw[a0f]at hx;rw[hx];refine hA ?_;rcases hq.2 with A|A|A
  ·exact .inr (.inl A)
  ·exact .inr (.inr (.inl A))
  exact .inr (.inr (.inr A))
 cases hx
structure VF(c:VFnT):Prop where
 regs:0<=c.regs/\c.regs<=3000
 params:0<=c.params/\c.params<=6
 nb:1<=c.blocks.length/\c.blocks.length<=1000
 succ: ∀b,b<c.blocks.length->∀t∈aZ (bB c b),0<=t/\t<(c.blocks.length:Int)
 fin: ∀b,b<c.blocks.length->((bB c b).fin=2\/(bB c b).fin=3)->0<=(bB c b).reg/\(bB c b).reg<c.regs
 ins: ∀b,b<c.blocks.length->∀i,i<(bB c b).ins.length->eT c.params c.regs ((bB c b).ins.getD i default)=true
theorem fE{c:VFnT}(h:b8 c=true):VF c:=by
 unfold b8 at h;rw[a0c]at h;obtain⟨A,E⟩:=h;have A:=of_decide_eq_true A;have hB: ∀b,b<c.blocks.length->blkV c.params c.regs (c.blocks.length:Int) (bB c b)=true:=fun b hb=>all_at E hb
 refine⟨by omega,by omega,by omega,fun b hb t ht=>?_,fun b hb hf=>?_,fun b hb i hi=>?_⟩
 ·have:=hB b hb;unfold blkV at this;rw[a0c]at this;have hv:=bU.1 this.2;unfold aZ at ht;split at ht
  ·rw[a0f]at ht;subst ht;omega
  split at ht
  ·rw[jr,a0f]at ht;rcases ht with rfl|rfl<;>omega
  cases ht
 ·have:=hB b hb;unfold blkV at this;rw[a0c]at this;have hv:=bU.1 this.2;omega
 have:=hB b hb;unfold blkV at this;rw[a0c]at this;exact all_at this.1 hi
end Go.Proofs.YtknafdcgpaejlaaDoor.ml
